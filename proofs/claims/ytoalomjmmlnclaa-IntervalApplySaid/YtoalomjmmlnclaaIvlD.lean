/- The contract of interval.decide: the comparisons and the logical operators on two intervals. -/
import Derived.Test.YtoalomjmmlnclaaIvlA
import Derived.Test.YtoalomjmmlnclaaQ1
namespace Go.Proofs.Ytoalomjmmlnclaa.Ivl
open Go.RowKit Go.Proofs.Ytoalomjmmlnclaa.PIntervalApply Go.Proofs.YtoalomjmmlnclaaW.PrintWords Go.Proofs.YtoalomjmmlnclaaW.PrintLast
open List renaming setIfInBounds_toArray → zA, set_cons_zero → zB, set_cons_succ → zC
open Go.Proofs.Ytoalomjmmlnclaa.M
attribute [local go_sem] max2_int min2_int max_two min_two max_three min_three max_four min_four
attribute [local go_sem high] eqA38
set_option linter.unusedVariables false
set_option linter.unusedSimpArgs false

set_option maxHeartbeats 2000000 in
set_option maxRecDepth 100000 in
theorem none_c (lo hi : Int) (r : Bool) (h : nonev lo hi = r) (w : World) : Calls Try.prog 82 #[.agg #[.int .i32 lo, .int .i32 hi]] w fun e w' => e = .returned (.bool r) ∧ Below w.heap.size w w' := by
  have hu38 := Try.underlying38
  have HB := Aside0.mk (Below.refl w.heap.size w)
  have h' : (lo == 0 && (hi == 0)) = r := by rw [← h]; by_cases a : lo = 0 <;> by_cases b : hi = 0 <;> simp [nonev, a, b]
  clear h
  go_enter Try.func82, Try.ntmps82
  go_wp2
  go_region_held3 (fun w' => w'.cell? ⟨w.heap.size, 0, none⟩ = some (.int .i32 lo) ∧ w'.cell? ⟨w.heap.size, 1, none⟩ = some (.int .i32 hi)) ((first | exact keep2 (by assumption) (by assumption) | go_keep))
    ((go_at_call 44; with_reducible refine (of_c 0 _).mono ?_; rintro e w' ⟨rfl, hb⟩; have HN := Aside0.mk (below_step (by repeat (first | exact HB.out | apply below_alloc | apply pw_below_drewN | apply below_drew1)) hb)))
  go_wp2
  go_ret
  exact ⟨by first | rfl | (simp; done) | (simp [*]; done), HN.out⟩

set_option maxHeartbeats 2000000 in
set_option maxRecDepth 100000 in
theorem some_c (lo hi : Int) (r : Bool) (h : somev lo hi = r) (w : World) : Calls Try.prog 81 #[.agg #[.int .i32 lo, .int .i32 hi]] w fun e w' => e = .returned (.bool r) ∧ Below w.heap.size w w' := by
  have hu38 := Try.underlying38
  have HB := Aside0.mk (Below.refl w.heap.size w)
  obtain ⟨q, hq⟩ : ∃ q, hasv lo hi 0 = q := ⟨_, rfl⟩
  have e1 : r = !q := by rw [← h, ← hq]; rfl
  subst e1
  have HQ := Aside0.mk hq
  clear h hq
  go_enter Try.func81, Try.ntmps81
  go_wp2_with (go_at_call 30; (with_reducible refine (contains_c lo hi 0 q HQ.out _).mono ?_); rintro e w' ⟨rfl, hb⟩; have HN := Aside0.mk (below_step (by repeat (first | exact HB.out | apply below_alloc | apply pw_below_drewN | apply below_drew1)) hb))
  go_ret
  exact ⟨by first | rfl | (simp; done) | (simp [*]; done), HN.out⟩

set_option maxHeartbeats 4000000 in
set_option maxRecDepth 100000 in
theorem decide16 (a b c d m n r s : Int) (ap : Bool) (hm : Aside0 (meetv a b c d = (m, n))) (hap : Aside0 (decide (n < m) = ap)) (ht : Aside0 (truthv false ap = (r, s))) (w : World) : Calls Try.prog 64 #[.int .u8 16, .agg #[.int .i32 a, .int .i32 b], .agg #[.int .i32 c, .int .i32 d]] w fun e w' => e = .returned (.agg #[.int .i32 r, .int .i32 s]) ∧ Below w.heap.size w w' := by
  have hu38 := Try.underlying38
  go_enter Try.func64, Try.ntmps64
  go_upto_region 1 with (fail)
  have HB := Aside0.mk (Bx.start3 w a b c d 0 0)
  generalize World.alloc (World.alloc (World.alloc w _) _) _ = w0 at HB ⊢
  have C := HB.out.cl
  simp only [Cl, and_true] at C
  obtain ⟨_, _, _, _, _, _, _, _, _, _, _, _⟩ := C
  go_wp2_with fail
  (with_reducible refine (meet_c a b c d m n hm.out _).mono ?_); rintro e w' ⟨rfl, hb⟩
  replace HB := Aside0.mk (HB.out.step hb)
  clear hb
  have C := HB.out.cl
  simp only [Cl, and_true] at C
  obtain ⟨_, _, _, _, _, _, _, _, _, _, _, _⟩ := C
  go_wp2_with fail
  (with_reducible refine (isE_c m n ap hap.out _).mono ?_); rintro e w' ⟨rfl, hb⟩
  replace HB := Aside0.mk (HB.out.step hb)
  clear hb
  have C := HB.out.cl
  simp only [Cl, and_true] at C
  obtain ⟨_, _, _, _, _, _, _, _, _, _, _, _⟩ := C
  go_wp2_with fail
  (with_reducible refine (truth_c false ap r s ht.out _).mono ?_); rintro e w' ⟨rfl, hb⟩
  replace HB := Aside0.mk (HB.out.step hb)
  clear hb
  have C := HB.out.cl
  simp only [Cl, and_true] at C
  obtain ⟨_, _, _, _, _, _, _, _, _, _, _, _⟩ := C
  go_wp2_with fail
  obtain ⟨R1, R2⟩ := HB.out.ret 2 rfl (by omega) r s
  refine bodyPost_ret (results_cell_row rfl _ _ (w.heap.size + 1 + 1) 38 #[.int .i32 r, .int .i32 s] (0, 0) _ rfl R1 Try.underlying38 rfl (by kernel_rfl)) rfl ⟨rfl, R2⟩

set_option maxHeartbeats 4000000 in
set_option maxRecDepth 100000 in
theorem decide17 (a b c d m n r s : Int) (ap : Bool) (hm : Aside0 (meetv a b c d = (m, n))) (hap : Aside0 (decide (n < m) = ap)) (ht : Aside0 (truthv ap false = (r, s))) (w : World) : Calls Try.prog 64 #[.int .u8 17, .agg #[.int .i32 a, .int .i32 b], .agg #[.int .i32 c, .int .i32 d]] w fun e w' => e = .returned (.agg #[.int .i32 r, .int .i32 s]) ∧ Below w.heap.size w w' := by
  have hu38 := Try.underlying38
  go_enter Try.func64, Try.ntmps64
  go_upto_region 1 with (fail)
  have HB := Aside0.mk (Bx.start3 w a b c d 0 0)
  generalize World.alloc (World.alloc (World.alloc w _) _) _ = w0 at HB ⊢
  have C := HB.out.cl
  simp only [Cl, and_true] at C
  obtain ⟨_, _, _, _, _, _, _, _, _, _, _, _⟩ := C
  go_wp2_with fail
  (with_reducible refine (meet_c a b c d m n hm.out _).mono ?_); rintro e w' ⟨rfl, hb⟩
  replace HB := Aside0.mk (HB.out.step hb)
  clear hb
  have C := HB.out.cl
  simp only [Cl, and_true] at C
  obtain ⟨_, _, _, _, _, _, _, _, _, _, _, _⟩ := C
  go_wp2_with fail
  (with_reducible refine (isE_c m n ap hap.out _).mono ?_); rintro e w' ⟨rfl, hb⟩
  replace HB := Aside0.mk (HB.out.step hb)
  clear hb
  have C := HB.out.cl
  simp only [Cl, and_true] at C
  obtain ⟨_, _, _, _, _, _, _, _, _, _, _, _⟩ := C
  go_wp2_with fail
  (with_reducible refine (truth_c ap false r s ht.out _).mono ?_); rintro e w' ⟨rfl, hb⟩
  replace HB := Aside0.mk (HB.out.step hb)
  clear hb
  have C := HB.out.cl
  simp only [Cl, and_true] at C
  obtain ⟨_, _, _, _, _, _, _, _, _, _, _, _⟩ := C
  go_wp2_with fail
  obtain ⟨R1, R2⟩ := HB.out.ret 2 rfl (by omega) r s
  refine bodyPost_ret (results_cell_row rfl _ _ (w.heap.size + 1 + 1) 38 #[.int .i32 r, .int .i32 s] (0, 0) _ rfl R1 Try.underlying38 rfl (by kernel_rfl)) rfl ⟨rfl, R2⟩

set_option maxHeartbeats 4000000 in
set_option maxRecDepth 100000 in
theorem decide18 (a b c d m n r s : Int) (ap : Bool) (hm : Aside0 (meetv a b c d = (m, n))) (hap : Aside0 (decide (n < m) = ap)) (ht : Aside0 (truthv (decide (b < c)) (decide (d ≤ a)) = (r, s))) (w : World) : Calls Try.prog 64 #[.int .u8 18, .agg #[.int .i32 a, .int .i32 b], .agg #[.int .i32 c, .int .i32 d]] w fun e w' => e = .returned (.agg #[.int .i32 r, .int .i32 s]) ∧ Below w.heap.size w w' := by
  have hu38 := Try.underlying38
  go_enter Try.func64, Try.ntmps64
  go_upto_region 1 with (fail)
  have HB := Aside0.mk (Bx.start3 w a b c d 0 0)
  generalize World.alloc (World.alloc (World.alloc w _) _) _ = w0 at HB ⊢
  have C := HB.out.cl
  simp only [Cl, and_true] at C
  obtain ⟨_, _, _, _, _, _, _, _, _, _, _, _⟩ := C
  go_wp2_with fail
  (with_reducible refine (meet_c a b c d m n hm.out _).mono ?_); rintro e w' ⟨rfl, hb⟩
  replace HB := Aside0.mk (HB.out.step hb)
  clear hb
  have C := HB.out.cl
  simp only [Cl, and_true] at C
  obtain ⟨_, _, _, _, _, _, _, _, _, _, _, _⟩ := C
  go_wp2_with fail
  (with_reducible refine (isE_c m n ap hap.out _).mono ?_); rintro e w' ⟨rfl, hb⟩
  replace HB := Aside0.mk (HB.out.step hb)
  clear hb
  have C := HB.out.cl
  simp only [Cl, and_true] at C
  obtain ⟨_, _, _, _, _, _, _, _, _, _, _, _⟩ := C
  go_wp2_with fail
  (with_reducible refine (truth_c (decide (b < c)) (decide (d ≤ a)) r s ht.out _).mono ?_); rintro e w' ⟨rfl, hb⟩
  replace HB := Aside0.mk (HB.out.step hb)
  clear hb
  have C := HB.out.cl
  simp only [Cl, and_true] at C
  obtain ⟨_, _, _, _, _, _, _, _, _, _, _, _⟩ := C
  go_wp2_with fail
  obtain ⟨R1, R2⟩ := HB.out.ret 2 rfl (by omega) r s
  refine bodyPost_ret (results_cell_row rfl _ _ (w.heap.size + 1 + 1) 38 #[.int .i32 r, .int .i32 s] (0, 0) _ rfl R1 Try.underlying38 rfl (by kernel_rfl)) rfl ⟨rfl, R2⟩

set_option maxHeartbeats 4000000 in
set_option maxRecDepth 100000 in
theorem decide19 (a b c d m n r s : Int) (ap : Bool) (hm : Aside0 (meetv a b c d = (m, n))) (hap : Aside0 (decide (n < m) = ap)) (ht : Aside0 (truthv (decide (b ≤ c)) (decide (d < a)) = (r, s))) (w : World) : Calls Try.prog 64 #[.int .u8 19, .agg #[.int .i32 a, .int .i32 b], .agg #[.int .i32 c, .int .i32 d]] w fun e w' => e = .returned (.agg #[.int .i32 r, .int .i32 s]) ∧ Below w.heap.size w w' := by
  have hu38 := Try.underlying38
  go_enter Try.func64, Try.ntmps64
  go_upto_region 1 with (fail)
  have HB := Aside0.mk (Bx.start3 w a b c d 0 0)
  generalize World.alloc (World.alloc (World.alloc w _) _) _ = w0 at HB ⊢
  have C := HB.out.cl
  simp only [Cl, and_true] at C
  obtain ⟨_, _, _, _, _, _, _, _, _, _, _, _⟩ := C
  go_wp2_with fail
  (with_reducible refine (meet_c a b c d m n hm.out _).mono ?_); rintro e w' ⟨rfl, hb⟩
  replace HB := Aside0.mk (HB.out.step hb)
  clear hb
  have C := HB.out.cl
  simp only [Cl, and_true] at C
  obtain ⟨_, _, _, _, _, _, _, _, _, _, _, _⟩ := C
  go_wp2_with fail
  (with_reducible refine (isE_c m n ap hap.out _).mono ?_); rintro e w' ⟨rfl, hb⟩
  replace HB := Aside0.mk (HB.out.step hb)
  clear hb
  have C := HB.out.cl
  simp only [Cl, and_true] at C
  obtain ⟨_, _, _, _, _, _, _, _, _, _, _, _⟩ := C
  go_wp2_with fail
  (with_reducible refine (truth_c (decide (b ≤ c)) (decide (d < a)) r s ht.out _).mono ?_); rintro e w' ⟨rfl, hb⟩
  replace HB := Aside0.mk (HB.out.step hb)
  clear hb
  have C := HB.out.cl
  simp only [Cl, and_true] at C
  obtain ⟨_, _, _, _, _, _, _, _, _, _, _, _⟩ := C
  go_wp2_with fail
  obtain ⟨R1, R2⟩ := HB.out.ret 2 rfl (by omega) r s
  refine bodyPost_ret (results_cell_row rfl _ _ (w.heap.size + 1 + 1) 38 #[.int .i32 r, .int .i32 s] (0, 0) _ rfl R1 Try.underlying38 rfl (by kernel_rfl)) rfl ⟨rfl, R2⟩

set_option maxHeartbeats 4000000 in
set_option maxRecDepth 100000 in
theorem decide20 (a b c d m n r s : Int) (ap : Bool) (hm : Aside0 (meetv a b c d = (m, n))) (hap : Aside0 (decide (n < m) = ap)) (ht : Aside0 (truthv (decide (d < a)) (decide (b ≤ c)) = (r, s))) (w : World) : Calls Try.prog 64 #[.int .u8 20, .agg #[.int .i32 a, .int .i32 b], .agg #[.int .i32 c, .int .i32 d]] w fun e w' => e = .returned (.agg #[.int .i32 r, .int .i32 s]) ∧ Below w.heap.size w w' := by
  have hu38 := Try.underlying38
  go_enter Try.func64, Try.ntmps64
  go_upto_region 1 with (fail)
  have HB := Aside0.mk (Bx.start3 w a b c d 0 0)
  generalize World.alloc (World.alloc (World.alloc w _) _) _ = w0 at HB ⊢
  have C := HB.out.cl
  simp only [Cl, and_true] at C
  obtain ⟨_, _, _, _, _, _, _, _, _, _, _, _⟩ := C
  go_wp2_with fail
  (with_reducible refine (meet_c a b c d m n hm.out _).mono ?_); rintro e w' ⟨rfl, hb⟩
  replace HB := Aside0.mk (HB.out.step hb)
  clear hb
  have C := HB.out.cl
  simp only [Cl, and_true] at C
  obtain ⟨_, _, _, _, _, _, _, _, _, _, _, _⟩ := C
  go_wp2_with fail
  (with_reducible refine (isE_c m n ap hap.out _).mono ?_); rintro e w' ⟨rfl, hb⟩
  replace HB := Aside0.mk (HB.out.step hb)
  clear hb
  have C := HB.out.cl
  simp only [Cl, and_true] at C
  obtain ⟨_, _, _, _, _, _, _, _, _, _, _, _⟩ := C
  go_wp2_with fail
  (with_reducible refine (truth_c (decide (d < a)) (decide (b ≤ c)) r s ht.out _).mono ?_); rintro e w' ⟨rfl, hb⟩
  replace HB := Aside0.mk (HB.out.step hb)
  clear hb
  have C := HB.out.cl
  simp only [Cl, and_true] at C
  obtain ⟨_, _, _, _, _, _, _, _, _, _, _, _⟩ := C
  go_wp2_with fail
  obtain ⟨R1, R2⟩ := HB.out.ret 2 rfl (by omega) r s
  refine bodyPost_ret (results_cell_row rfl _ _ (w.heap.size + 1 + 1) 38 #[.int .i32 r, .int .i32 s] (0, 0) _ rfl R1 Try.underlying38 rfl (by kernel_rfl)) rfl ⟨rfl, R2⟩

set_option maxHeartbeats 4000000 in
set_option maxRecDepth 100000 in
theorem decide21 (a b c d m n r s : Int) (ap : Bool) (hm : Aside0 (meetv a b c d = (m, n))) (hap : Aside0 (decide (n < m) = ap)) (ht : Aside0 (truthv (decide (d ≤ a)) (decide (b < c)) = (r, s))) (w : World) : Calls Try.prog 64 #[.int .u8 21, .agg #[.int .i32 a, .int .i32 b], .agg #[.int .i32 c, .int .i32 d]] w fun e w' => e = .returned (.agg #[.int .i32 r, .int .i32 s]) ∧ Below w.heap.size w w' := by
  have hu38 := Try.underlying38
  go_enter Try.func64, Try.ntmps64
  go_upto_region 1 with (fail)
  have HB := Aside0.mk (Bx.start3 w a b c d 0 0)
  generalize World.alloc (World.alloc (World.alloc w _) _) _ = w0 at HB ⊢
  have C := HB.out.cl
  simp only [Cl, and_true] at C
  obtain ⟨_, _, _, _, _, _, _, _, _, _, _, _⟩ := C
  go_wp2_with fail
  (with_reducible refine (meet_c a b c d m n hm.out _).mono ?_); rintro e w' ⟨rfl, hb⟩
  replace HB := Aside0.mk (HB.out.step hb)
  clear hb
  have C := HB.out.cl
  simp only [Cl, and_true] at C
  obtain ⟨_, _, _, _, _, _, _, _, _, _, _, _⟩ := C
  go_wp2_with fail
  (with_reducible refine (isE_c m n ap hap.out _).mono ?_); rintro e w' ⟨rfl, hb⟩
  replace HB := Aside0.mk (HB.out.step hb)
  clear hb
  have C := HB.out.cl
  simp only [Cl, and_true] at C
  obtain ⟨_, _, _, _, _, _, _, _, _, _, _, _⟩ := C
  go_wp2_with fail
  (with_reducible refine (truth_c (decide (d ≤ a)) (decide (b < c)) r s ht.out _).mono ?_); rintro e w' ⟨rfl, hb⟩
  replace HB := Aside0.mk (HB.out.step hb)
  clear hb
  have C := HB.out.cl
  simp only [Cl, and_true] at C
  obtain ⟨_, _, _, _, _, _, _, _, _, _, _, _⟩ := C
  go_wp2_with fail
  obtain ⟨R1, R2⟩ := HB.out.ret 2 rfl (by omega) r s
  refine bodyPost_ret (results_cell_row rfl _ _ (w.heap.size + 1 + 1) 38 #[.int .i32 r, .int .i32 s] (0, 0) _ rfl R1 Try.underlying38 rfl (by kernel_rfl)) rfl ⟨rfl, R2⟩

set_option maxHeartbeats 4000000 in
set_option maxRecDepth 100000 in
theorem decide2200 (a b c d m n r s : Int) (ap : Bool) (hm : Aside0 (meetv a b c d = (m, n))) (hap : Aside0 (decide (n < m) = ap)) (h1 : Aside0 (somev a b = false)) (h2 : Aside0 (nonev a b = false)) (t2 : Bool) (h4 : Aside0 (nonev c d = t2)) (ht : Aside0 (truthv false t2 = (r, s))) (w : World) : Calls Try.prog 64 #[.int .u8 22, .agg #[.int .i32 a, .int .i32 b], .agg #[.int .i32 c, .int .i32 d]] w fun e w' => e = .returned (.agg #[.int .i32 r, .int .i32 s]) ∧ Below w.heap.size w w' := by
  have hu38 := Try.underlying38
  go_enter Try.func64, Try.ntmps64
  go_upto_region 1 with (fail)
  have HB := Aside0.mk (Bx.start3 w a b c d 0 0)
  generalize World.alloc (World.alloc (World.alloc w _) _) _ = w0 at HB ⊢
  have C := HB.out.cl
  simp only [Cl, and_true] at C
  obtain ⟨_, _, _, _, _, _, _, _, _, _, _, _⟩ := C
  go_wp2_with fail
  (with_reducible refine (meet_c a b c d m n hm.out _).mono ?_); rintro e w' ⟨rfl, hb⟩
  replace HB := Aside0.mk (HB.out.step hb)
  clear hb
  have C := HB.out.cl
  simp only [Cl, and_true] at C
  obtain ⟨_, _, _, _, _, _, _, _, _, _, _, _⟩ := C
  go_wp2_with fail
  (with_reducible refine (isE_c m n ap hap.out _).mono ?_); rintro e w' ⟨rfl, hb⟩
  replace HB := Aside0.mk (HB.out.step hb)
  clear hb
  have C := HB.out.cl
  simp only [Cl, and_true] at C
  obtain ⟨_, _, _, _, _, _, _, _, _, _, _, _⟩ := C
  go_wp2_with fail
  replace HB := Aside0.mk (HB.out.drew)
  refine start_ (n := 18) (S := fun w' => w'.cell? ⟨w.heap.size, 0, none⟩ = some (.int .i32 a) ∧ w'.cell? ⟨w.heap.size, 1, none⟩ = some (.int .i32 b) ∧ w'.cell? ⟨w.heap.size + 1, 0, none⟩ = some (.int .i32 c) ∧ w'.cell? ⟨w.heap.size + 1, 1, none⟩ = some (.int .i32 d)) (ds := [17]) #[false, false, false, false, false, false, false, false, false, false, false, false, false, false, false, false, false, false] (by kernel_rfl) rfl rfl ⟨HB.out.c0 0 rfl, HB.out.c1 0 rfl, HB.out.c0 1 rfl, HB.out.c1 1 rfl⟩ (fun hHeld => ?_)
  generalize w'.drew = w9 at HB hHeld ⊢
  refine pure_ (i := 0) (N := some 77) (v := ?_) (a' := ?_) (bl 18 1) rfl rfl (by kernel_rfl) (fun _ _ _ h => h) (Or.inl ⟨by rfl, ?_⟩) ?_ ?_
  rotate_left
  · intro w'; go_simp; with_reducible rfl
  rotate_left
  · simp only [Act.put, zA, zB, zC, i64_w, i32_w]; rfl
  refine take_ (i := 1) (N := some 78) (v := ?_) (a' := ?_) (bl 18 3) rfl rfl (by kernel_rfl) (fun _ _ _ h => h) (Or.inl ⟨by rfl, ?_⟩) hHeld ?_ ?_
  rotate_left
  · rintro w' ⟨_, _, _, _⟩; go_simp; with_reducible rfl
  rotate_left
  · simp only [Act.put, zA, zB, zC, i64_w, i32_w]; rfl
  refine pure_ (i := 8) (N := some 85) (v := ?_) (a' := ?_) (bl 18 259) rfl rfl (by kernel_rfl) (fun _ _ _ h => h) (Or.inl ⟨by rfl, ?_⟩) ?_ ?_
  rotate_left
  · intro w'; go_simp; with_reducible rfl
  rotate_left
  · simp only [Act.put, zA, zB, zC, i64_w, i32_w]; rfl
  refine take_ (i := 9) (N := some 86) (v := ?_) (a' := ?_) (bl 18 771) rfl rfl (by kernel_rfl) (fun _ _ _ h => h) (Or.inl ⟨by rfl, ?_⟩) hHeld ?_ ?_
  rotate_left
  · rintro w' ⟨_, _, _, _⟩; go_simp; with_reducible rfl
  rotate_left
  · simp only [Act.put, zA, zB, zC, i64_w, i32_w]; rfl
  refine one_ (i := 2) (N := some 79) (bl 18 775) rfl rfl (by kernel_rfl) (by decide) (fun K hK => ?_)
  refine goesV_ Try.func81 (by kernel_rfl) rfl #[.agg #[.int .i32 a, .int .i32 b]] (by rfl) rfl rfl rfl (by (try simp only [List.map_toArray, List.map_cons, List.map_nil]); first | done | rfl) ?_
  with_reducible refine (some_c a b false h1.out _).mono ?_
  rintro e w10 ⟨rfl, hb⟩; refine ⟨_, rfl, ?_⟩
  replace HB := Aside0.mk (HB.out.step hb); clear hb
  refine hK.out _ _ ⟨HB.out.c0 0 rfl, HB.out.c1 0 rfl, HB.out.c0 1 rfl, HB.out.c1 1 rfl⟩ (fun hHeld => ?_)
  clear hK K
  refine norm_ (a' := ?_) ?_ ?_; rotate_left
  · show Act.put _ (some 79) _ = _; simp only [Act.put, zA, zB, zC, i64_w, i32_w]; rfl
  refine pure_ (i := 3) (N := some 80) (v := ?_) (a' := ?_) (bl 18 783) rfl rfl (by kernel_rfl) (fun _ _ _ h => h) (Or.inl ⟨by rfl, ?_⟩) ?_ ?_
  rotate_left
  · intro w'; go_simp; with_reducible rfl
  rotate_left
  · simp only [Act.put, zA, zB, zC, i64_w, i32_w]; rfl
  refine pure_ (i := 4) (N := some 81) (v := undef) (a' := ?_) (bl 18 799) rfl rfl (by kernel_rfl) (fun _ _ _ h => h) (Or.inr ⟨by rfl, rfl⟩) ?_ ?_
  rotate_left
  · simp only [Act.put, zA, zB, zC, i64_w, i32_w]; rfl
  refine pure_ (i := 5) (N := some 82) (v := undef) (a' := ?_) (bl 18 831) rfl rfl (by kernel_rfl) (fun _ _ _ h => h) (Or.inr ⟨by rfl, rfl⟩) ?_ ?_
  rotate_left
  · simp only [Act.put, zA, zB, zC, i64_w, i32_w]; rfl
  refine pure_ (i := 6) (N := some 83) (v := undef) (a' := ?_) (bl 18 895) rfl rfl (by kernel_rfl) (fun _ _ _ h => h) (Or.inr ⟨by rfl, rfl⟩) ?_ ?_
  rotate_left
  · simp only [Act.put, zA, zB, zC, i64_w, i32_w]; rfl
  refine pure_ (i := 7) (N := some 84) (v := ?_) (a' := ?_) (bl 18 1023) rfl rfl (by kernel_rfl) (fun _ _ _ h => h) (Or.inl ⟨by rfl, ?_⟩) ?_ ?_
  rotate_left
  · intro w'; go_simp; with_reducible rfl
  rotate_left
  · simp only [Act.put, zA, zB, zC, i64_w, i32_w]; rfl
  refine one_ (i := 10) (N := some 87) (bl 18 2047) rfl rfl (by kernel_rfl) (by decide) (fun K hK => ?_)
  refine goesV_ Try.func82 (by kernel_rfl) rfl #[.agg #[.int .i32 a, .int .i32 b]] (by rfl) rfl rfl rfl (by (try simp only [List.map_toArray, List.map_cons, List.map_nil]); first | done | rfl) ?_
  with_reducible refine (none_c a b false h2.out _).mono ?_
  rintro e w12 ⟨rfl, hb⟩; refine ⟨_, rfl, ?_⟩
  replace HB := Aside0.mk (HB.out.step hb); clear hb
  refine hK.out _ _ ⟨HB.out.c0 0 rfl, HB.out.c1 0 rfl, HB.out.c0 1 rfl, HB.out.c1 1 rfl⟩ (fun hHeld => ?_)
  clear hK K
  refine norm_ (a' := ?_) ?_ ?_; rotate_left
  · show Act.put _ (some 87) _ = _; simp only [Act.put, zA, zB, zC, i64_w, i32_w]; rfl
  refine pure_ (i := 11) (N := some 88) (v := ?_) (a' := ?_) (bl 18 4095) rfl rfl (by kernel_rfl) (fun _ _ _ h => h) (Or.inl ⟨by rfl, ?_⟩) ?_ ?_
  rotate_left
  · intro w'; go_simp; with_reducible rfl
  rotate_left
  · simp only [Act.put, zA, zB, zC, i64_w, i32_w]; rfl
  refine pure_ (i := 12) (N := some 89) (v := ?_) (a' := ?_) (bl 18 8191) rfl rfl (by kernel_rfl) (fun _ _ _ h => h) (Or.inl ⟨by rfl, ?_⟩) ?_ ?_
  rotate_left
  · intro w'; go_simp; with_reducible rfl
  rotate_left
  · simp only [Act.put, zA, zB, zC, i64_w, i32_w]; rfl
  refine take_ (i := 13) (N := some 90) (v := ?_) (a' := ?_) (bl 18 16383) rfl rfl (by kernel_rfl) (fun _ _ _ h => h) (Or.inl ⟨by rfl, ?_⟩) hHeld ?_ ?_
  rotate_left
  · rintro w' ⟨_, _, _, _⟩; go_simp; with_reducible rfl
  rotate_left
  · simp only [Act.put, zA, zB, zC, i64_w, i32_w]; rfl
  refine one_ (i := 14) (N := some 91) (bl 18 32767) rfl rfl (by kernel_rfl) (by decide) (fun K hK => ?_)
  refine goesV_ Try.func82 (by kernel_rfl) rfl #[.agg #[.int .i32 c, .int .i32 d]] (by rfl) rfl rfl rfl (by (try simp only [List.map_toArray, List.map_cons, List.map_nil]); first | done | rfl) ?_
  with_reducible refine (none_c c d t2 h4.out _).mono ?_
  rintro e w13 ⟨rfl, hb⟩; refine ⟨_, rfl, ?_⟩
  replace HB := Aside0.mk (HB.out.step hb); clear hb
  refine hK.out _ _ ⟨HB.out.c0 0 rfl, HB.out.c1 0 rfl, HB.out.c0 1 rfl, HB.out.c1 1 rfl⟩ (fun hHeld => ?_)
  clear hK K
  refine norm_ (a' := ?_) ?_ ?_; rotate_left
  · show Act.put _ (some 91) _ = _; simp only [Act.put, zA, zB, zC, i64_w, i32_w]; rfl
  refine pure_ (i := 15) (N := some 92) (v := ?_) (a' := ?_) (bl 18 65535) rfl rfl (by kernel_rfl) (fun _ _ _ h => h) (Or.inl ⟨by rfl, ?_⟩) ?_ ?_
  rotate_left
  · intro w'; go_simp; with_reducible rfl
  rotate_left
  · simp only [Act.put, zA, zB, zC, i64_w, i32_w]; rfl
  refine one_ (i := 16) (N := some 93) (bl 18 131071) rfl rfl (by kernel_rfl) (by decide) (fun K hK => ?_)
  refine goes_ Try.func83 (by kernel_rfl) rfl #[.bool false, .bool t2] (by rfl) rfl rfl (by (try simp only [List.map_toArray, List.map_cons, List.map_nil]); first | done | rfl) ?_
  with_reducible refine (truth_c false t2 r s ht.out _).mono ?_
  rintro e w14 ⟨rfl, hb⟩; refine ⟨_, rfl, ?_⟩
  replace HB := Aside0.mk (HB.out.step hb)
  clear hb
  have C := HB.out.cl
  simp only [Cl, and_true] at C
  obtain ⟨_, _, _, _, _, _, _, _, _, _, _, _⟩ := C
  refine hK.out _ _ ⟨HB.out.c0 0 rfl, HB.out.c1 0 rfl, HB.out.c0 1 rfl, HB.out.c1 1 rfl⟩ (fun hHeld => ?_)
  clear hK K
  refine norm_ (a' := ?_) ?_ ?_; rotate_left
  · show Act.put _ (some 93) _ = _; simp only [Act.put, zA, zB, zC, i64_w, i32_w]; rfl
  refine last_ (i := 17) (N := none) (bl 18 262143) rfl rfl (by kernel_rfl) (by decide) (fun K hK => ?_)
  refine skip_ (w1 := ?_) (by rfl) rfl ?_ ?_
  rotate_left
  · go_simp
    rfl
  refine hK.out _ _ ?_
  clear hK K
  refine done_ (by kernel_rfl) ?_
  go_wp2_with fail
  obtain ⟨R1, R2⟩ := HB.out.ret 2 rfl (by omega) r s
  refine bodyPost_ret (results_cell_row rfl _ _ (w.heap.size + 1 + 1) 38 #[.int .i32 r, .int .i32 s] (0, 0) _ rfl R1 Try.underlying38 rfl (by kernel_rfl)) rfl ⟨rfl, R2⟩

set_option maxHeartbeats 4000000 in
set_option maxRecDepth 100000 in
theorem decide2201 (a b c d m n r s : Int) (ap : Bool) (hm : Aside0 (meetv a b c d = (m, n))) (hap : Aside0 (decide (n < m) = ap)) (h1 : Aside0 (somev a b = false)) (h2 : Aside0 (nonev a b = true)) (ht : Aside0 (truthv false true = (r, s))) (w : World) : Calls Try.prog 64 #[.int .u8 22, .agg #[.int .i32 a, .int .i32 b], .agg #[.int .i32 c, .int .i32 d]] w fun e w' => e = .returned (.agg #[.int .i32 r, .int .i32 s]) ∧ Below w.heap.size w w' := by
  have hu38 := Try.underlying38
  go_enter Try.func64, Try.ntmps64
  go_upto_region 1 with (fail)
  have HB := Aside0.mk (Bx.start3 w a b c d 0 0)
  generalize World.alloc (World.alloc (World.alloc w _) _) _ = w0 at HB ⊢
  have C := HB.out.cl
  simp only [Cl, and_true] at C
  obtain ⟨_, _, _, _, _, _, _, _, _, _, _, _⟩ := C
  go_wp2_with fail
  (with_reducible refine (meet_c a b c d m n hm.out _).mono ?_); rintro e w' ⟨rfl, hb⟩
  replace HB := Aside0.mk (HB.out.step hb)
  clear hb
  have C := HB.out.cl
  simp only [Cl, and_true] at C
  obtain ⟨_, _, _, _, _, _, _, _, _, _, _, _⟩ := C
  go_wp2_with fail
  (with_reducible refine (isE_c m n ap hap.out _).mono ?_); rintro e w' ⟨rfl, hb⟩
  replace HB := Aside0.mk (HB.out.step hb)
  clear hb
  have C := HB.out.cl
  simp only [Cl, and_true] at C
  obtain ⟨_, _, _, _, _, _, _, _, _, _, _, _⟩ := C
  go_wp2_with fail
  replace HB := Aside0.mk (HB.out.drew)
  refine start_ (n := 18) (S := fun w' => w'.cell? ⟨w.heap.size, 0, none⟩ = some (.int .i32 a) ∧ w'.cell? ⟨w.heap.size, 1, none⟩ = some (.int .i32 b) ∧ w'.cell? ⟨w.heap.size + 1, 0, none⟩ = some (.int .i32 c) ∧ w'.cell? ⟨w.heap.size + 1, 1, none⟩ = some (.int .i32 d)) (ds := [17]) #[false, false, false, false, false, false, false, false, false, false, false, false, false, false, false, false, false, false] (by kernel_rfl) rfl rfl ⟨HB.out.c0 0 rfl, HB.out.c1 0 rfl, HB.out.c0 1 rfl, HB.out.c1 1 rfl⟩ (fun hHeld => ?_)
  generalize w'.drew = w9 at HB hHeld ⊢
  refine pure_ (i := 0) (N := some 77) (v := ?_) (a' := ?_) (bl 18 1) rfl rfl (by kernel_rfl) (fun _ _ _ h => h) (Or.inl ⟨by rfl, ?_⟩) ?_ ?_
  rotate_left
  · intro w'; go_simp; with_reducible rfl
  rotate_left
  · simp only [Act.put, zA, zB, zC, i64_w, i32_w]; rfl
  refine take_ (i := 1) (N := some 78) (v := ?_) (a' := ?_) (bl 18 3) rfl rfl (by kernel_rfl) (fun _ _ _ h => h) (Or.inl ⟨by rfl, ?_⟩) hHeld ?_ ?_
  rotate_left
  · rintro w' ⟨_, _, _, _⟩; go_simp; with_reducible rfl
  rotate_left
  · simp only [Act.put, zA, zB, zC, i64_w, i32_w]; rfl
  refine pure_ (i := 8) (N := some 85) (v := ?_) (a' := ?_) (bl 18 259) rfl rfl (by kernel_rfl) (fun _ _ _ h => h) (Or.inl ⟨by rfl, ?_⟩) ?_ ?_
  rotate_left
  · intro w'; go_simp; with_reducible rfl
  rotate_left
  · simp only [Act.put, zA, zB, zC, i64_w, i32_w]; rfl
  refine take_ (i := 9) (N := some 86) (v := ?_) (a' := ?_) (bl 18 771) rfl rfl (by kernel_rfl) (fun _ _ _ h => h) (Or.inl ⟨by rfl, ?_⟩) hHeld ?_ ?_
  rotate_left
  · rintro w' ⟨_, _, _, _⟩; go_simp; with_reducible rfl
  rotate_left
  · simp only [Act.put, zA, zB, zC, i64_w, i32_w]; rfl
  refine one_ (i := 2) (N := some 79) (bl 18 775) rfl rfl (by kernel_rfl) (by decide) (fun K hK => ?_)
  refine goesV_ Try.func81 (by kernel_rfl) rfl #[.agg #[.int .i32 a, .int .i32 b]] (by rfl) rfl rfl rfl (by (try simp only [List.map_toArray, List.map_cons, List.map_nil]); first | done | rfl) ?_
  with_reducible refine (some_c a b false h1.out _).mono ?_
  rintro e w10 ⟨rfl, hb⟩; refine ⟨_, rfl, ?_⟩
  replace HB := Aside0.mk (HB.out.step hb); clear hb
  refine hK.out _ _ ⟨HB.out.c0 0 rfl, HB.out.c1 0 rfl, HB.out.c0 1 rfl, HB.out.c1 1 rfl⟩ (fun hHeld => ?_)
  clear hK K
  refine norm_ (a' := ?_) ?_ ?_; rotate_left
  · show Act.put _ (some 79) _ = _; simp only [Act.put, zA, zB, zC, i64_w, i32_w]; rfl
  refine pure_ (i := 3) (N := some 80) (v := ?_) (a' := ?_) (bl 18 783) rfl rfl (by kernel_rfl) (fun _ _ _ h => h) (Or.inl ⟨by rfl, ?_⟩) ?_ ?_
  rotate_left
  · intro w'; go_simp; with_reducible rfl
  rotate_left
  · simp only [Act.put, zA, zB, zC, i64_w, i32_w]; rfl
  refine pure_ (i := 4) (N := some 81) (v := undef) (a' := ?_) (bl 18 799) rfl rfl (by kernel_rfl) (fun _ _ _ h => h) (Or.inr ⟨by rfl, rfl⟩) ?_ ?_
  rotate_left
  · simp only [Act.put, zA, zB, zC, i64_w, i32_w]; rfl
  refine pure_ (i := 5) (N := some 82) (v := undef) (a' := ?_) (bl 18 831) rfl rfl (by kernel_rfl) (fun _ _ _ h => h) (Or.inr ⟨by rfl, rfl⟩) ?_ ?_
  rotate_left
  · simp only [Act.put, zA, zB, zC, i64_w, i32_w]; rfl
  refine pure_ (i := 6) (N := some 83) (v := undef) (a' := ?_) (bl 18 895) rfl rfl (by kernel_rfl) (fun _ _ _ h => h) (Or.inr ⟨by rfl, rfl⟩) ?_ ?_
  rotate_left
  · simp only [Act.put, zA, zB, zC, i64_w, i32_w]; rfl
  refine pure_ (i := 7) (N := some 84) (v := ?_) (a' := ?_) (bl 18 1023) rfl rfl (by kernel_rfl) (fun _ _ _ h => h) (Or.inl ⟨by rfl, ?_⟩) ?_ ?_
  rotate_left
  · intro w'; go_simp; with_reducible rfl
  rotate_left
  · simp only [Act.put, zA, zB, zC, i64_w, i32_w]; rfl
  refine one_ (i := 10) (N := some 87) (bl 18 2047) rfl rfl (by kernel_rfl) (by decide) (fun K hK => ?_)
  refine goesV_ Try.func82 (by kernel_rfl) rfl #[.agg #[.int .i32 a, .int .i32 b]] (by rfl) rfl rfl rfl (by (try simp only [List.map_toArray, List.map_cons, List.map_nil]); first | done | rfl) ?_
  with_reducible refine (none_c a b true h2.out _).mono ?_
  rintro e w12 ⟨rfl, hb⟩; refine ⟨_, rfl, ?_⟩
  replace HB := Aside0.mk (HB.out.step hb); clear hb
  refine hK.out _ _ ⟨HB.out.c0 0 rfl, HB.out.c1 0 rfl, HB.out.c0 1 rfl, HB.out.c1 1 rfl⟩ (fun hHeld => ?_)
  clear hK K
  refine norm_ (a' := ?_) ?_ ?_; rotate_left
  · show Act.put _ (some 87) _ = _; simp only [Act.put, zA, zB, zC, i64_w, i32_w]; rfl
  refine pure_ (i := 11) (N := some 88) (v := ?_) (a' := ?_) (bl 18 4095) rfl rfl (by kernel_rfl) (fun _ _ _ h => h) (Or.inl ⟨by rfl, ?_⟩) ?_ ?_
  rotate_left
  · intro w'; go_simp; with_reducible rfl
  rotate_left
  · simp only [Act.put, zA, zB, zC, i64_w, i32_w]; rfl
  refine pure_ (i := 12) (N := some 89) (v := undef) (a' := ?_) (bl 18 8191) rfl rfl (by kernel_rfl) (fun _ _ _ h => h) (Or.inr ⟨by rfl, rfl⟩) ?_ ?_
  rotate_left
  · simp only [Act.put, zA, zB, zC, i64_w, i32_w]; rfl
  refine pure_ (i := 13) (N := some 90) (v := undef) (a' := ?_) (bl 18 16383) rfl rfl (by kernel_rfl) (fun _ _ _ h => h) (Or.inr ⟨by rfl, rfl⟩) ?_ ?_
  rotate_left
  · simp only [Act.put, zA, zB, zC, i64_w, i32_w]; rfl
  refine pure_ (i := 14) (N := some 91) (v := undef) (a' := ?_) (bl 18 32767) rfl rfl (by kernel_rfl) (fun _ _ _ h => h) (Or.inr ⟨by rfl, rfl⟩) ?_ ?_
  rotate_left
  · simp only [Act.put, zA, zB, zC, i64_w, i32_w]; rfl
  refine pure_ (i := 15) (N := some 92) (v := ?_) (a' := ?_) (bl 18 65535) rfl rfl (by kernel_rfl) (fun _ _ _ h => h) (Or.inl ⟨by rfl, ?_⟩) ?_ ?_
  rotate_left
  · intro w'; go_simp; with_reducible rfl
  rotate_left
  · simp only [Act.put, zA, zB, zC, i64_w, i32_w]; rfl
  refine one_ (i := 16) (N := some 93) (bl 18 131071) rfl rfl (by kernel_rfl) (by decide) (fun K hK => ?_)
  refine goes_ Try.func83 (by kernel_rfl) rfl #[.bool false, .bool true] (by rfl) rfl rfl (by (try simp only [List.map_toArray, List.map_cons, List.map_nil]); first | done | rfl) ?_
  with_reducible refine (truth_c false true r s ht.out _).mono ?_
  rintro e w14 ⟨rfl, hb⟩; refine ⟨_, rfl, ?_⟩
  replace HB := Aside0.mk (HB.out.step hb)
  clear hb
  have C := HB.out.cl
  simp only [Cl, and_true] at C
  obtain ⟨_, _, _, _, _, _, _, _, _, _, _, _⟩ := C
  refine hK.out _ _ ⟨HB.out.c0 0 rfl, HB.out.c1 0 rfl, HB.out.c0 1 rfl, HB.out.c1 1 rfl⟩ (fun hHeld => ?_)
  clear hK K
  refine norm_ (a' := ?_) ?_ ?_; rotate_left
  · show Act.put _ (some 93) _ = _; simp only [Act.put, zA, zB, zC, i64_w, i32_w]; rfl
  refine last_ (i := 17) (N := none) (bl 18 262143) rfl rfl (by kernel_rfl) (by decide) (fun K hK => ?_)
  refine skip_ (w1 := ?_) (by rfl) rfl ?_ ?_
  rotate_left
  · go_simp
    rfl
  refine hK.out _ _ ?_
  clear hK K
  refine done_ (by kernel_rfl) ?_
  go_wp2_with fail
  obtain ⟨R1, R2⟩ := HB.out.ret 2 rfl (by omega) r s
  refine bodyPost_ret (results_cell_row rfl _ _ (w.heap.size + 1 + 1) 38 #[.int .i32 r, .int .i32 s] (0, 0) _ rfl R1 Try.underlying38 rfl (by kernel_rfl)) rfl ⟨rfl, R2⟩

set_option maxHeartbeats 4000000 in
set_option maxRecDepth 100000 in
theorem decide2210 (a b c d m n r s : Int) (ap : Bool) (hm : Aside0 (meetv a b c d = (m, n))) (hap : Aside0 (decide (n < m) = ap)) (h1 : Aside0 (somev a b = true)) (h2 : Aside0 (nonev a b = false)) (t1 : Bool) (h3 : Aside0 (somev c d = t1)) (t2 : Bool) (h4 : Aside0 (nonev c d = t2)) (ht : Aside0 (truthv t1 t2 = (r, s))) (w : World) : Calls Try.prog 64 #[.int .u8 22, .agg #[.int .i32 a, .int .i32 b], .agg #[.int .i32 c, .int .i32 d]] w fun e w' => e = .returned (.agg #[.int .i32 r, .int .i32 s]) ∧ Below w.heap.size w w' := by
  have hu38 := Try.underlying38
  go_enter Try.func64, Try.ntmps64
  go_upto_region 1 with (fail)
  have HB := Aside0.mk (Bx.start3 w a b c d 0 0)
  generalize World.alloc (World.alloc (World.alloc w _) _) _ = w0 at HB ⊢
  have C := HB.out.cl
  simp only [Cl, and_true] at C
  obtain ⟨_, _, _, _, _, _, _, _, _, _, _, _⟩ := C
  go_wp2_with fail
  (with_reducible refine (meet_c a b c d m n hm.out _).mono ?_); rintro e w' ⟨rfl, hb⟩
  replace HB := Aside0.mk (HB.out.step hb)
  clear hb
  have C := HB.out.cl
  simp only [Cl, and_true] at C
  obtain ⟨_, _, _, _, _, _, _, _, _, _, _, _⟩ := C
  go_wp2_with fail
  (with_reducible refine (isE_c m n ap hap.out _).mono ?_); rintro e w' ⟨rfl, hb⟩
  replace HB := Aside0.mk (HB.out.step hb)
  clear hb
  have C := HB.out.cl
  simp only [Cl, and_true] at C
  obtain ⟨_, _, _, _, _, _, _, _, _, _, _, _⟩ := C
  go_wp2_with fail
  replace HB := Aside0.mk (HB.out.drew)
  refine start_ (n := 18) (S := fun w' => w'.cell? ⟨w.heap.size, 0, none⟩ = some (.int .i32 a) ∧ w'.cell? ⟨w.heap.size, 1, none⟩ = some (.int .i32 b) ∧ w'.cell? ⟨w.heap.size + 1, 0, none⟩ = some (.int .i32 c) ∧ w'.cell? ⟨w.heap.size + 1, 1, none⟩ = some (.int .i32 d)) (ds := [17]) #[false, false, false, false, false, false, false, false, false, false, false, false, false, false, false, false, false, false] (by kernel_rfl) rfl rfl ⟨HB.out.c0 0 rfl, HB.out.c1 0 rfl, HB.out.c0 1 rfl, HB.out.c1 1 rfl⟩ (fun hHeld => ?_)
  generalize w'.drew = w9 at HB hHeld ⊢
  refine pure_ (i := 0) (N := some 77) (v := ?_) (a' := ?_) (bl 18 1) rfl rfl (by kernel_rfl) (fun _ _ _ h => h) (Or.inl ⟨by rfl, ?_⟩) ?_ ?_
  rotate_left
  · intro w'; go_simp; with_reducible rfl
  rotate_left
  · simp only [Act.put, zA, zB, zC, i64_w, i32_w]; rfl
  refine take_ (i := 1) (N := some 78) (v := ?_) (a' := ?_) (bl 18 3) rfl rfl (by kernel_rfl) (fun _ _ _ h => h) (Or.inl ⟨by rfl, ?_⟩) hHeld ?_ ?_
  rotate_left
  · rintro w' ⟨_, _, _, _⟩; go_simp; with_reducible rfl
  rotate_left
  · simp only [Act.put, zA, zB, zC, i64_w, i32_w]; rfl
  refine pure_ (i := 8) (N := some 85) (v := ?_) (a' := ?_) (bl 18 259) rfl rfl (by kernel_rfl) (fun _ _ _ h => h) (Or.inl ⟨by rfl, ?_⟩) ?_ ?_
  rotate_left
  · intro w'; go_simp; with_reducible rfl
  rotate_left
  · simp only [Act.put, zA, zB, zC, i64_w, i32_w]; rfl
  refine take_ (i := 9) (N := some 86) (v := ?_) (a' := ?_) (bl 18 771) rfl rfl (by kernel_rfl) (fun _ _ _ h => h) (Or.inl ⟨by rfl, ?_⟩) hHeld ?_ ?_
  rotate_left
  · rintro w' ⟨_, _, _, _⟩; go_simp; with_reducible rfl
  rotate_left
  · simp only [Act.put, zA, zB, zC, i64_w, i32_w]; rfl
  refine one_ (i := 2) (N := some 79) (bl 18 775) rfl rfl (by kernel_rfl) (by decide) (fun K hK => ?_)
  refine goesV_ Try.func81 (by kernel_rfl) rfl #[.agg #[.int .i32 a, .int .i32 b]] (by rfl) rfl rfl rfl (by (try simp only [List.map_toArray, List.map_cons, List.map_nil]); first | done | rfl) ?_
  with_reducible refine (some_c a b true h1.out _).mono ?_
  rintro e w10 ⟨rfl, hb⟩; refine ⟨_, rfl, ?_⟩
  replace HB := Aside0.mk (HB.out.step hb); clear hb
  refine hK.out _ _ ⟨HB.out.c0 0 rfl, HB.out.c1 0 rfl, HB.out.c0 1 rfl, HB.out.c1 1 rfl⟩ (fun hHeld => ?_)
  clear hK K
  refine norm_ (a' := ?_) ?_ ?_; rotate_left
  · show Act.put _ (some 79) _ = _; simp only [Act.put, zA, zB, zC, i64_w, i32_w]; rfl
  refine pure_ (i := 3) (N := some 80) (v := ?_) (a' := ?_) (bl 18 783) rfl rfl (by kernel_rfl) (fun _ _ _ h => h) (Or.inl ⟨by rfl, ?_⟩) ?_ ?_
  rotate_left
  · intro w'; go_simp; with_reducible rfl
  rotate_left
  · simp only [Act.put, zA, zB, zC, i64_w, i32_w]; rfl
  refine pure_ (i := 4) (N := some 81) (v := ?_) (a' := ?_) (bl 18 799) rfl rfl (by kernel_rfl) (fun _ _ _ h => h) (Or.inl ⟨by rfl, ?_⟩) ?_ ?_
  rotate_left
  · intro w'; go_simp; with_reducible rfl
  rotate_left
  · simp only [Act.put, zA, zB, zC, i64_w, i32_w]; rfl
  refine take_ (i := 5) (N := some 82) (v := ?_) (a' := ?_) (bl 18 831) rfl rfl (by kernel_rfl) (fun _ _ _ h => h) (Or.inl ⟨by rfl, ?_⟩) hHeld ?_ ?_
  rotate_left
  · rintro w' ⟨_, _, _, _⟩; go_simp; with_reducible rfl
  rotate_left
  · simp only [Act.put, zA, zB, zC, i64_w, i32_w]; rfl
  refine one_ (i := 6) (N := some 83) (bl 18 895) rfl rfl (by kernel_rfl) (by decide) (fun K hK => ?_)
  refine goesV_ Try.func81 (by kernel_rfl) rfl #[.agg #[.int .i32 c, .int .i32 d]] (by rfl) rfl rfl rfl (by (try simp only [List.map_toArray, List.map_cons, List.map_nil]); first | done | rfl) ?_
  with_reducible refine (some_c c d t1 h3.out _).mono ?_
  rintro e w11 ⟨rfl, hb⟩; refine ⟨_, rfl, ?_⟩
  replace HB := Aside0.mk (HB.out.step hb); clear hb
  refine hK.out _ _ ⟨HB.out.c0 0 rfl, HB.out.c1 0 rfl, HB.out.c0 1 rfl, HB.out.c1 1 rfl⟩ (fun hHeld => ?_)
  clear hK K
  refine norm_ (a' := ?_) ?_ ?_; rotate_left
  · show Act.put _ (some 83) _ = _; simp only [Act.put, zA, zB, zC, i64_w, i32_w]; rfl
  refine pure_ (i := 7) (N := some 84) (v := ?_) (a' := ?_) (bl 18 1023) rfl rfl (by kernel_rfl) (fun _ _ _ h => h) (Or.inl ⟨by rfl, ?_⟩) ?_ ?_
  rotate_left
  · intro w'; go_simp; with_reducible rfl
  rotate_left
  · simp only [Act.put, zA, zB, zC, i64_w, i32_w]; rfl
  refine one_ (i := 10) (N := some 87) (bl 18 2047) rfl rfl (by kernel_rfl) (by decide) (fun K hK => ?_)
  refine goesV_ Try.func82 (by kernel_rfl) rfl #[.agg #[.int .i32 a, .int .i32 b]] (by rfl) rfl rfl rfl (by (try simp only [List.map_toArray, List.map_cons, List.map_nil]); first | done | rfl) ?_
  with_reducible refine (none_c a b false h2.out _).mono ?_
  rintro e w12 ⟨rfl, hb⟩; refine ⟨_, rfl, ?_⟩
  replace HB := Aside0.mk (HB.out.step hb); clear hb
  refine hK.out _ _ ⟨HB.out.c0 0 rfl, HB.out.c1 0 rfl, HB.out.c0 1 rfl, HB.out.c1 1 rfl⟩ (fun hHeld => ?_)
  clear hK K
  refine norm_ (a' := ?_) ?_ ?_; rotate_left
  · show Act.put _ (some 87) _ = _; simp only [Act.put, zA, zB, zC, i64_w, i32_w]; rfl
  refine pure_ (i := 11) (N := some 88) (v := ?_) (a' := ?_) (bl 18 4095) rfl rfl (by kernel_rfl) (fun _ _ _ h => h) (Or.inl ⟨by rfl, ?_⟩) ?_ ?_
  rotate_left
  · intro w'; go_simp; with_reducible rfl
  rotate_left
  · simp only [Act.put, zA, zB, zC, i64_w, i32_w]; rfl
  refine pure_ (i := 12) (N := some 89) (v := ?_) (a' := ?_) (bl 18 8191) rfl rfl (by kernel_rfl) (fun _ _ _ h => h) (Or.inl ⟨by rfl, ?_⟩) ?_ ?_
  rotate_left
  · intro w'; go_simp; with_reducible rfl
  rotate_left
  · simp only [Act.put, zA, zB, zC, i64_w, i32_w]; rfl
  refine take_ (i := 13) (N := some 90) (v := ?_) (a' := ?_) (bl 18 16383) rfl rfl (by kernel_rfl) (fun _ _ _ h => h) (Or.inl ⟨by rfl, ?_⟩) hHeld ?_ ?_
  rotate_left
  · rintro w' ⟨_, _, _, _⟩; go_simp; with_reducible rfl
  rotate_left
  · simp only [Act.put, zA, zB, zC, i64_w, i32_w]; rfl
  refine one_ (i := 14) (N := some 91) (bl 18 32767) rfl rfl (by kernel_rfl) (by decide) (fun K hK => ?_)
  refine goesV_ Try.func82 (by kernel_rfl) rfl #[.agg #[.int .i32 c, .int .i32 d]] (by rfl) rfl rfl rfl (by (try simp only [List.map_toArray, List.map_cons, List.map_nil]); first | done | rfl) ?_
  with_reducible refine (none_c c d t2 h4.out _).mono ?_
  rintro e w13 ⟨rfl, hb⟩; refine ⟨_, rfl, ?_⟩
  replace HB := Aside0.mk (HB.out.step hb); clear hb
  refine hK.out _ _ ⟨HB.out.c0 0 rfl, HB.out.c1 0 rfl, HB.out.c0 1 rfl, HB.out.c1 1 rfl⟩ (fun hHeld => ?_)
  clear hK K
  refine norm_ (a' := ?_) ?_ ?_; rotate_left
  · show Act.put _ (some 91) _ = _; simp only [Act.put, zA, zB, zC, i64_w, i32_w]; rfl
  refine pure_ (i := 15) (N := some 92) (v := ?_) (a' := ?_) (bl 18 65535) rfl rfl (by kernel_rfl) (fun _ _ _ h => h) (Or.inl ⟨by rfl, ?_⟩) ?_ ?_
  rotate_left
  · intro w'; go_simp; with_reducible rfl
  rotate_left
  · simp only [Act.put, zA, zB, zC, i64_w, i32_w]; rfl
  refine one_ (i := 16) (N := some 93) (bl 18 131071) rfl rfl (by kernel_rfl) (by decide) (fun K hK => ?_)
  refine goes_ Try.func83 (by kernel_rfl) rfl #[.bool t1, .bool t2] (by rfl) rfl rfl (by (try simp only [List.map_toArray, List.map_cons, List.map_nil]); first | done | rfl) ?_
  with_reducible refine (truth_c t1 t2 r s ht.out _).mono ?_
  rintro e w14 ⟨rfl, hb⟩; refine ⟨_, rfl, ?_⟩
  replace HB := Aside0.mk (HB.out.step hb)
  clear hb
  have C := HB.out.cl
  simp only [Cl, and_true] at C
  obtain ⟨_, _, _, _, _, _, _, _, _, _, _, _⟩ := C
  refine hK.out _ _ ⟨HB.out.c0 0 rfl, HB.out.c1 0 rfl, HB.out.c0 1 rfl, HB.out.c1 1 rfl⟩ (fun hHeld => ?_)
  clear hK K
  refine norm_ (a' := ?_) ?_ ?_; rotate_left
  · show Act.put _ (some 93) _ = _; simp only [Act.put, zA, zB, zC, i64_w, i32_w]; rfl
  refine last_ (i := 17) (N := none) (bl 18 262143) rfl rfl (by kernel_rfl) (by decide) (fun K hK => ?_)
  refine skip_ (w1 := ?_) (by rfl) rfl ?_ ?_
  rotate_left
  · go_simp
    rfl
  refine hK.out _ _ ?_
  clear hK K
  refine done_ (by kernel_rfl) ?_
  go_wp2_with fail
  obtain ⟨R1, R2⟩ := HB.out.ret 2 rfl (by omega) r s
  refine bodyPost_ret (results_cell_row rfl _ _ (w.heap.size + 1 + 1) 38 #[.int .i32 r, .int .i32 s] (0, 0) _ rfl R1 Try.underlying38 rfl (by kernel_rfl)) rfl ⟨rfl, R2⟩

set_option maxHeartbeats 4000000 in
set_option maxRecDepth 100000 in
theorem decide2211 (a b c d m n r s : Int) (ap : Bool) (hm : Aside0 (meetv a b c d = (m, n))) (hap : Aside0 (decide (n < m) = ap)) (h1 : Aside0 (somev a b = true)) (h2 : Aside0 (nonev a b = true)) (t1 : Bool) (h3 : Aside0 (somev c d = t1)) (ht : Aside0 (truthv t1 true = (r, s))) (w : World) : Calls Try.prog 64 #[.int .u8 22, .agg #[.int .i32 a, .int .i32 b], .agg #[.int .i32 c, .int .i32 d]] w fun e w' => e = .returned (.agg #[.int .i32 r, .int .i32 s]) ∧ Below w.heap.size w w' := by
  have hu38 := Try.underlying38
  go_enter Try.func64, Try.ntmps64
  go_upto_region 1 with (fail)
  have HB := Aside0.mk (Bx.start3 w a b c d 0 0)
  generalize World.alloc (World.alloc (World.alloc w _) _) _ = w0 at HB ⊢
  have C := HB.out.cl
  simp only [Cl, and_true] at C
  obtain ⟨_, _, _, _, _, _, _, _, _, _, _, _⟩ := C
  go_wp2_with fail
  (with_reducible refine (meet_c a b c d m n hm.out _).mono ?_); rintro e w' ⟨rfl, hb⟩
  replace HB := Aside0.mk (HB.out.step hb)
  clear hb
  have C := HB.out.cl
  simp only [Cl, and_true] at C
  obtain ⟨_, _, _, _, _, _, _, _, _, _, _, _⟩ := C
  go_wp2_with fail
  (with_reducible refine (isE_c m n ap hap.out _).mono ?_); rintro e w' ⟨rfl, hb⟩
  replace HB := Aside0.mk (HB.out.step hb)
  clear hb
  have C := HB.out.cl
  simp only [Cl, and_true] at C
  obtain ⟨_, _, _, _, _, _, _, _, _, _, _, _⟩ := C
  go_wp2_with fail
  replace HB := Aside0.mk (HB.out.drew)
  refine start_ (n := 18) (S := fun w' => w'.cell? ⟨w.heap.size, 0, none⟩ = some (.int .i32 a) ∧ w'.cell? ⟨w.heap.size, 1, none⟩ = some (.int .i32 b) ∧ w'.cell? ⟨w.heap.size + 1, 0, none⟩ = some (.int .i32 c) ∧ w'.cell? ⟨w.heap.size + 1, 1, none⟩ = some (.int .i32 d)) (ds := [17]) #[false, false, false, false, false, false, false, false, false, false, false, false, false, false, false, false, false, false] (by kernel_rfl) rfl rfl ⟨HB.out.c0 0 rfl, HB.out.c1 0 rfl, HB.out.c0 1 rfl, HB.out.c1 1 rfl⟩ (fun hHeld => ?_)
  generalize w'.drew = w9 at HB hHeld ⊢
  refine pure_ (i := 0) (N := some 77) (v := ?_) (a' := ?_) (bl 18 1) rfl rfl (by kernel_rfl) (fun _ _ _ h => h) (Or.inl ⟨by rfl, ?_⟩) ?_ ?_
  rotate_left
  · intro w'; go_simp; with_reducible rfl
  rotate_left
  · simp only [Act.put, zA, zB, zC, i64_w, i32_w]; rfl
  refine take_ (i := 1) (N := some 78) (v := ?_) (a' := ?_) (bl 18 3) rfl rfl (by kernel_rfl) (fun _ _ _ h => h) (Or.inl ⟨by rfl, ?_⟩) hHeld ?_ ?_
  rotate_left
  · rintro w' ⟨_, _, _, _⟩; go_simp; with_reducible rfl
  rotate_left
  · simp only [Act.put, zA, zB, zC, i64_w, i32_w]; rfl
  refine pure_ (i := 8) (N := some 85) (v := ?_) (a' := ?_) (bl 18 259) rfl rfl (by kernel_rfl) (fun _ _ _ h => h) (Or.inl ⟨by rfl, ?_⟩) ?_ ?_
  rotate_left
  · intro w'; go_simp; with_reducible rfl
  rotate_left
  · simp only [Act.put, zA, zB, zC, i64_w, i32_w]; rfl
  refine take_ (i := 9) (N := some 86) (v := ?_) (a' := ?_) (bl 18 771) rfl rfl (by kernel_rfl) (fun _ _ _ h => h) (Or.inl ⟨by rfl, ?_⟩) hHeld ?_ ?_
  rotate_left
  · rintro w' ⟨_, _, _, _⟩; go_simp; with_reducible rfl
  rotate_left
  · simp only [Act.put, zA, zB, zC, i64_w, i32_w]; rfl
  refine one_ (i := 2) (N := some 79) (bl 18 775) rfl rfl (by kernel_rfl) (by decide) (fun K hK => ?_)
  refine goesV_ Try.func81 (by kernel_rfl) rfl #[.agg #[.int .i32 a, .int .i32 b]] (by rfl) rfl rfl rfl (by (try simp only [List.map_toArray, List.map_cons, List.map_nil]); first | done | rfl) ?_
  with_reducible refine (some_c a b true h1.out _).mono ?_
  rintro e w10 ⟨rfl, hb⟩; refine ⟨_, rfl, ?_⟩
  replace HB := Aside0.mk (HB.out.step hb); clear hb
  refine hK.out _ _ ⟨HB.out.c0 0 rfl, HB.out.c1 0 rfl, HB.out.c0 1 rfl, HB.out.c1 1 rfl⟩ (fun hHeld => ?_)
  clear hK K
  refine norm_ (a' := ?_) ?_ ?_; rotate_left
  · show Act.put _ (some 79) _ = _; simp only [Act.put, zA, zB, zC, i64_w, i32_w]; rfl
  refine pure_ (i := 3) (N := some 80) (v := ?_) (a' := ?_) (bl 18 783) rfl rfl (by kernel_rfl) (fun _ _ _ h => h) (Or.inl ⟨by rfl, ?_⟩) ?_ ?_
  rotate_left
  · intro w'; go_simp; with_reducible rfl
  rotate_left
  · simp only [Act.put, zA, zB, zC, i64_w, i32_w]; rfl
  refine pure_ (i := 4) (N := some 81) (v := ?_) (a' := ?_) (bl 18 799) rfl rfl (by kernel_rfl) (fun _ _ _ h => h) (Or.inl ⟨by rfl, ?_⟩) ?_ ?_
  rotate_left
  · intro w'; go_simp; with_reducible rfl
  rotate_left
  · simp only [Act.put, zA, zB, zC, i64_w, i32_w]; rfl
  refine take_ (i := 5) (N := some 82) (v := ?_) (a' := ?_) (bl 18 831) rfl rfl (by kernel_rfl) (fun _ _ _ h => h) (Or.inl ⟨by rfl, ?_⟩) hHeld ?_ ?_
  rotate_left
  · rintro w' ⟨_, _, _, _⟩; go_simp; with_reducible rfl
  rotate_left
  · simp only [Act.put, zA, zB, zC, i64_w, i32_w]; rfl
  refine one_ (i := 6) (N := some 83) (bl 18 895) rfl rfl (by kernel_rfl) (by decide) (fun K hK => ?_)
  refine goesV_ Try.func81 (by kernel_rfl) rfl #[.agg #[.int .i32 c, .int .i32 d]] (by rfl) rfl rfl rfl (by (try simp only [List.map_toArray, List.map_cons, List.map_nil]); first | done | rfl) ?_
  with_reducible refine (some_c c d t1 h3.out _).mono ?_
  rintro e w11 ⟨rfl, hb⟩; refine ⟨_, rfl, ?_⟩
  replace HB := Aside0.mk (HB.out.step hb); clear hb
  refine hK.out _ _ ⟨HB.out.c0 0 rfl, HB.out.c1 0 rfl, HB.out.c0 1 rfl, HB.out.c1 1 rfl⟩ (fun hHeld => ?_)
  clear hK K
  refine norm_ (a' := ?_) ?_ ?_; rotate_left
  · show Act.put _ (some 83) _ = _; simp only [Act.put, zA, zB, zC, i64_w, i32_w]; rfl
  refine pure_ (i := 7) (N := some 84) (v := ?_) (a' := ?_) (bl 18 1023) rfl rfl (by kernel_rfl) (fun _ _ _ h => h) (Or.inl ⟨by rfl, ?_⟩) ?_ ?_
  rotate_left
  · intro w'; go_simp; with_reducible rfl
  rotate_left
  · simp only [Act.put, zA, zB, zC, i64_w, i32_w]; rfl
  refine one_ (i := 10) (N := some 87) (bl 18 2047) rfl rfl (by kernel_rfl) (by decide) (fun K hK => ?_)
  refine goesV_ Try.func82 (by kernel_rfl) rfl #[.agg #[.int .i32 a, .int .i32 b]] (by rfl) rfl rfl rfl (by (try simp only [List.map_toArray, List.map_cons, List.map_nil]); first | done | rfl) ?_
  with_reducible refine (none_c a b true h2.out _).mono ?_
  rintro e w12 ⟨rfl, hb⟩; refine ⟨_, rfl, ?_⟩
  replace HB := Aside0.mk (HB.out.step hb); clear hb
  refine hK.out _ _ ⟨HB.out.c0 0 rfl, HB.out.c1 0 rfl, HB.out.c0 1 rfl, HB.out.c1 1 rfl⟩ (fun hHeld => ?_)
  clear hK K
  refine norm_ (a' := ?_) ?_ ?_; rotate_left
  · show Act.put _ (some 87) _ = _; simp only [Act.put, zA, zB, zC, i64_w, i32_w]; rfl
  refine pure_ (i := 11) (N := some 88) (v := ?_) (a' := ?_) (bl 18 4095) rfl rfl (by kernel_rfl) (fun _ _ _ h => h) (Or.inl ⟨by rfl, ?_⟩) ?_ ?_
  rotate_left
  · intro w'; go_simp; with_reducible rfl
  rotate_left
  · simp only [Act.put, zA, zB, zC, i64_w, i32_w]; rfl
  refine pure_ (i := 12) (N := some 89) (v := undef) (a' := ?_) (bl 18 8191) rfl rfl (by kernel_rfl) (fun _ _ _ h => h) (Or.inr ⟨by rfl, rfl⟩) ?_ ?_
  rotate_left
  · simp only [Act.put, zA, zB, zC, i64_w, i32_w]; rfl
  refine pure_ (i := 13) (N := some 90) (v := undef) (a' := ?_) (bl 18 16383) rfl rfl (by kernel_rfl) (fun _ _ _ h => h) (Or.inr ⟨by rfl, rfl⟩) ?_ ?_
  rotate_left
  · simp only [Act.put, zA, zB, zC, i64_w, i32_w]; rfl
  refine pure_ (i := 14) (N := some 91) (v := undef) (a' := ?_) (bl 18 32767) rfl rfl (by kernel_rfl) (fun _ _ _ h => h) (Or.inr ⟨by rfl, rfl⟩) ?_ ?_
  rotate_left
  · simp only [Act.put, zA, zB, zC, i64_w, i32_w]; rfl
  refine pure_ (i := 15) (N := some 92) (v := ?_) (a' := ?_) (bl 18 65535) rfl rfl (by kernel_rfl) (fun _ _ _ h => h) (Or.inl ⟨by rfl, ?_⟩) ?_ ?_
  rotate_left
  · intro w'; go_simp; with_reducible rfl
  rotate_left
  · simp only [Act.put, zA, zB, zC, i64_w, i32_w]; rfl
  refine one_ (i := 16) (N := some 93) (bl 18 131071) rfl rfl (by kernel_rfl) (by decide) (fun K hK => ?_)
  refine goes_ Try.func83 (by kernel_rfl) rfl #[.bool t1, .bool true] (by rfl) rfl rfl (by (try simp only [List.map_toArray, List.map_cons, List.map_nil]); first | done | rfl) ?_
  with_reducible refine (truth_c t1 true r s ht.out _).mono ?_
  rintro e w14 ⟨rfl, hb⟩; refine ⟨_, rfl, ?_⟩
  replace HB := Aside0.mk (HB.out.step hb)
  clear hb
  have C := HB.out.cl
  simp only [Cl, and_true] at C
  obtain ⟨_, _, _, _, _, _, _, _, _, _, _, _⟩ := C
  refine hK.out _ _ ⟨HB.out.c0 0 rfl, HB.out.c1 0 rfl, HB.out.c0 1 rfl, HB.out.c1 1 rfl⟩ (fun hHeld => ?_)
  clear hK K
  refine norm_ (a' := ?_) ?_ ?_; rotate_left
  · show Act.put _ (some 93) _ = _; simp only [Act.put, zA, zB, zC, i64_w, i32_w]; rfl
  refine last_ (i := 17) (N := none) (bl 18 262143) rfl rfl (by kernel_rfl) (by decide) (fun K hK => ?_)
  refine skip_ (w1 := ?_) (by rfl) rfl ?_ ?_
  rotate_left
  · go_simp
    rfl
  refine hK.out _ _ ?_
  clear hK K
  refine done_ (by kernel_rfl) ?_
  go_wp2_with fail
  obtain ⟨R1, R2⟩ := HB.out.ret 2 rfl (by omega) r s
  refine bodyPost_ret (results_cell_row rfl _ _ (w.heap.size + 1 + 1) 38 #[.int .i32 r, .int .i32 s] (0, 0) _ rfl R1 Try.underlying38 rfl (by kernel_rfl)) rfl ⟨rfl, R2⟩

set_option maxHeartbeats 4000000 in
set_option maxRecDepth 100000 in
theorem decide2300 (a b c d m n r s : Int) (ap : Bool) (hm : Aside0 (meetv a b c d = (m, n))) (hap : Aside0 (decide (n < m) = ap)) (h1 : Aside0 (somev a b = false)) (h2 : Aside0 (nonev a b = false)) (t1 : Bool) (h3 : Aside0 (somev c d = t1)) (ht : Aside0 (truthv t1 false = (r, s))) (w : World) : Calls Try.prog 64 #[.int .u8 23, .agg #[.int .i32 a, .int .i32 b], .agg #[.int .i32 c, .int .i32 d]] w fun e w' => e = .returned (.agg #[.int .i32 r, .int .i32 s]) ∧ Below w.heap.size w w' := by
  have hu38 := Try.underlying38
  go_enter Try.func64, Try.ntmps64
  go_upto_region 1 with (fail)
  have HB := Aside0.mk (Bx.start3 w a b c d 0 0)
  generalize World.alloc (World.alloc (World.alloc w _) _) _ = w0 at HB ⊢
  have C := HB.out.cl
  simp only [Cl, and_true] at C
  obtain ⟨_, _, _, _, _, _, _, _, _, _, _, _⟩ := C
  go_wp2_with fail
  (with_reducible refine (meet_c a b c d m n hm.out _).mono ?_); rintro e w' ⟨rfl, hb⟩
  replace HB := Aside0.mk (HB.out.step hb)
  clear hb
  have C := HB.out.cl
  simp only [Cl, and_true] at C
  obtain ⟨_, _, _, _, _, _, _, _, _, _, _, _⟩ := C
  go_wp2_with fail
  (with_reducible refine (isE_c m n ap hap.out _).mono ?_); rintro e w' ⟨rfl, hb⟩
  replace HB := Aside0.mk (HB.out.step hb)
  clear hb
  have C := HB.out.cl
  simp only [Cl, and_true] at C
  obtain ⟨_, _, _, _, _, _, _, _, _, _, _, _⟩ := C
  go_wp2_with fail
  replace HB := Aside0.mk (HB.out.drew)
  refine start_ (n := 18) (S := fun w' => w'.cell? ⟨w.heap.size, 0, none⟩ = some (.int .i32 a) ∧ w'.cell? ⟨w.heap.size, 1, none⟩ = some (.int .i32 b) ∧ w'.cell? ⟨w.heap.size + 1, 0, none⟩ = some (.int .i32 c) ∧ w'.cell? ⟨w.heap.size + 1, 1, none⟩ = some (.int .i32 d)) (ds := [17]) #[false, false, false, false, false, false, false, false, false, false, false, false, false, false, false, false, false, false] (by kernel_rfl) rfl rfl ⟨HB.out.c0 0 rfl, HB.out.c1 0 rfl, HB.out.c0 1 rfl, HB.out.c1 1 rfl⟩ (fun hHeld => ?_)
  generalize w'.drew = w9 at HB hHeld ⊢
  refine pure_ (i := 0) (N := some 96) (v := ?_) (a' := ?_) (bl 18 1) rfl rfl (by kernel_rfl) (fun _ _ _ h => h) (Or.inl ⟨by rfl, ?_⟩) ?_ ?_
  rotate_left
  · intro w'; go_simp; with_reducible rfl
  rotate_left
  · simp only [Act.put, zA, zB, zC, i64_w, i32_w]; rfl
  refine take_ (i := 1) (N := some 97) (v := ?_) (a' := ?_) (bl 18 3) rfl rfl (by kernel_rfl) (fun _ _ _ h => h) (Or.inl ⟨by rfl, ?_⟩) hHeld ?_ ?_
  rotate_left
  · rintro w' ⟨_, _, _, _⟩; go_simp; with_reducible rfl
  rotate_left
  · simp only [Act.put, zA, zB, zC, i64_w, i32_w]; rfl
  refine pure_ (i := 8) (N := some 104) (v := ?_) (a' := ?_) (bl 18 259) rfl rfl (by kernel_rfl) (fun _ _ _ h => h) (Or.inl ⟨by rfl, ?_⟩) ?_ ?_
  rotate_left
  · intro w'; go_simp; with_reducible rfl
  rotate_left
  · simp only [Act.put, zA, zB, zC, i64_w, i32_w]; rfl
  refine take_ (i := 9) (N := some 105) (v := ?_) (a' := ?_) (bl 18 771) rfl rfl (by kernel_rfl) (fun _ _ _ h => h) (Or.inl ⟨by rfl, ?_⟩) hHeld ?_ ?_
  rotate_left
  · rintro w' ⟨_, _, _, _⟩; go_simp; with_reducible rfl
  rotate_left
  · simp only [Act.put, zA, zB, zC, i64_w, i32_w]; rfl
  refine one_ (i := 2) (N := some 98) (bl 18 775) rfl rfl (by kernel_rfl) (by decide) (fun K hK => ?_)
  refine goesV_ Try.func81 (by kernel_rfl) rfl #[.agg #[.int .i32 a, .int .i32 b]] (by rfl) rfl rfl rfl (by (try simp only [List.map_toArray, List.map_cons, List.map_nil]); first | done | rfl) ?_
  with_reducible refine (some_c a b false h1.out _).mono ?_
  rintro e w10 ⟨rfl, hb⟩; refine ⟨_, rfl, ?_⟩
  replace HB := Aside0.mk (HB.out.step hb); clear hb
  refine hK.out _ _ ⟨HB.out.c0 0 rfl, HB.out.c1 0 rfl, HB.out.c0 1 rfl, HB.out.c1 1 rfl⟩ (fun hHeld => ?_)
  clear hK K
  refine norm_ (a' := ?_) ?_ ?_; rotate_left
  · show Act.put _ (some 98) _ = _; simp only [Act.put, zA, zB, zC, i64_w, i32_w]; rfl
  refine pure_ (i := 3) (N := some 99) (v := ?_) (a' := ?_) (bl 18 783) rfl rfl (by kernel_rfl) (fun _ _ _ h => h) (Or.inl ⟨by rfl, ?_⟩) ?_ ?_
  rotate_left
  · intro w'; go_simp; with_reducible rfl
  rotate_left
  · simp only [Act.put, zA, zB, zC, i64_w, i32_w]; rfl
  refine pure_ (i := 4) (N := some 100) (v := ?_) (a' := ?_) (bl 18 799) rfl rfl (by kernel_rfl) (fun _ _ _ h => h) (Or.inl ⟨by rfl, ?_⟩) ?_ ?_
  rotate_left
  · intro w'; go_simp; with_reducible rfl
  rotate_left
  · simp only [Act.put, zA, zB, zC, i64_w, i32_w]; rfl
  refine take_ (i := 5) (N := some 101) (v := ?_) (a' := ?_) (bl 18 831) rfl rfl (by kernel_rfl) (fun _ _ _ h => h) (Or.inl ⟨by rfl, ?_⟩) hHeld ?_ ?_
  rotate_left
  · rintro w' ⟨_, _, _, _⟩; go_simp; with_reducible rfl
  rotate_left
  · simp only [Act.put, zA, zB, zC, i64_w, i32_w]; rfl
  refine one_ (i := 6) (N := some 102) (bl 18 895) rfl rfl (by kernel_rfl) (by decide) (fun K hK => ?_)
  refine goesV_ Try.func81 (by kernel_rfl) rfl #[.agg #[.int .i32 c, .int .i32 d]] (by rfl) rfl rfl rfl (by (try simp only [List.map_toArray, List.map_cons, List.map_nil]); first | done | rfl) ?_
  with_reducible refine (some_c c d t1 h3.out _).mono ?_
  rintro e w11 ⟨rfl, hb⟩; refine ⟨_, rfl, ?_⟩
  replace HB := Aside0.mk (HB.out.step hb); clear hb
  refine hK.out _ _ ⟨HB.out.c0 0 rfl, HB.out.c1 0 rfl, HB.out.c0 1 rfl, HB.out.c1 1 rfl⟩ (fun hHeld => ?_)
  clear hK K
  refine norm_ (a' := ?_) ?_ ?_; rotate_left
  · show Act.put _ (some 102) _ = _; simp only [Act.put, zA, zB, zC, i64_w, i32_w]; rfl
  refine pure_ (i := 7) (N := some 103) (v := ?_) (a' := ?_) (bl 18 1023) rfl rfl (by kernel_rfl) (fun _ _ _ h => h) (Or.inl ⟨by rfl, ?_⟩) ?_ ?_
  rotate_left
  · intro w'; go_simp; with_reducible rfl
  rotate_left
  · simp only [Act.put, zA, zB, zC, i64_w, i32_w]; rfl
  refine one_ (i := 10) (N := some 106) (bl 18 2047) rfl rfl (by kernel_rfl) (by decide) (fun K hK => ?_)
  refine goesV_ Try.func82 (by kernel_rfl) rfl #[.agg #[.int .i32 a, .int .i32 b]] (by rfl) rfl rfl rfl (by (try simp only [List.map_toArray, List.map_cons, List.map_nil]); first | done | rfl) ?_
  with_reducible refine (none_c a b false h2.out _).mono ?_
  rintro e w12 ⟨rfl, hb⟩; refine ⟨_, rfl, ?_⟩
  replace HB := Aside0.mk (HB.out.step hb); clear hb
  refine hK.out _ _ ⟨HB.out.c0 0 rfl, HB.out.c1 0 rfl, HB.out.c0 1 rfl, HB.out.c1 1 rfl⟩ (fun hHeld => ?_)
  clear hK K
  refine norm_ (a' := ?_) ?_ ?_; rotate_left
  · show Act.put _ (some 106) _ = _; simp only [Act.put, zA, zB, zC, i64_w, i32_w]; rfl
  refine pure_ (i := 11) (N := some 107) (v := ?_) (a' := ?_) (bl 18 4095) rfl rfl (by kernel_rfl) (fun _ _ _ h => h) (Or.inl ⟨by rfl, ?_⟩) ?_ ?_
  rotate_left
  · intro w'; go_simp; with_reducible rfl
  rotate_left
  · simp only [Act.put, zA, zB, zC, i64_w, i32_w]; rfl
  refine pure_ (i := 12) (N := some 108) (v := undef) (a' := ?_) (bl 18 8191) rfl rfl (by kernel_rfl) (fun _ _ _ h => h) (Or.inr ⟨by rfl, rfl⟩) ?_ ?_
  rotate_left
  · simp only [Act.put, zA, zB, zC, i64_w, i32_w]; rfl
  refine pure_ (i := 13) (N := some 109) (v := undef) (a' := ?_) (bl 18 16383) rfl rfl (by kernel_rfl) (fun _ _ _ h => h) (Or.inr ⟨by rfl, rfl⟩) ?_ ?_
  rotate_left
  · simp only [Act.put, zA, zB, zC, i64_w, i32_w]; rfl
  refine pure_ (i := 14) (N := some 110) (v := undef) (a' := ?_) (bl 18 32767) rfl rfl (by kernel_rfl) (fun _ _ _ h => h) (Or.inr ⟨by rfl, rfl⟩) ?_ ?_
  rotate_left
  · simp only [Act.put, zA, zB, zC, i64_w, i32_w]; rfl
  refine pure_ (i := 15) (N := some 111) (v := ?_) (a' := ?_) (bl 18 65535) rfl rfl (by kernel_rfl) (fun _ _ _ h => h) (Or.inl ⟨by rfl, ?_⟩) ?_ ?_
  rotate_left
  · intro w'; go_simp; with_reducible rfl
  rotate_left
  · simp only [Act.put, zA, zB, zC, i64_w, i32_w]; rfl
  refine one_ (i := 16) (N := some 112) (bl 18 131071) rfl rfl (by kernel_rfl) (by decide) (fun K hK => ?_)
  refine goes_ Try.func83 (by kernel_rfl) rfl #[.bool t1, .bool false] (by rfl) rfl rfl (by (try simp only [List.map_toArray, List.map_cons, List.map_nil]); first | done | rfl) ?_
  with_reducible refine (truth_c t1 false r s ht.out _).mono ?_
  rintro e w14 ⟨rfl, hb⟩; refine ⟨_, rfl, ?_⟩
  replace HB := Aside0.mk (HB.out.step hb)
  clear hb
  have C := HB.out.cl
  simp only [Cl, and_true] at C
  obtain ⟨_, _, _, _, _, _, _, _, _, _, _, _⟩ := C
  refine hK.out _ _ ⟨HB.out.c0 0 rfl, HB.out.c1 0 rfl, HB.out.c0 1 rfl, HB.out.c1 1 rfl⟩ (fun hHeld => ?_)
  clear hK K
  refine norm_ (a' := ?_) ?_ ?_; rotate_left
  · show Act.put _ (some 112) _ = _; simp only [Act.put, zA, zB, zC, i64_w, i32_w]; rfl
  refine last_ (i := 17) (N := none) (bl 18 262143) rfl rfl (by kernel_rfl) (by decide) (fun K hK => ?_)
  refine skip_ (w1 := ?_) (by rfl) rfl ?_ ?_
  rotate_left
  · go_simp
    rfl
  refine hK.out _ _ ?_
  clear hK K
  refine done_ (by kernel_rfl) ?_
  go_wp2_with fail
  obtain ⟨R1, R2⟩ := HB.out.ret 2 rfl (by omega) r s
  refine bodyPost_ret (results_cell_row rfl _ _ (w.heap.size + 1 + 1) 38 #[.int .i32 r, .int .i32 s] (0, 0) _ rfl R1 Try.underlying38 rfl (by kernel_rfl)) rfl ⟨rfl, R2⟩

set_option maxHeartbeats 4000000 in
set_option maxRecDepth 100000 in
theorem decide2301 (a b c d m n r s : Int) (ap : Bool) (hm : Aside0 (meetv a b c d = (m, n))) (hap : Aside0 (decide (n < m) = ap)) (h1 : Aside0 (somev a b = false)) (h2 : Aside0 (nonev a b = true)) (t1 : Bool) (h3 : Aside0 (somev c d = t1)) (t2 : Bool) (h4 : Aside0 (nonev c d = t2)) (ht : Aside0 (truthv t1 t2 = (r, s))) (w : World) : Calls Try.prog 64 #[.int .u8 23, .agg #[.int .i32 a, .int .i32 b], .agg #[.int .i32 c, .int .i32 d]] w fun e w' => e = .returned (.agg #[.int .i32 r, .int .i32 s]) ∧ Below w.heap.size w w' := by
  have hu38 := Try.underlying38
  go_enter Try.func64, Try.ntmps64
  go_upto_region 1 with (fail)
  have HB := Aside0.mk (Bx.start3 w a b c d 0 0)
  generalize World.alloc (World.alloc (World.alloc w _) _) _ = w0 at HB ⊢
  have C := HB.out.cl
  simp only [Cl, and_true] at C
  obtain ⟨_, _, _, _, _, _, _, _, _, _, _, _⟩ := C
  go_wp2_with fail
  (with_reducible refine (meet_c a b c d m n hm.out _).mono ?_); rintro e w' ⟨rfl, hb⟩
  replace HB := Aside0.mk (HB.out.step hb)
  clear hb
  have C := HB.out.cl
  simp only [Cl, and_true] at C
  obtain ⟨_, _, _, _, _, _, _, _, _, _, _, _⟩ := C
  go_wp2_with fail
  (with_reducible refine (isE_c m n ap hap.out _).mono ?_); rintro e w' ⟨rfl, hb⟩
  replace HB := Aside0.mk (HB.out.step hb)
  clear hb
  have C := HB.out.cl
  simp only [Cl, and_true] at C
  obtain ⟨_, _, _, _, _, _, _, _, _, _, _, _⟩ := C
  go_wp2_with fail
  replace HB := Aside0.mk (HB.out.drew)
  refine start_ (n := 18) (S := fun w' => w'.cell? ⟨w.heap.size, 0, none⟩ = some (.int .i32 a) ∧ w'.cell? ⟨w.heap.size, 1, none⟩ = some (.int .i32 b) ∧ w'.cell? ⟨w.heap.size + 1, 0, none⟩ = some (.int .i32 c) ∧ w'.cell? ⟨w.heap.size + 1, 1, none⟩ = some (.int .i32 d)) (ds := [17]) #[false, false, false, false, false, false, false, false, false, false, false, false, false, false, false, false, false, false] (by kernel_rfl) rfl rfl ⟨HB.out.c0 0 rfl, HB.out.c1 0 rfl, HB.out.c0 1 rfl, HB.out.c1 1 rfl⟩ (fun hHeld => ?_)
  generalize w'.drew = w9 at HB hHeld ⊢
  refine pure_ (i := 0) (N := some 96) (v := ?_) (a' := ?_) (bl 18 1) rfl rfl (by kernel_rfl) (fun _ _ _ h => h) (Or.inl ⟨by rfl, ?_⟩) ?_ ?_
  rotate_left
  · intro w'; go_simp; with_reducible rfl
  rotate_left
  · simp only [Act.put, zA, zB, zC, i64_w, i32_w]; rfl
  refine take_ (i := 1) (N := some 97) (v := ?_) (a' := ?_) (bl 18 3) rfl rfl (by kernel_rfl) (fun _ _ _ h => h) (Or.inl ⟨by rfl, ?_⟩) hHeld ?_ ?_
  rotate_left
  · rintro w' ⟨_, _, _, _⟩; go_simp; with_reducible rfl
  rotate_left
  · simp only [Act.put, zA, zB, zC, i64_w, i32_w]; rfl
  refine pure_ (i := 8) (N := some 104) (v := ?_) (a' := ?_) (bl 18 259) rfl rfl (by kernel_rfl) (fun _ _ _ h => h) (Or.inl ⟨by rfl, ?_⟩) ?_ ?_
  rotate_left
  · intro w'; go_simp; with_reducible rfl
  rotate_left
  · simp only [Act.put, zA, zB, zC, i64_w, i32_w]; rfl
  refine take_ (i := 9) (N := some 105) (v := ?_) (a' := ?_) (bl 18 771) rfl rfl (by kernel_rfl) (fun _ _ _ h => h) (Or.inl ⟨by rfl, ?_⟩) hHeld ?_ ?_
  rotate_left
  · rintro w' ⟨_, _, _, _⟩; go_simp; with_reducible rfl
  rotate_left
  · simp only [Act.put, zA, zB, zC, i64_w, i32_w]; rfl
  refine one_ (i := 2) (N := some 98) (bl 18 775) rfl rfl (by kernel_rfl) (by decide) (fun K hK => ?_)
  refine goesV_ Try.func81 (by kernel_rfl) rfl #[.agg #[.int .i32 a, .int .i32 b]] (by rfl) rfl rfl rfl (by (try simp only [List.map_toArray, List.map_cons, List.map_nil]); first | done | rfl) ?_
  with_reducible refine (some_c a b false h1.out _).mono ?_
  rintro e w10 ⟨rfl, hb⟩; refine ⟨_, rfl, ?_⟩
  replace HB := Aside0.mk (HB.out.step hb); clear hb
  refine hK.out _ _ ⟨HB.out.c0 0 rfl, HB.out.c1 0 rfl, HB.out.c0 1 rfl, HB.out.c1 1 rfl⟩ (fun hHeld => ?_)
  clear hK K
  refine norm_ (a' := ?_) ?_ ?_; rotate_left
  · show Act.put _ (some 98) _ = _; simp only [Act.put, zA, zB, zC, i64_w, i32_w]; rfl
  refine pure_ (i := 3) (N := some 99) (v := ?_) (a' := ?_) (bl 18 783) rfl rfl (by kernel_rfl) (fun _ _ _ h => h) (Or.inl ⟨by rfl, ?_⟩) ?_ ?_
  rotate_left
  · intro w'; go_simp; with_reducible rfl
  rotate_left
  · simp only [Act.put, zA, zB, zC, i64_w, i32_w]; rfl
  refine pure_ (i := 4) (N := some 100) (v := ?_) (a' := ?_) (bl 18 799) rfl rfl (by kernel_rfl) (fun _ _ _ h => h) (Or.inl ⟨by rfl, ?_⟩) ?_ ?_
  rotate_left
  · intro w'; go_simp; with_reducible rfl
  rotate_left
  · simp only [Act.put, zA, zB, zC, i64_w, i32_w]; rfl
  refine take_ (i := 5) (N := some 101) (v := ?_) (a' := ?_) (bl 18 831) rfl rfl (by kernel_rfl) (fun _ _ _ h => h) (Or.inl ⟨by rfl, ?_⟩) hHeld ?_ ?_
  rotate_left
  · rintro w' ⟨_, _, _, _⟩; go_simp; with_reducible rfl
  rotate_left
  · simp only [Act.put, zA, zB, zC, i64_w, i32_w]; rfl
  refine one_ (i := 6) (N := some 102) (bl 18 895) rfl rfl (by kernel_rfl) (by decide) (fun K hK => ?_)
  refine goesV_ Try.func81 (by kernel_rfl) rfl #[.agg #[.int .i32 c, .int .i32 d]] (by rfl) rfl rfl rfl (by (try simp only [List.map_toArray, List.map_cons, List.map_nil]); first | done | rfl) ?_
  with_reducible refine (some_c c d t1 h3.out _).mono ?_
  rintro e w11 ⟨rfl, hb⟩; refine ⟨_, rfl, ?_⟩
  replace HB := Aside0.mk (HB.out.step hb); clear hb
  refine hK.out _ _ ⟨HB.out.c0 0 rfl, HB.out.c1 0 rfl, HB.out.c0 1 rfl, HB.out.c1 1 rfl⟩ (fun hHeld => ?_)
  clear hK K
  refine norm_ (a' := ?_) ?_ ?_; rotate_left
  · show Act.put _ (some 102) _ = _; simp only [Act.put, zA, zB, zC, i64_w, i32_w]; rfl
  refine pure_ (i := 7) (N := some 103) (v := ?_) (a' := ?_) (bl 18 1023) rfl rfl (by kernel_rfl) (fun _ _ _ h => h) (Or.inl ⟨by rfl, ?_⟩) ?_ ?_
  rotate_left
  · intro w'; go_simp; with_reducible rfl
  rotate_left
  · simp only [Act.put, zA, zB, zC, i64_w, i32_w]; rfl
  refine one_ (i := 10) (N := some 106) (bl 18 2047) rfl rfl (by kernel_rfl) (by decide) (fun K hK => ?_)
  refine goesV_ Try.func82 (by kernel_rfl) rfl #[.agg #[.int .i32 a, .int .i32 b]] (by rfl) rfl rfl rfl (by (try simp only [List.map_toArray, List.map_cons, List.map_nil]); first | done | rfl) ?_
  with_reducible refine (none_c a b true h2.out _).mono ?_
  rintro e w12 ⟨rfl, hb⟩; refine ⟨_, rfl, ?_⟩
  replace HB := Aside0.mk (HB.out.step hb); clear hb
  refine hK.out _ _ ⟨HB.out.c0 0 rfl, HB.out.c1 0 rfl, HB.out.c0 1 rfl, HB.out.c1 1 rfl⟩ (fun hHeld => ?_)
  clear hK K
  refine norm_ (a' := ?_) ?_ ?_; rotate_left
  · show Act.put _ (some 106) _ = _; simp only [Act.put, zA, zB, zC, i64_w, i32_w]; rfl
  refine pure_ (i := 11) (N := some 107) (v := ?_) (a' := ?_) (bl 18 4095) rfl rfl (by kernel_rfl) (fun _ _ _ h => h) (Or.inl ⟨by rfl, ?_⟩) ?_ ?_
  rotate_left
  · intro w'; go_simp; with_reducible rfl
  rotate_left
  · simp only [Act.put, zA, zB, zC, i64_w, i32_w]; rfl
  refine pure_ (i := 12) (N := some 108) (v := ?_) (a' := ?_) (bl 18 8191) rfl rfl (by kernel_rfl) (fun _ _ _ h => h) (Or.inl ⟨by rfl, ?_⟩) ?_ ?_
  rotate_left
  · intro w'; go_simp; with_reducible rfl
  rotate_left
  · simp only [Act.put, zA, zB, zC, i64_w, i32_w]; rfl
  refine take_ (i := 13) (N := some 109) (v := ?_) (a' := ?_) (bl 18 16383) rfl rfl (by kernel_rfl) (fun _ _ _ h => h) (Or.inl ⟨by rfl, ?_⟩) hHeld ?_ ?_
  rotate_left
  · rintro w' ⟨_, _, _, _⟩; go_simp; with_reducible rfl
  rotate_left
  · simp only [Act.put, zA, zB, zC, i64_w, i32_w]; rfl
  refine one_ (i := 14) (N := some 110) (bl 18 32767) rfl rfl (by kernel_rfl) (by decide) (fun K hK => ?_)
  refine goesV_ Try.func82 (by kernel_rfl) rfl #[.agg #[.int .i32 c, .int .i32 d]] (by rfl) rfl rfl rfl (by (try simp only [List.map_toArray, List.map_cons, List.map_nil]); first | done | rfl) ?_
  with_reducible refine (none_c c d t2 h4.out _).mono ?_
  rintro e w13 ⟨rfl, hb⟩; refine ⟨_, rfl, ?_⟩
  replace HB := Aside0.mk (HB.out.step hb); clear hb
  refine hK.out _ _ ⟨HB.out.c0 0 rfl, HB.out.c1 0 rfl, HB.out.c0 1 rfl, HB.out.c1 1 rfl⟩ (fun hHeld => ?_)
  clear hK K
  refine norm_ (a' := ?_) ?_ ?_; rotate_left
  · show Act.put _ (some 110) _ = _; simp only [Act.put, zA, zB, zC, i64_w, i32_w]; rfl
  refine pure_ (i := 15) (N := some 111) (v := ?_) (a' := ?_) (bl 18 65535) rfl rfl (by kernel_rfl) (fun _ _ _ h => h) (Or.inl ⟨by rfl, ?_⟩) ?_ ?_
  rotate_left
  · intro w'; go_simp; with_reducible rfl
  rotate_left
  · simp only [Act.put, zA, zB, zC, i64_w, i32_w]; rfl
  refine one_ (i := 16) (N := some 112) (bl 18 131071) rfl rfl (by kernel_rfl) (by decide) (fun K hK => ?_)
  refine goes_ Try.func83 (by kernel_rfl) rfl #[.bool t1, .bool t2] (by rfl) rfl rfl (by (try simp only [List.map_toArray, List.map_cons, List.map_nil]); first | done | rfl) ?_
  with_reducible refine (truth_c t1 t2 r s ht.out _).mono ?_
  rintro e w14 ⟨rfl, hb⟩; refine ⟨_, rfl, ?_⟩
  replace HB := Aside0.mk (HB.out.step hb)
  clear hb
  have C := HB.out.cl
  simp only [Cl, and_true] at C
  obtain ⟨_, _, _, _, _, _, _, _, _, _, _, _⟩ := C
  refine hK.out _ _ ⟨HB.out.c0 0 rfl, HB.out.c1 0 rfl, HB.out.c0 1 rfl, HB.out.c1 1 rfl⟩ (fun hHeld => ?_)
  clear hK K
  refine norm_ (a' := ?_) ?_ ?_; rotate_left
  · show Act.put _ (some 112) _ = _; simp only [Act.put, zA, zB, zC, i64_w, i32_w]; rfl
  refine last_ (i := 17) (N := none) (bl 18 262143) rfl rfl (by kernel_rfl) (by decide) (fun K hK => ?_)
  refine skip_ (w1 := ?_) (by rfl) rfl ?_ ?_
  rotate_left
  · go_simp
    rfl
  refine hK.out _ _ ?_
  clear hK K
  refine done_ (by kernel_rfl) ?_
  go_wp2_with fail
  obtain ⟨R1, R2⟩ := HB.out.ret 2 rfl (by omega) r s
  refine bodyPost_ret (results_cell_row rfl _ _ (w.heap.size + 1 + 1) 38 #[.int .i32 r, .int .i32 s] (0, 0) _ rfl R1 Try.underlying38 rfl (by kernel_rfl)) rfl ⟨rfl, R2⟩

set_option maxHeartbeats 4000000 in
set_option maxRecDepth 100000 in
theorem decide2310 (a b c d m n r s : Int) (ap : Bool) (hm : Aside0 (meetv a b c d = (m, n))) (hap : Aside0 (decide (n < m) = ap)) (h1 : Aside0 (somev a b = true)) (h2 : Aside0 (nonev a b = false)) (ht : Aside0 (truthv true false = (r, s))) (w : World) : Calls Try.prog 64 #[.int .u8 23, .agg #[.int .i32 a, .int .i32 b], .agg #[.int .i32 c, .int .i32 d]] w fun e w' => e = .returned (.agg #[.int .i32 r, .int .i32 s]) ∧ Below w.heap.size w w' := by
  have hu38 := Try.underlying38
  go_enter Try.func64, Try.ntmps64
  go_upto_region 1 with (fail)
  have HB := Aside0.mk (Bx.start3 w a b c d 0 0)
  generalize World.alloc (World.alloc (World.alloc w _) _) _ = w0 at HB ⊢
  have C := HB.out.cl
  simp only [Cl, and_true] at C
  obtain ⟨_, _, _, _, _, _, _, _, _, _, _, _⟩ := C
  go_wp2_with fail
  (with_reducible refine (meet_c a b c d m n hm.out _).mono ?_); rintro e w' ⟨rfl, hb⟩
  replace HB := Aside0.mk (HB.out.step hb)
  clear hb
  have C := HB.out.cl
  simp only [Cl, and_true] at C
  obtain ⟨_, _, _, _, _, _, _, _, _, _, _, _⟩ := C
  go_wp2_with fail
  (with_reducible refine (isE_c m n ap hap.out _).mono ?_); rintro e w' ⟨rfl, hb⟩
  replace HB := Aside0.mk (HB.out.step hb)
  clear hb
  have C := HB.out.cl
  simp only [Cl, and_true] at C
  obtain ⟨_, _, _, _, _, _, _, _, _, _, _, _⟩ := C
  go_wp2_with fail
  replace HB := Aside0.mk (HB.out.drew)
  refine start_ (n := 18) (S := fun w' => w'.cell? ⟨w.heap.size, 0, none⟩ = some (.int .i32 a) ∧ w'.cell? ⟨w.heap.size, 1, none⟩ = some (.int .i32 b) ∧ w'.cell? ⟨w.heap.size + 1, 0, none⟩ = some (.int .i32 c) ∧ w'.cell? ⟨w.heap.size + 1, 1, none⟩ = some (.int .i32 d)) (ds := [17]) #[false, false, false, false, false, false, false, false, false, false, false, false, false, false, false, false, false, false] (by kernel_rfl) rfl rfl ⟨HB.out.c0 0 rfl, HB.out.c1 0 rfl, HB.out.c0 1 rfl, HB.out.c1 1 rfl⟩ (fun hHeld => ?_)
  generalize w'.drew = w9 at HB hHeld ⊢
  refine pure_ (i := 0) (N := some 96) (v := ?_) (a' := ?_) (bl 18 1) rfl rfl (by kernel_rfl) (fun _ _ _ h => h) (Or.inl ⟨by rfl, ?_⟩) ?_ ?_
  rotate_left
  · intro w'; go_simp; with_reducible rfl
  rotate_left
  · simp only [Act.put, zA, zB, zC, i64_w, i32_w]; rfl
  refine take_ (i := 1) (N := some 97) (v := ?_) (a' := ?_) (bl 18 3) rfl rfl (by kernel_rfl) (fun _ _ _ h => h) (Or.inl ⟨by rfl, ?_⟩) hHeld ?_ ?_
  rotate_left
  · rintro w' ⟨_, _, _, _⟩; go_simp; with_reducible rfl
  rotate_left
  · simp only [Act.put, zA, zB, zC, i64_w, i32_w]; rfl
  refine pure_ (i := 8) (N := some 104) (v := ?_) (a' := ?_) (bl 18 259) rfl rfl (by kernel_rfl) (fun _ _ _ h => h) (Or.inl ⟨by rfl, ?_⟩) ?_ ?_
  rotate_left
  · intro w'; go_simp; with_reducible rfl
  rotate_left
  · simp only [Act.put, zA, zB, zC, i64_w, i32_w]; rfl
  refine take_ (i := 9) (N := some 105) (v := ?_) (a' := ?_) (bl 18 771) rfl rfl (by kernel_rfl) (fun _ _ _ h => h) (Or.inl ⟨by rfl, ?_⟩) hHeld ?_ ?_
  rotate_left
  · rintro w' ⟨_, _, _, _⟩; go_simp; with_reducible rfl
  rotate_left
  · simp only [Act.put, zA, zB, zC, i64_w, i32_w]; rfl
  refine one_ (i := 2) (N := some 98) (bl 18 775) rfl rfl (by kernel_rfl) (by decide) (fun K hK => ?_)
  refine goesV_ Try.func81 (by kernel_rfl) rfl #[.agg #[.int .i32 a, .int .i32 b]] (by rfl) rfl rfl rfl (by (try simp only [List.map_toArray, List.map_cons, List.map_nil]); first | done | rfl) ?_
  with_reducible refine (some_c a b true h1.out _).mono ?_
  rintro e w10 ⟨rfl, hb⟩; refine ⟨_, rfl, ?_⟩
  replace HB := Aside0.mk (HB.out.step hb); clear hb
  refine hK.out _ _ ⟨HB.out.c0 0 rfl, HB.out.c1 0 rfl, HB.out.c0 1 rfl, HB.out.c1 1 rfl⟩ (fun hHeld => ?_)
  clear hK K
  refine norm_ (a' := ?_) ?_ ?_; rotate_left
  · show Act.put _ (some 98) _ = _; simp only [Act.put, zA, zB, zC, i64_w, i32_w]; rfl
  refine pure_ (i := 3) (N := some 99) (v := ?_) (a' := ?_) (bl 18 783) rfl rfl (by kernel_rfl) (fun _ _ _ h => h) (Or.inl ⟨by rfl, ?_⟩) ?_ ?_
  rotate_left
  · intro w'; go_simp; with_reducible rfl
  rotate_left
  · simp only [Act.put, zA, zB, zC, i64_w, i32_w]; rfl
  refine pure_ (i := 4) (N := some 100) (v := undef) (a' := ?_) (bl 18 799) rfl rfl (by kernel_rfl) (fun _ _ _ h => h) (Or.inr ⟨by rfl, rfl⟩) ?_ ?_
  rotate_left
  · simp only [Act.put, zA, zB, zC, i64_w, i32_w]; rfl
  refine pure_ (i := 5) (N := some 101) (v := undef) (a' := ?_) (bl 18 831) rfl rfl (by kernel_rfl) (fun _ _ _ h => h) (Or.inr ⟨by rfl, rfl⟩) ?_ ?_
  rotate_left
  · simp only [Act.put, zA, zB, zC, i64_w, i32_w]; rfl
  refine pure_ (i := 6) (N := some 102) (v := undef) (a' := ?_) (bl 18 895) rfl rfl (by kernel_rfl) (fun _ _ _ h => h) (Or.inr ⟨by rfl, rfl⟩) ?_ ?_
  rotate_left
  · simp only [Act.put, zA, zB, zC, i64_w, i32_w]; rfl
  refine pure_ (i := 7) (N := some 103) (v := ?_) (a' := ?_) (bl 18 1023) rfl rfl (by kernel_rfl) (fun _ _ _ h => h) (Or.inl ⟨by rfl, ?_⟩) ?_ ?_
  rotate_left
  · intro w'; go_simp; with_reducible rfl
  rotate_left
  · simp only [Act.put, zA, zB, zC, i64_w, i32_w]; rfl
  refine one_ (i := 10) (N := some 106) (bl 18 2047) rfl rfl (by kernel_rfl) (by decide) (fun K hK => ?_)
  refine goesV_ Try.func82 (by kernel_rfl) rfl #[.agg #[.int .i32 a, .int .i32 b]] (by rfl) rfl rfl rfl (by (try simp only [List.map_toArray, List.map_cons, List.map_nil]); first | done | rfl) ?_
  with_reducible refine (none_c a b false h2.out _).mono ?_
  rintro e w12 ⟨rfl, hb⟩; refine ⟨_, rfl, ?_⟩
  replace HB := Aside0.mk (HB.out.step hb); clear hb
  refine hK.out _ _ ⟨HB.out.c0 0 rfl, HB.out.c1 0 rfl, HB.out.c0 1 rfl, HB.out.c1 1 rfl⟩ (fun hHeld => ?_)
  clear hK K
  refine norm_ (a' := ?_) ?_ ?_; rotate_left
  · show Act.put _ (some 106) _ = _; simp only [Act.put, zA, zB, zC, i64_w, i32_w]; rfl
  refine pure_ (i := 11) (N := some 107) (v := ?_) (a' := ?_) (bl 18 4095) rfl rfl (by kernel_rfl) (fun _ _ _ h => h) (Or.inl ⟨by rfl, ?_⟩) ?_ ?_
  rotate_left
  · intro w'; go_simp; with_reducible rfl
  rotate_left
  · simp only [Act.put, zA, zB, zC, i64_w, i32_w]; rfl
  refine pure_ (i := 12) (N := some 108) (v := undef) (a' := ?_) (bl 18 8191) rfl rfl (by kernel_rfl) (fun _ _ _ h => h) (Or.inr ⟨by rfl, rfl⟩) ?_ ?_
  rotate_left
  · simp only [Act.put, zA, zB, zC, i64_w, i32_w]; rfl
  refine pure_ (i := 13) (N := some 109) (v := undef) (a' := ?_) (bl 18 16383) rfl rfl (by kernel_rfl) (fun _ _ _ h => h) (Or.inr ⟨by rfl, rfl⟩) ?_ ?_
  rotate_left
  · simp only [Act.put, zA, zB, zC, i64_w, i32_w]; rfl
  refine pure_ (i := 14) (N := some 110) (v := undef) (a' := ?_) (bl 18 32767) rfl rfl (by kernel_rfl) (fun _ _ _ h => h) (Or.inr ⟨by rfl, rfl⟩) ?_ ?_
  rotate_left
  · simp only [Act.put, zA, zB, zC, i64_w, i32_w]; rfl
  refine pure_ (i := 15) (N := some 111) (v := ?_) (a' := ?_) (bl 18 65535) rfl rfl (by kernel_rfl) (fun _ _ _ h => h) (Or.inl ⟨by rfl, ?_⟩) ?_ ?_
  rotate_left
  · intro w'; go_simp; with_reducible rfl
  rotate_left
  · simp only [Act.put, zA, zB, zC, i64_w, i32_w]; rfl
  refine one_ (i := 16) (N := some 112) (bl 18 131071) rfl rfl (by kernel_rfl) (by decide) (fun K hK => ?_)
  refine goes_ Try.func83 (by kernel_rfl) rfl #[.bool true, .bool false] (by rfl) rfl rfl (by (try simp only [List.map_toArray, List.map_cons, List.map_nil]); first | done | rfl) ?_
  with_reducible refine (truth_c true false r s ht.out _).mono ?_
  rintro e w14 ⟨rfl, hb⟩; refine ⟨_, rfl, ?_⟩
  replace HB := Aside0.mk (HB.out.step hb)
  clear hb
  have C := HB.out.cl
  simp only [Cl, and_true] at C
  obtain ⟨_, _, _, _, _, _, _, _, _, _, _, _⟩ := C
  refine hK.out _ _ ⟨HB.out.c0 0 rfl, HB.out.c1 0 rfl, HB.out.c0 1 rfl, HB.out.c1 1 rfl⟩ (fun hHeld => ?_)
  clear hK K
  refine norm_ (a' := ?_) ?_ ?_; rotate_left
  · show Act.put _ (some 112) _ = _; simp only [Act.put, zA, zB, zC, i64_w, i32_w]; rfl
  refine last_ (i := 17) (N := none) (bl 18 262143) rfl rfl (by kernel_rfl) (by decide) (fun K hK => ?_)
  refine skip_ (w1 := ?_) (by rfl) rfl ?_ ?_
  rotate_left
  · go_simp
    rfl
  refine hK.out _ _ ?_
  clear hK K
  refine done_ (by kernel_rfl) ?_
  go_wp2_with fail
  obtain ⟨R1, R2⟩ := HB.out.ret 2 rfl (by omega) r s
  refine bodyPost_ret (results_cell_row rfl _ _ (w.heap.size + 1 + 1) 38 #[.int .i32 r, .int .i32 s] (0, 0) _ rfl R1 Try.underlying38 rfl (by kernel_rfl)) rfl ⟨rfl, R2⟩

set_option maxHeartbeats 4000000 in
set_option maxRecDepth 100000 in
theorem decide2311 (a b c d m n r s : Int) (ap : Bool) (hm : Aside0 (meetv a b c d = (m, n))) (hap : Aside0 (decide (n < m) = ap)) (h1 : Aside0 (somev a b = true)) (h2 : Aside0 (nonev a b = true)) (t2 : Bool) (h4 : Aside0 (nonev c d = t2)) (ht : Aside0 (truthv true t2 = (r, s))) (w : World) : Calls Try.prog 64 #[.int .u8 23, .agg #[.int .i32 a, .int .i32 b], .agg #[.int .i32 c, .int .i32 d]] w fun e w' => e = .returned (.agg #[.int .i32 r, .int .i32 s]) ∧ Below w.heap.size w w' := by
  have hu38 := Try.underlying38
  go_enter Try.func64, Try.ntmps64
  go_upto_region 1 with (fail)
  have HB := Aside0.mk (Bx.start3 w a b c d 0 0)
  generalize World.alloc (World.alloc (World.alloc w _) _) _ = w0 at HB ⊢
  have C := HB.out.cl
  simp only [Cl, and_true] at C
  obtain ⟨_, _, _, _, _, _, _, _, _, _, _, _⟩ := C
  go_wp2_with fail
  (with_reducible refine (meet_c a b c d m n hm.out _).mono ?_); rintro e w' ⟨rfl, hb⟩
  replace HB := Aside0.mk (HB.out.step hb)
  clear hb
  have C := HB.out.cl
  simp only [Cl, and_true] at C
  obtain ⟨_, _, _, _, _, _, _, _, _, _, _, _⟩ := C
  go_wp2_with fail
  (with_reducible refine (isE_c m n ap hap.out _).mono ?_); rintro e w' ⟨rfl, hb⟩
  replace HB := Aside0.mk (HB.out.step hb)
  clear hb
  have C := HB.out.cl
  simp only [Cl, and_true] at C
  obtain ⟨_, _, _, _, _, _, _, _, _, _, _, _⟩ := C
  go_wp2_with fail
  replace HB := Aside0.mk (HB.out.drew)
  refine start_ (n := 18) (S := fun w' => w'.cell? ⟨w.heap.size, 0, none⟩ = some (.int .i32 a) ∧ w'.cell? ⟨w.heap.size, 1, none⟩ = some (.int .i32 b) ∧ w'.cell? ⟨w.heap.size + 1, 0, none⟩ = some (.int .i32 c) ∧ w'.cell? ⟨w.heap.size + 1, 1, none⟩ = some (.int .i32 d)) (ds := [17]) #[false, false, false, false, false, false, false, false, false, false, false, false, false, false, false, false, false, false] (by kernel_rfl) rfl rfl ⟨HB.out.c0 0 rfl, HB.out.c1 0 rfl, HB.out.c0 1 rfl, HB.out.c1 1 rfl⟩ (fun hHeld => ?_)
  generalize w'.drew = w9 at HB hHeld ⊢
  refine pure_ (i := 0) (N := some 96) (v := ?_) (a' := ?_) (bl 18 1) rfl rfl (by kernel_rfl) (fun _ _ _ h => h) (Or.inl ⟨by rfl, ?_⟩) ?_ ?_
  rotate_left
  · intro w'; go_simp; with_reducible rfl
  rotate_left
  · simp only [Act.put, zA, zB, zC, i64_w, i32_w]; rfl
  refine take_ (i := 1) (N := some 97) (v := ?_) (a' := ?_) (bl 18 3) rfl rfl (by kernel_rfl) (fun _ _ _ h => h) (Or.inl ⟨by rfl, ?_⟩) hHeld ?_ ?_
  rotate_left
  · rintro w' ⟨_, _, _, _⟩; go_simp; with_reducible rfl
  rotate_left
  · simp only [Act.put, zA, zB, zC, i64_w, i32_w]; rfl
  refine pure_ (i := 8) (N := some 104) (v := ?_) (a' := ?_) (bl 18 259) rfl rfl (by kernel_rfl) (fun _ _ _ h => h) (Or.inl ⟨by rfl, ?_⟩) ?_ ?_
  rotate_left
  · intro w'; go_simp; with_reducible rfl
  rotate_left
  · simp only [Act.put, zA, zB, zC, i64_w, i32_w]; rfl
  refine take_ (i := 9) (N := some 105) (v := ?_) (a' := ?_) (bl 18 771) rfl rfl (by kernel_rfl) (fun _ _ _ h => h) (Or.inl ⟨by rfl, ?_⟩) hHeld ?_ ?_
  rotate_left
  · rintro w' ⟨_, _, _, _⟩; go_simp; with_reducible rfl
  rotate_left
  · simp only [Act.put, zA, zB, zC, i64_w, i32_w]; rfl
  refine one_ (i := 2) (N := some 98) (bl 18 775) rfl rfl (by kernel_rfl) (by decide) (fun K hK => ?_)
  refine goesV_ Try.func81 (by kernel_rfl) rfl #[.agg #[.int .i32 a, .int .i32 b]] (by rfl) rfl rfl rfl (by (try simp only [List.map_toArray, List.map_cons, List.map_nil]); first | done | rfl) ?_
  with_reducible refine (some_c a b true h1.out _).mono ?_
  rintro e w10 ⟨rfl, hb⟩; refine ⟨_, rfl, ?_⟩
  replace HB := Aside0.mk (HB.out.step hb); clear hb
  refine hK.out _ _ ⟨HB.out.c0 0 rfl, HB.out.c1 0 rfl, HB.out.c0 1 rfl, HB.out.c1 1 rfl⟩ (fun hHeld => ?_)
  clear hK K
  refine norm_ (a' := ?_) ?_ ?_; rotate_left
  · show Act.put _ (some 98) _ = _; simp only [Act.put, zA, zB, zC, i64_w, i32_w]; rfl
  refine pure_ (i := 3) (N := some 99) (v := ?_) (a' := ?_) (bl 18 783) rfl rfl (by kernel_rfl) (fun _ _ _ h => h) (Or.inl ⟨by rfl, ?_⟩) ?_ ?_
  rotate_left
  · intro w'; go_simp; with_reducible rfl
  rotate_left
  · simp only [Act.put, zA, zB, zC, i64_w, i32_w]; rfl
  refine pure_ (i := 4) (N := some 100) (v := undef) (a' := ?_) (bl 18 799) rfl rfl (by kernel_rfl) (fun _ _ _ h => h) (Or.inr ⟨by rfl, rfl⟩) ?_ ?_
  rotate_left
  · simp only [Act.put, zA, zB, zC, i64_w, i32_w]; rfl
  refine pure_ (i := 5) (N := some 101) (v := undef) (a' := ?_) (bl 18 831) rfl rfl (by kernel_rfl) (fun _ _ _ h => h) (Or.inr ⟨by rfl, rfl⟩) ?_ ?_
  rotate_left
  · simp only [Act.put, zA, zB, zC, i64_w, i32_w]; rfl
  refine pure_ (i := 6) (N := some 102) (v := undef) (a' := ?_) (bl 18 895) rfl rfl (by kernel_rfl) (fun _ _ _ h => h) (Or.inr ⟨by rfl, rfl⟩) ?_ ?_
  rotate_left
  · simp only [Act.put, zA, zB, zC, i64_w, i32_w]; rfl
  refine pure_ (i := 7) (N := some 103) (v := ?_) (a' := ?_) (bl 18 1023) rfl rfl (by kernel_rfl) (fun _ _ _ h => h) (Or.inl ⟨by rfl, ?_⟩) ?_ ?_
  rotate_left
  · intro w'; go_simp; with_reducible rfl
  rotate_left
  · simp only [Act.put, zA, zB, zC, i64_w, i32_w]; rfl
  refine one_ (i := 10) (N := some 106) (bl 18 2047) rfl rfl (by kernel_rfl) (by decide) (fun K hK => ?_)
  refine goesV_ Try.func82 (by kernel_rfl) rfl #[.agg #[.int .i32 a, .int .i32 b]] (by rfl) rfl rfl rfl (by (try simp only [List.map_toArray, List.map_cons, List.map_nil]); first | done | rfl) ?_
  with_reducible refine (none_c a b true h2.out _).mono ?_
  rintro e w12 ⟨rfl, hb⟩; refine ⟨_, rfl, ?_⟩
  replace HB := Aside0.mk (HB.out.step hb); clear hb
  refine hK.out _ _ ⟨HB.out.c0 0 rfl, HB.out.c1 0 rfl, HB.out.c0 1 rfl, HB.out.c1 1 rfl⟩ (fun hHeld => ?_)
  clear hK K
  refine norm_ (a' := ?_) ?_ ?_; rotate_left
  · show Act.put _ (some 106) _ = _; simp only [Act.put, zA, zB, zC, i64_w, i32_w]; rfl
  refine pure_ (i := 11) (N := some 107) (v := ?_) (a' := ?_) (bl 18 4095) rfl rfl (by kernel_rfl) (fun _ _ _ h => h) (Or.inl ⟨by rfl, ?_⟩) ?_ ?_
  rotate_left
  · intro w'; go_simp; with_reducible rfl
  rotate_left
  · simp only [Act.put, zA, zB, zC, i64_w, i32_w]; rfl
  refine pure_ (i := 12) (N := some 108) (v := ?_) (a' := ?_) (bl 18 8191) rfl rfl (by kernel_rfl) (fun _ _ _ h => h) (Or.inl ⟨by rfl, ?_⟩) ?_ ?_
  rotate_left
  · intro w'; go_simp; with_reducible rfl
  rotate_left
  · simp only [Act.put, zA, zB, zC, i64_w, i32_w]; rfl
  refine take_ (i := 13) (N := some 109) (v := ?_) (a' := ?_) (bl 18 16383) rfl rfl (by kernel_rfl) (fun _ _ _ h => h) (Or.inl ⟨by rfl, ?_⟩) hHeld ?_ ?_
  rotate_left
  · rintro w' ⟨_, _, _, _⟩; go_simp; with_reducible rfl
  rotate_left
  · simp only [Act.put, zA, zB, zC, i64_w, i32_w]; rfl
  refine one_ (i := 14) (N := some 110) (bl 18 32767) rfl rfl (by kernel_rfl) (by decide) (fun K hK => ?_)
  refine goesV_ Try.func82 (by kernel_rfl) rfl #[.agg #[.int .i32 c, .int .i32 d]] (by rfl) rfl rfl rfl (by (try simp only [List.map_toArray, List.map_cons, List.map_nil]); first | done | rfl) ?_
  with_reducible refine (none_c c d t2 h4.out _).mono ?_
  rintro e w13 ⟨rfl, hb⟩; refine ⟨_, rfl, ?_⟩
  replace HB := Aside0.mk (HB.out.step hb); clear hb
  refine hK.out _ _ ⟨HB.out.c0 0 rfl, HB.out.c1 0 rfl, HB.out.c0 1 rfl, HB.out.c1 1 rfl⟩ (fun hHeld => ?_)
  clear hK K
  refine norm_ (a' := ?_) ?_ ?_; rotate_left
  · show Act.put _ (some 110) _ = _; simp only [Act.put, zA, zB, zC, i64_w, i32_w]; rfl
  refine pure_ (i := 15) (N := some 111) (v := ?_) (a' := ?_) (bl 18 65535) rfl rfl (by kernel_rfl) (fun _ _ _ h => h) (Or.inl ⟨by rfl, ?_⟩) ?_ ?_
  rotate_left
  · intro w'; go_simp; with_reducible rfl
  rotate_left
  · simp only [Act.put, zA, zB, zC, i64_w, i32_w]; rfl
  refine one_ (i := 16) (N := some 112) (bl 18 131071) rfl rfl (by kernel_rfl) (by decide) (fun K hK => ?_)
  refine goes_ Try.func83 (by kernel_rfl) rfl #[.bool true, .bool t2] (by rfl) rfl rfl (by (try simp only [List.map_toArray, List.map_cons, List.map_nil]); first | done | rfl) ?_
  with_reducible refine (truth_c true t2 r s ht.out _).mono ?_
  rintro e w14 ⟨rfl, hb⟩; refine ⟨_, rfl, ?_⟩
  replace HB := Aside0.mk (HB.out.step hb)
  clear hb
  have C := HB.out.cl
  simp only [Cl, and_true] at C
  obtain ⟨_, _, _, _, _, _, _, _, _, _, _, _⟩ := C
  refine hK.out _ _ ⟨HB.out.c0 0 rfl, HB.out.c1 0 rfl, HB.out.c0 1 rfl, HB.out.c1 1 rfl⟩ (fun hHeld => ?_)
  clear hK K
  refine norm_ (a' := ?_) ?_ ?_; rotate_left
  · show Act.put _ (some 112) _ = _; simp only [Act.put, zA, zB, zC, i64_w, i32_w]; rfl
  refine last_ (i := 17) (N := none) (bl 18 262143) rfl rfl (by kernel_rfl) (by decide) (fun K hK => ?_)
  refine skip_ (w1 := ?_) (by rfl) rfl ?_ ?_
  rotate_left
  · go_simp
    rfl
  refine hK.out _ _ ?_
  clear hK K
  refine done_ (by kernel_rfl) ?_
  go_wp2_with fail
  obtain ⟨R1, R2⟩ := HB.out.ret 2 rfl (by omega) r s
  refine bodyPost_ret (results_cell_row rfl _ _ (w.heap.size + 1 + 1) 38 #[.int .i32 r, .int .i32 s] (0, 0) _ rfl R1 Try.underlying38 rfl (by kernel_rfl)) rfl ⟨rfl, R2⟩

theorem decide_c (op a b c d r s : Int) (h0 : 16 ≤ op) (h1 : op ≤ 23) (h : decv op a b c d = (r, s)) (w : World) : Calls Try.prog 64 #[.int .u8 op, .agg #[.int .i32 a, .int .i32 b], .agg #[.int .i32 c, .int .i32 d]] w fun e w' => e = .returned (.agg #[.int .i32 r, .int .i32 s]) ∧ Below w.heap.size w w' := by
  obtain ⟨m, n, hm⟩ : ∃ m n, meetv a b c d = (m, n) := ⟨_, _, rfl⟩
  obtain ⟨ap, hap⟩ : ∃ ap, decide (n < m) = ap := ⟨_, rfl⟩
  have hv : apartv a b c d = ap := by unfold apartv; rw [hm]; exact hap
  have cases : op = 16 ∨ op = 17 ∨ op = 18 ∨ op = 19 ∨ op = 20 ∨ op = 21 ∨ op = 22 ∨ op = 23 := by omega
  unfold decv at h
  rw [hv] at h
  rcases cases with rfl | rfl | rfl | rfl | rfl | rfl | rfl | rfl
  · exact decide16 a b c d m n r s ap ⟨hm⟩ ⟨hap⟩ ⟨h⟩ w
  · exact decide17 a b c d m n r s ap ⟨hm⟩ ⟨hap⟩ ⟨h⟩ w
  · exact decide18 a b c d m n r s ap ⟨hm⟩ ⟨hap⟩ ⟨h⟩ w
  · exact decide19 a b c d m n r s ap ⟨hm⟩ ⟨hap⟩ ⟨h⟩ w
  · exact decide20 a b c d m n r s ap ⟨hm⟩ ⟨hap⟩ ⟨h⟩ w
  · exact decide21 a b c d m n r s ap ⟨hm⟩ ⟨hap⟩ ⟨h⟩ w
  · rw [if_neg (by decide), if_neg (by decide), if_neg (by decide), if_neg (by decide), if_neg (by decide), if_neg (by decide), if_pos rfl] at h
    cases h2 : somev a b <;> cases h3 : nonev a b <;> rw [h2, h3] at h
    · exact decide2200 a b c d m n r s ap ⟨hm⟩ ⟨hap⟩ ⟨h2⟩ ⟨h3⟩ _ ⟨rfl⟩ ⟨h⟩ w
    · exact decide2201 a b c d m n r s ap ⟨hm⟩ ⟨hap⟩ ⟨h2⟩ ⟨h3⟩ ⟨h⟩ w
    · exact decide2210 a b c d m n r s ap ⟨hm⟩ ⟨hap⟩ ⟨h2⟩ ⟨h3⟩ _ ⟨rfl⟩ _ ⟨rfl⟩ ⟨h⟩ w
    · exact decide2211 a b c d m n r s ap ⟨hm⟩ ⟨hap⟩ ⟨h2⟩ ⟨h3⟩ _ ⟨rfl⟩ ⟨h⟩ w
  · rw [if_neg (by decide), if_neg (by decide), if_neg (by decide), if_neg (by decide), if_neg (by decide), if_neg (by decide), if_neg (by decide), if_pos rfl] at h
    cases h2 : somev a b <;> cases h3 : nonev a b <;> rw [h2, h3] at h
    · exact decide2300 a b c d m n r s ap ⟨hm⟩ ⟨hap⟩ ⟨h2⟩ ⟨h3⟩ _ ⟨rfl⟩ ⟨h⟩ w
    · exact decide2301 a b c d m n r s ap ⟨hm⟩ ⟨hap⟩ ⟨h2⟩ ⟨h3⟩ _ ⟨rfl⟩ _ ⟨rfl⟩ ⟨h⟩ w
    · exact decide2310 a b c d m n r s ap ⟨hm⟩ ⟨hap⟩ ⟨h2⟩ ⟨h3⟩ ⟨h⟩ w
    · exact decide2311 a b c d m n r s ap ⟨hm⟩ ⟨hap⟩ ⟨h2⟩ ⟨h3⟩ _ ⟨rfl⟩ ⟨h⟩ w

end Go.Proofs.Ytoalomjmmlnclaa.Ivl

