/- Contracts of the functions of package interval and of the interval laws' own helpers, in the words of the plain functions: what each answers, for every argument that its premises let in; memory that existed is left as it was. -/
import Derived.Test.YtoalomjmmlnclaaIvlK
namespace Go.Proofs.Ytoalomjmmlnclaa.Ivl
open Go.RowKit Go.Proofs.Ytoalomjmmlnclaa.PIntervalApply Go.Proofs.YtoalomjmmlnclaaW.PrintWords Go.Proofs.YtoalomjmmlnclaaW.PrintLast
open Go.Proofs.Ytoalomjmmlnclaa.M
attribute [local go_sem] max2_int min2_int max_two min_two max_three min_three max_four min_four
set_option linter.unusedVariables false
set_option linter.unusedSimpArgs false

/-! ### by hand: what the printed functions answer, in the plain functions' words -/
theorem bcell {W w1 : World} (hb : Below W.heap.size W w1) : (∀ b o, b < W.heap.size → w1.cell? ⟨b, o, none⟩ = W.cell? ⟨b, o, none⟩) ∧ (∀ b o, b < W.heap.size → w1.frozen? ⟨b, o, none⟩ = W.frozen? ⟨b, o, none⟩) :=
  ⟨fun b o h => hb.cell (p := ⟨b, o, none⟩) h, fun b o h => hb.frozen (p := ⟨b, o, none⟩) h⟩
theorem below_cell {w w' : World} (hb : Below w.heap.size w w') {a : Addr} {v : Value} (h : w.cell? a = some v) : w'.cell? a = some v := by
  rw [hb.cell (World.block_lt_of_cell? w a h)]; exact h
theorem keep2 {w w' : World} {a b : Addr} {u v : Value} (h : w.cell? a = some u ∧ w.cell? b = some v) (hb : Below w.heap.size w w') : w'.cell? a = some u ∧ w'.cell? b = some v :=
  ⟨below_cell hb h.1, below_cell hb h.2⟩

theorem mn_min (a b : Int) : mn a b = min a b := by unfold mn; split <;> omega
theorem mx_max (a b : Int) : mx a b = max a b := by unfold mx; split <;> omega

theorem empty_c (w : World) : Calls Try.prog 33 #[] w fun e w' => e = .returned (.agg #[.int .i32 1, .int .i32 0]) ∧ Below w.heap.size w w' := interval_Empty.calls 1 0 w rfl
theorem full_c (w : World) : Calls Try.prog 42 #[] w fun e w' => e = .returned (.agg #[.int .i32 (-2147483648), .int .i32 2147483647]) ∧ Below w.heap.size w w' := interval_Full.calls _ _ w rfl
theorem of_c (n : Int) (w : World) : Calls Try.prog 44 #[.int .i32 n] w fun e w' => e = .returned (.agg #[.int .i32 n, .int .i32 n]) ∧ Below w.heap.size w w' := interval_Of.calls n n n w rfl
theorem isE_c (lo hi : Int) (r : Bool) (h : decide (hi < lo) = r) (w : World) : Calls Try.prog 32 #[.agg #[.int .i32 lo, .int .i32 hi]] w fun e w' => e = .returned (.bool r) ∧ Below w.heap.size w w' :=
  interval_I_IsEmpty.calls lo hi r w (by unfold interval_I_IsEmpty.f; rw [← h])
theorem isE_t (lo hi : Int) (h : hi < lo) (w : World) : Calls Try.prog 32 #[.agg #[.int .i32 lo, .int .i32 hi]] w fun e w' => e = .returned (.bool true) ∧ Below w.heap.size w w' :=
  isE_c lo hi true (decide_eq_true h) w
theorem isE_f (lo hi : Int) (h : lo ≤ hi) (w : World) : Calls Try.prog 32 #[.agg #[.int .i32 lo, .int .i32 hi]] w fun e w' => e = .returned (.bool false) ∧ Below w.heap.size w w' :=
  isE_c lo hi false (decide_eq_false (by omega)) w
theorem contains_c (lo hi n : Int) (r : Bool) (h : hasv lo hi n = r) (w : World) : Calls Try.prog 30 #[.agg #[.int .i32 lo, .int .i32 hi], .int .i32 n] w fun e w' => e = .returned (.bool r) ∧ Below w.heap.size w w' :=
  interval_I_Contains.calls lo hi n r w (by
    unfold interval_I_Contains.f; rw [← h]; unfold hasv
    by_cases c : lo ≤ n
    · rw [if_pos c]; congr 1; exact decide_eq_decide.2 (by omega)
    · rw [if_neg c]; congr 1; rw [decide_eq_false (by omega)])
set_option maxHeartbeats 4000000 in
set_option maxRecDepth 100000 in
theorem within_1 (a b c d : Int) (h1 : Aside0 (b < a)) (w : World) : Calls Try.prog 29 #[.agg #[.int .i32 a, .int .i32 b], .agg #[.int .i32 c, .int .i32 d]] w fun e w' => e = .returned (.bool true) ∧ Below w.heap.size w w' := by
  have hu38 := Try.underlying38
  go_enter Try.func29, Try.ntmps29
  go_upto_region 1 with (fail)
  have HB := Aside0.mk (Bx.start2 w a b c d)
  generalize World.alloc (World.alloc w _) _ = w0 at HB ⊢
  have C := HB.out.cl
  simp only [Cl, and_true] at C
  obtain ⟨_, _, _, _, _, _, _, _⟩ := C
  go_wp2_with fail
  (with_reducible refine (isE_t a b h1.out _).mono ?_); rintro e w' ⟨rfl, hb⟩
  replace HB := Aside0.mk (HB.out.step hb)
  clear hb
  have C := HB.out.cl
  simp only [Cl, and_true] at C
  obtain ⟨_, _, _, _, _, _, _, _⟩ := C
  go_wp2_with fail
  go_ret
  exact ⟨by first | rfl | (simp; done) | (simp [*]; done), HB.out.below⟩
set_option maxHeartbeats 4000000 in
set_option maxRecDepth 100000 in
theorem within_2 (a b c d : Int) (h1 : Aside0 (a ≤ b)) (h2 : Aside0 (d < c)) (w : World) : Calls Try.prog 29 #[.agg #[.int .i32 a, .int .i32 b], .agg #[.int .i32 c, .int .i32 d]] w fun e w' => e = .returned (.bool false) ∧ Below w.heap.size w w' := by
  have hu38 := Try.underlying38
  go_enter Try.func29, Try.ntmps29
  go_upto_region 1 with (fail)
  have HB := Aside0.mk (Bx.start2 w a b c d)
  generalize World.alloc (World.alloc w _) _ = w0 at HB ⊢
  have C := HB.out.cl
  simp only [Cl, and_true] at C
  obtain ⟨_, _, _, _, _, _, _, _⟩ := C
  go_wp2_with fail
  (with_reducible refine (isE_f a b h1.out _).mono ?_); rintro e w' ⟨rfl, hb⟩
  replace HB := Aside0.mk (HB.out.step hb)
  clear hb
  have C := HB.out.cl
  simp only [Cl, and_true] at C
  obtain ⟨_, _, _, _, _, _, _, _⟩ := C
  go_wp2_with fail
  (with_reducible refine (isE_t c d h2.out _).mono ?_); rintro e w' ⟨rfl, hb⟩
  replace HB := Aside0.mk (HB.out.step hb)
  clear hb
  have C := HB.out.cl
  simp only [Cl, and_true] at C
  obtain ⟨_, _, _, _, _, _, _, _⟩ := C
  go_wp2_with fail
  go_ret
  exact ⟨by first | rfl | (simp; done) | (simp [*]; done), HB.out.below⟩
set_option maxHeartbeats 4000000 in
set_option maxRecDepth 100000 in
theorem within_3 (a b c d : Int) (h1 : Aside0 (a ≤ b)) (h2 : Aside0 (c ≤ d)) (h3 : decide (c ≤ a) = true) (h4 : decide (b ≤ d) = true) (w : World) : Calls Try.prog 29 #[.agg #[.int .i32 a, .int .i32 b], .agg #[.int .i32 c, .int .i32 d]] w fun e w' => e = .returned (.bool true) ∧ Below w.heap.size w w' := by
  have hu38 := Try.underlying38
  go_enter Try.func29, Try.ntmps29
  go_upto_region 1 with (fail)
  have HB := Aside0.mk (Bx.start2 w a b c d)
  generalize World.alloc (World.alloc w _) _ = w0 at HB ⊢
  have C := HB.out.cl
  simp only [Cl, and_true] at C
  obtain ⟨_, _, _, _, _, _, _, _⟩ := C
  go_wp2_with fail
  (with_reducible refine (isE_f a b h1.out _).mono ?_); rintro e w' ⟨rfl, hb⟩
  replace HB := Aside0.mk (HB.out.step hb)
  clear hb
  have C := HB.out.cl
  simp only [Cl, and_true] at C
  obtain ⟨_, _, _, _, _, _, _, _⟩ := C
  go_wp2_with fail
  (with_reducible refine (isE_f c d h2.out _).mono ?_); rintro e w' ⟨rfl, hb⟩
  replace HB := Aside0.mk (HB.out.step hb)
  clear hb
  have C := HB.out.cl
  simp only [Cl, and_true] at C
  obtain ⟨_, _, _, _, _, _, _, _⟩ := C
  go_wp2_with fail
  go_ret
  exact ⟨by first | rfl | (simp; done) | (simp [*]; done), HB.out.below⟩
set_option maxHeartbeats 4000000 in
set_option maxRecDepth 100000 in
theorem within_4 (a b c d : Int) (h1 : Aside0 (a ≤ b)) (h2 : Aside0 (c ≤ d)) (h3 : decide (c ≤ a) = true) (h4 : decide (b ≤ d) = false) (w : World) : Calls Try.prog 29 #[.agg #[.int .i32 a, .int .i32 b], .agg #[.int .i32 c, .int .i32 d]] w fun e w' => e = .returned (.bool false) ∧ Below w.heap.size w w' := by
  have hu38 := Try.underlying38
  go_enter Try.func29, Try.ntmps29
  go_upto_region 1 with (fail)
  have HB := Aside0.mk (Bx.start2 w a b c d)
  generalize World.alloc (World.alloc w _) _ = w0 at HB ⊢
  have C := HB.out.cl
  simp only [Cl, and_true] at C
  obtain ⟨_, _, _, _, _, _, _, _⟩ := C
  go_wp2_with fail
  (with_reducible refine (isE_f a b h1.out _).mono ?_); rintro e w' ⟨rfl, hb⟩
  replace HB := Aside0.mk (HB.out.step hb)
  clear hb
  have C := HB.out.cl
  simp only [Cl, and_true] at C
  obtain ⟨_, _, _, _, _, _, _, _⟩ := C
  go_wp2_with fail
  (with_reducible refine (isE_f c d h2.out _).mono ?_); rintro e w' ⟨rfl, hb⟩
  replace HB := Aside0.mk (HB.out.step hb)
  clear hb
  have C := HB.out.cl
  simp only [Cl, and_true] at C
  obtain ⟨_, _, _, _, _, _, _, _⟩ := C
  go_wp2_with fail
  go_ret
  exact ⟨by first | rfl | (simp; done) | (simp [*]; done), HB.out.below⟩
set_option maxHeartbeats 4000000 in
set_option maxRecDepth 100000 in
theorem within_5 (a b c d : Int) (h1 : Aside0 (a ≤ b)) (h2 : Aside0 (c ≤ d)) (h3 : decide (c ≤ a) = false) (w : World) : Calls Try.prog 29 #[.agg #[.int .i32 a, .int .i32 b], .agg #[.int .i32 c, .int .i32 d]] w fun e w' => e = .returned (.bool false) ∧ Below w.heap.size w w' := by
  have hu38 := Try.underlying38
  go_enter Try.func29, Try.ntmps29
  go_upto_region 1 with (fail)
  have HB := Aside0.mk (Bx.start2 w a b c d)
  generalize World.alloc (World.alloc w _) _ = w0 at HB ⊢
  have C := HB.out.cl
  simp only [Cl, and_true] at C
  obtain ⟨_, _, _, _, _, _, _, _⟩ := C
  go_wp2_with fail
  (with_reducible refine (isE_f a b h1.out _).mono ?_); rintro e w' ⟨rfl, hb⟩
  replace HB := Aside0.mk (HB.out.step hb)
  clear hb
  have C := HB.out.cl
  simp only [Cl, and_true] at C
  obtain ⟨_, _, _, _, _, _, _, _⟩ := C
  go_wp2_with fail
  (with_reducible refine (isE_f c d h2.out _).mono ?_); rintro e w' ⟨rfl, hb⟩
  replace HB := Aside0.mk (HB.out.step hb)
  clear hb
  have C := HB.out.cl
  simp only [Cl, and_true] at C
  obtain ⟨_, _, _, _, _, _, _, _⟩ := C
  go_wp2_with fail
  go_ret
  exact ⟨by first | rfl | (simp; done) | (simp [*]; done), HB.out.below⟩
theorem within_c (a b c d : Int) (r : Bool) (h : within a b c d = r) (w : World) : Calls Try.prog 29 #[.agg #[.int .i32 a, .int .i32 b], .agg #[.int .i32 c, .int .i32 d]] w fun e w' => e = .returned (.bool r) ∧ Below w.heap.size w w' := by
  subst h
  unfold within
  by_cases h1 : b < a
  · rw [decide_eq_true (by omega)]; exact within_1 a b c d ⟨h1⟩ w
  · by_cases h2 : d < c
    · rw [decide_eq_false (by omega)]; exact within_2 a b c d ⟨by omega⟩ ⟨h2⟩ w
    · by_cases h3 : c ≤ a
      · by_cases h4 : b ≤ d
        · rw [decide_eq_true (by omega)]; exact within_3 a b c d ⟨by omega⟩ ⟨by omega⟩ (decide_eq_true h3) (decide_eq_true h4) w
        · rw [decide_eq_false (by omega)]; exact within_4 a b c d ⟨by omega⟩ ⟨by omega⟩ (decide_eq_true h3) (decide_eq_false h4) w
      · rw [decide_eq_false (by omega)]; exact within_5 a b c d ⟨by omega⟩ ⟨by omega⟩ (decide_eq_false h3) w
theorem join_f (k : Nat) (a b c d : Int) : interval_Join.f (k + 1) a b c d = some (joinv a b c d) := by
  simp only [interval_Join.f, interval_Join.j0, interval_I_IsEmpty.f, interval_Empty.f, joinv, mn_min, mx_max]
  by_cases h1 : b < a <;> by_cases h2 : d < c <;> simp [h1, h2]
theorem join_c (a b c d r s : Int) (h : joinv a b c d = (r, s)) (w : World) : Calls Try.prog 26 #[.agg #[.int .i32 a, .int .i32 b], .agg #[.int .i32 c, .int .i32 d]] w fun e w' => e = .returned (.agg #[.int .i32 r, .int .i32 s]) ∧ Below w.heap.size w w' :=
  interval_Join.calls 1 a b c d r s w (by
    rw [← h]; exact join_f 0 a b c d)
theorem meet_c (a b c d r s : Int) (h : meetv a b c d = (r, s)) (w : World) : Calls Try.prog 27 #[.agg #[.int .i32 a, .int .i32 b], .agg #[.int .i32 c, .int .i32 d]] w fun e w' => e = .returned (.agg #[.int .i32 r, .int .i32 s]) ∧ Below w.heap.size w w' :=
  interval_Meet.calls a b c d r s w (by
    rw [← h]; unfold interval_Meet.f interval_I_IsEmpty.f interval_Empty.f meetv
    rw [mn_min, mx_max]
    by_cases h1 : b < a <;> by_cases h2 : d < c <;> by_cases h3 : min b d < max a c <;> simp [h1, h2, h3])
set_option maxHeartbeats 4000000 in
set_option maxRecDepth 100000 in
theorem truth_t (q : Bool) (w : World) : Calls Try.prog 83 #[.bool true, .bool q] w fun e w' => e = .returned (.agg #[.int .i32 1, .int .i32 1]) ∧ Below w.heap.size w w' := by
  have hu38 := Try.underlying38
  go_enter Try.func83, Try.ntmps83
  go_upto_region 1 with (fail)
  have HB := Aside0.mk (Bx.start1 w 0 0)
  generalize World.alloc w _ = w0 at HB ⊢
  have C := HB.out.cl
  simp only [Cl, and_true] at C
  obtain ⟨_, _, _, _⟩ := C
  go_wp2_with fail
  (with_reducible refine (of_c 1 _).mono ?_); rintro e w' ⟨rfl, hb⟩
  replace HB := Aside0.mk (HB.out.step hb)
  clear hb
  have C := HB.out.cl
  simp only [Cl, and_true] at C
  obtain ⟨_, _, _, _⟩ := C
  go_wp2_with fail
  obtain ⟨R1, R2⟩ := HB.out.ret 0 rfl (by omega) 1 1
  refine bodyPost_ret (results_cell_row rfl _ _ (w.heap.size) 38 #[.int .i32 1, .int .i32 1] (0, 0) _ rfl R1 Try.underlying38 rfl (by kernel_rfl)) rfl ⟨rfl, R2⟩
set_option maxHeartbeats 4000000 in
set_option maxRecDepth 100000 in
theorem truth_n  (w : World) : Calls Try.prog 83 #[.bool false, .bool true] w fun e w' => e = .returned (.agg #[.int .i32 0, .int .i32 0]) ∧ Below w.heap.size w w' := by
  have hu38 := Try.underlying38
  go_enter Try.func83, Try.ntmps83
  go_upto_region 1 with (fail)
  have HB := Aside0.mk (Bx.start1 w 0 0)
  generalize World.alloc w _ = w0 at HB ⊢
  have C := HB.out.cl
  simp only [Cl, and_true] at C
  obtain ⟨_, _, _, _⟩ := C
  go_wp2_with fail
  (with_reducible refine (of_c 0 _).mono ?_); rintro e w' ⟨rfl, hb⟩
  replace HB := Aside0.mk (HB.out.step hb)
  clear hb
  have C := HB.out.cl
  simp only [Cl, and_true] at C
  obtain ⟨_, _, _, _⟩ := C
  go_wp2_with fail
  obtain ⟨R1, R2⟩ := HB.out.ret 0 rfl (by omega) 0 0
  refine bodyPost_ret (results_cell_row rfl _ _ (w.heap.size) 38 #[.int .i32 0, .int .i32 0] (0, 0) _ rfl R1 Try.underlying38 rfl (by kernel_rfl)) rfl ⟨rfl, R2⟩
set_option maxHeartbeats 4000000 in
set_option maxRecDepth 100000 in
theorem truth_o  (w : World) : Calls Try.prog 83 #[.bool false, .bool false] w fun e w' => e = .returned (.agg #[.int .i32 0, .int .i32 1]) ∧ Below w.heap.size w w' := by
  have hu38 := Try.underlying38
  go_enter Try.func83, Try.ntmps83
  go_wp2
  refine bodyPost_ret (v := .agg #[.int .i32 0, .int .i32 1]) (by simp [results, Try.results83, go_sem]) rfl ⟨rfl, below_alloc (Below.refl _ _) _⟩
theorem truth_c (p q : Bool) (r s : Int) (h : truthv p q = (r, s)) (w : World) : Calls Try.prog 83 #[.bool p, .bool q] w fun e w' => e = .returned (.agg #[.int .i32 r, .int .i32 s]) ∧ Below w.heap.size w w' := by
  unfold truthv at h
  cases p
  · cases q
    · obtain ⟨rfl, rfl⟩ := Prod.mk.inj h; exact truth_o w
    · obtain ⟨rfl, rfl⟩ := Prod.mk.inj h; exact truth_n w
  · obtain ⟨rfl, rfl⟩ := Prod.mk.inj h; exact truth_t q w
/-! #### the hull of two and of four numbers -/
theorem hull_end (k : Nat) (lo hi : Int) (l : List Int) (n i : Int) (h : ¬ i < n) (hlo : lo ≤ hi) : interval_hull.l0 (k + 1) lo hi l n i = some (clip lo hi) := by
  rw [interval_hull.l0, if_neg h]
  unfold clip interval_Full.f
  by_cases h1 : lo < -2147483648
  · simp [h1, fullv]
  · by_cases h2 : 2147483647 < hi
    · simp [h1, h2, fullv]
    · rw [if_neg h1, if_neg h2, if_neg (by omega), w32 (by unfold I32; omega), w32 (by unfold I32; omega)]
theorem hull_f4 (k : Nat) (p q r s : Int) : interval_hull.f (k + 6) [p, q, r, s] = some (hull4 p q r s) := by
  unfold interval_hull.f
  rw [if_pos (by simp)]
  have e : ∀ (k : Nat) (lo hi i : Int), 0 ≤ i → i < 4 → interval_hull.l0 (k + 1) lo hi [p, q, r, s] 4 i = interval_hull.l0 k (min lo (rd [p, q, r, s] i)) (max hi (rd [p, q, r, s] i)) [p, q, r, s] 4 (i + 1) := by
    intro k lo hi i h0 h1
    rw [interval_hull.l0, if_pos h1, if_pos h0, if_pos (by simpa using h1), mn_min, mx_max, w64 (by omega)]
  show interval_hull.l0 (k + 6) p p [p, q, r, s] 4 0 = _
  rw [e (k + 5) _ _ 0 (by decide) (by decide), e (k + 4) _ _ (0 + 1) (by decide) (by decide), e (k + 3) _ _ (0 + 1 + 1) (by decide) (by decide), e (k + 2) _ _ (0 + 1 + 1 + 1) (by decide) (by decide)]
  show interval_hull.l0 (k + 2) (min (min (min (min p p) q) r) s) (max (max (max (max p p) q) r) s) [p, q, r, s] 4 4 = _
  rw [hull_end (k + 1) _ _ _ 4 4 (by decide) (by omega)]
  unfold hull4
  rw [show min p p = p by omega, show max p p = p by omega]
theorem hull_f2 (k : Nat) (p q : Int) : interval_hull.f (k + 4) [p, q] = some (hull2 p q) := by
  unfold interval_hull.f
  rw [if_pos (by simp)]
  have e : ∀ (k : Nat) (lo hi i : Int), 0 ≤ i → i < 2 → interval_hull.l0 (k + 1) lo hi [p, q] 2 i = interval_hull.l0 k (min lo (rd [p, q] i)) (max hi (rd [p, q] i)) [p, q] 2 (i + 1) := by
    intro k lo hi i h0 h1
    rw [interval_hull.l0, if_pos h1, if_pos h0, if_pos (by simpa using h1), mn_min, mx_max, w64 (by omega)]
  show interval_hull.l0 (k + 4) p p [p, q] 2 0 = _
  rw [e (k + 3) _ _ 0 (by decide) (by decide), e (k + 2) _ _ (0 + 1) (by decide) (by decide)]
  show interval_hull.l0 (k + 2) (min (min p p) q) (max (max p p) q) [p, q] 2 2 = _
  rw [hull_end (k + 1) _ _ _ 2 2 (by decide) (by omega)]
  unfold hull2
  rw [show min p p = p by omega, show max p p = p by omega]

theorem pow_bound (n : Int) (h0 : 0 ≤ n) (h1 : n < 32) : (1 : Int) ≤ 2 ^ n.toNat ∧ (2 : Int) ^ n.toNat ≤ 2147483648 := by
  have h : (2 : Nat) ^ n.toNat ≤ 2 ^ 31 := Nat.pow_le_pow_right (by decide) (by omega)
  have h' : 1 ≤ (2 : Nat) ^ n.toNat := Nat.one_le_two_pow
  have e : ((2 ^ n.toNat : Nat) : Int) = (2 : Int) ^ n.toNat := by simp
  rw [← e]
  omega
theorem mul_pow_bound (a p : Int) (ha : I32 a) (hp : 1 ≤ p ∧ p ≤ 2147483648) : -4611686018427387904 ≤ a * p ∧ a * p ≤ 4611686018427387904 := by
  have h : (a * p).natAbs ≤ 2147483648 * 2147483648 := by
    rw [Int.natAbs_mul]
    exact Nat.mul_le_mul (by unfold I32 at ha; omega) (by omega)
  omega
theorem hull2_c (p q r s : Int) (h : hull2 p q = (r, s)) (w : World) (g : Nat) (c0 : w.cell? ⟨g, 0, none⟩ = some (.int .i64 p)) (c1 : w.cell? ⟨g, 1, none⟩ = some (.int .i64 q)) :
    Calls Try.prog 78 #[.slice (some ⟨g, 0, none⟩) 2 2] w fun e w' => e = .returned (.agg #[.int .i32 r, .int .i32 s]) ∧ Below w.heap.size w w' :=
  interval_hull.calls 4 (some ⟨g, 0, none⟩) 2 [p, q] r s w (Kd.C_of_reads (d := (0 : Int)) (h1 := fun _ => rfl) ⟨rfl, by simp, fun _ => ⟨_, rfl, fun j hj => by
    rcases (show j = 0 ∨ j = 1 by simp at hj; omega) with rfl | rfl
    · exact c0
    · exact c1⟩⟩) (Nat.le_refl _) (by rw [hull_f2 0, h])
set_option maxHeartbeats 4000000 in
set_option maxRecDepth 100000 in
theorem left_one (a b c r s : Int) (h : Aside0 (hull2 (wrap64 (wrap64 a * wrap64 (2 ^ (c % 32).toNat))) (wrap64 (wrap64 b * wrap64 (2 ^ (c % 32).toNat))) = (r, s))) (w : World) : Calls Try.prog 62 #[.agg #[.int .i32 a, .int .i32 b], .agg #[.int .i32 c, .int .i32 c]] w fun e w' => e = .returned (.agg #[.int .i32 r, .int .i32 s]) ∧ Below w.heap.size w w' := by
  have hu38 := Try.underlying38
  go_enter Try.func62, Try.ntmps62
  go_upto_region 1 with (fail)
  have HB := Aside0.mk (Bx.start3 w a b c c 0 0)
  generalize World.alloc (World.alloc (World.alloc w _) _) _ = w0 at HB ⊢
  have C := HB.out.cl
  simp only [Cl, and_true] at C
  obtain ⟨_, _, _, _, _, _, _, _, _, _, _, _⟩ := C
  go_wp2_with fail
  refine (hull2_c _ _ r s h.out _ w0.heap.size ((blk_cell (blk_new _ _) 0).trans rfl) ((blk_cell (blk_new _ _) 1).trans rfl)).mono ?_; rintro e w' ⟨rfl, hb⟩
  replace HB := Aside0.mk ((HB.out.alloc _).step hb)
  clear hb
  have C := HB.out.cl
  simp only [Cl, and_true] at C
  obtain ⟨_, _, _, _, _, _, _, _, _, _, _, _⟩ := C
  go_wp2_with fail
  obtain ⟨R1, R2⟩ := HB.out.ret 2 rfl (by omega) r s
  refine bodyPost_ret (results_cell_row rfl _ _ (w.heap.size + 1 + 1) 38 #[.int .i32 r, .int .i32 s] (0, 0) _ rfl R1 Try.underlying38 rfl (by kernel_rfl)) rfl ⟨rfl, R2⟩
set_option maxHeartbeats 4000000 in
set_option maxRecDepth 100000 in
theorem left_more (a b c d : Int) (n1 : (c == d) = false) (w : World) : Calls Try.prog 62 #[.agg #[.int .i32 a, .int .i32 b], .agg #[.int .i32 c, .int .i32 d]] w fun e w' => e = .returned (.agg #[.int .i32 (-2147483648), .int .i32 2147483647]) ∧ Below w.heap.size w w' := by
  have hu38 := Try.underlying38
  go_enter Try.func62, Try.ntmps62
  go_upto_region 1 with (fail)
  have HB := Aside0.mk (Bx.start3 w a b c d 0 0)
  generalize World.alloc (World.alloc (World.alloc w _) _) _ = w0 at HB ⊢
  have C := HB.out.cl
  simp only [Cl, and_true] at C
  obtain ⟨_, _, _, _, _, _, _, _, _, _, _, _⟩ := C
  go_wp2_with fail
  (with_reducible refine (full_c _).mono ?_); rintro e w' ⟨rfl, hb⟩
  replace HB := Aside0.mk (HB.out.step hb)
  clear hb
  have C := HB.out.cl
  simp only [Cl, and_true] at C
  obtain ⟨_, _, _, _, _, _, _, _, _, _, _, _⟩ := C
  go_wp2_with fail
  obtain ⟨R1, R2⟩ := HB.out.ret 2 rfl (by omega) (-2147483648) 2147483647
  refine bodyPost_ret (results_cell_row rfl _ _ (w.heap.size + 1 + 1) 38 #[.int .i32 (-2147483648), .int .i32 2147483647] (0, 0) _ rfl R1 Try.underlying38 rfl (by kernel_rfl)) rfl ⟨rfl, R2⟩
theorem left_c (a b c d r s : Int) (ha : I32 a) (hb : I32 b) (h : leftv a b c d = (r, s)) (w : World) : Calls Try.prog 62 #[.agg #[.int .i32 a, .int .i32 b], .agg #[.int .i32 c, .int .i32 d]] w fun e w' => e = .returned (.agg #[.int .i32 r, .int .i32 s]) ∧ Below w.heap.size w w' := by
  unfold leftv at h
  by_cases h1 : c = d
  · subst h1
    rw [if_pos rfl] at h
    have hp := pow_bound (c % 32) (by omega) (by omega)
    have h2 := mul_pow_bound a _ ha hp
    have h3 := mul_pow_bound b _ hb hp
    unfold I32 at ha hb
    refine left_one a b c r s ⟨?_⟩ w
    rw [w64 (x := a) (by omega), w64 (x := b) (by omega), w64 (x := 2 ^ (c % 32).toNat) (by omega), w64 (by omega), w64 (by omega), h]
  · rw [if_neg h1] at h
    obtain ⟨rfl, rfl⟩ := Prod.mk.inj h
    exact left_more a b c d (beq_eq_false_iff_ne.2 h1) w
set_option maxHeartbeats 2000000 in
set_option maxRecDepth 100000 in
theorem right_one (a b c : Int) (w : World) : Calls Try.prog 63 #[.agg #[.int .i32 a, .int .i32 b], .agg #[.int .i32 c, .int .i32 c]] w fun e w' => e = .returned (.agg #[.int .i32 (a / 2 ^ (c % 32).toNat), .int .i32 (b / 2 ^ (c % 32).toNat)]) ∧ Below w.heap.size w w' := by
  have hu38 := Try.underlying38
  have HB := Aside0.mk (Below.refl w.heap.size w)
  go_enter Try.func63, Try.ntmps63
  go_wp2
  refine bodyPost_ret (v := .agg #[.int .i32 (a / 2 ^ (c % 32).toNat), .int .i32 (b / 2 ^ (c % 32).toNat)]) (by simp [results, Try.results63, go_sem]) rfl ⟨rfl, ?_⟩
  repeat (first | exact HB.out | apply below_alloc)
set_option maxHeartbeats 2000000 in
set_option maxRecDepth 100000 in
theorem right_more (a b c d x y : Int) (h : (c == d) = false) (hx : x = if 0 ≤ a then 0 else a) (hy : y = if b < 0 then -1 else b) (w : World) : Calls Try.prog 63 #[.agg #[.int .i32 a, .int .i32 b], .agg #[.int .i32 c, .int .i32 d]] w fun e w' => e = .returned (.agg #[.int .i32 x, .int .i32 y]) ∧ Below w.heap.size w w' := by
  have hu38 := Try.underlying38
  have HB := Aside0.mk (Below.refl w.heap.size w)
  by_cases h1 : 0 ≤ a
  · rw [if_pos h1] at hx
    by_cases h2 : b < 0
    · rw [if_pos h2] at hy
      subst hx hy
      go_enter Try.func63, Try.ntmps63
      go_wp2
      refine bodyPost_ret (v := .agg #[.int .i32 0, .int .i32 (-1)]) (by simp [results, Try.results63, go_sem]) rfl ⟨rfl, ?_⟩
      repeat (first | exact HB.out | apply below_alloc)
    · rw [if_neg h2] at hy
      subst hx hy
      go_enter Try.func63, Try.ntmps63
      go_wp2
      refine bodyPost_ret (v := .agg #[.int .i32 0, .int .i32 y]) (by simp [results, Try.results63, go_sem]) rfl ⟨rfl, ?_⟩
      repeat (first | exact HB.out | apply below_alloc)
  · rw [if_neg h1] at hx
    by_cases h2 : b < 0
    · rw [if_pos h2] at hy
      subst hx hy
      go_enter Try.func63, Try.ntmps63
      go_wp2
      refine bodyPost_ret (v := .agg #[.int .i32 x, .int .i32 (-1)]) (by simp [results, Try.results63, go_sem]) rfl ⟨rfl, ?_⟩
      repeat (first | exact HB.out | apply below_alloc)
    · rw [if_neg h2] at hy
      subst hx hy
      go_enter Try.func63, Try.ntmps63
      go_wp2
      refine bodyPost_ret (v := .agg #[.int .i32 x, .int .i32 y]) (by simp [results, Try.results63, go_sem]) rfl ⟨rfl, ?_⟩
      repeat (first | exact HB.out | apply below_alloc)
theorem right_c (a b c d r s : Int) (h : rightv a b c d = (r, s)) (w : World) : Calls Try.prog 63 #[.agg #[.int .i32 a, .int .i32 b], .agg #[.int .i32 c, .int .i32 d]] w fun e w' => e = .returned (.agg #[.int .i32 r, .int .i32 s]) ∧ Below w.heap.size w w' := by
  unfold rightv at h
  by_cases e : c = d
  · rw [if_pos e] at h
    obtain ⟨rfl, rfl⟩ := Prod.mk.inj h
    subst e
    exact right_one a b c w
  · rw [if_neg e] at h
    obtain ⟨h1, h2⟩ := Prod.mk.inj h
    exact right_more a b c d r s (beq_eq_false_iff_ne.2 e) h1.symm h2.symm w

/-! #### remainder, the bit operators -/
theorem rem_c (a b c d r s : Int) (ha : I32 a) (hb : I32 b) (hc : I32 c) (hd : I32 d) (h : remv a b c d = (r, s)) (w : World) : Calls Try.prog 58 #[.agg #[.int .i32 a, .int .i32 b], .agg #[.int .i32 c, .int .i32 d]] w fun e w' => e = .returned (.agg #[.int .i32 r, .int .i32 s]) ∧ Below w.heap.size w w' :=
  interval_remainder.calls a b c d r s w (by
    rw [← h]; simp only [interval_remainder.f, interval_Of.f, interval_Empty.f, Option.bind_some, mn_min, mx_max, remv]
    unfold I32 at *
    rw [w64 (x := a) (by omega), w64 (x := b) (by omega), w64 (x := c) (by omega), w64 (x := d) (by omega), w64 (x := -c) (by omega), w64 (x := -d) (by omega)]
    by_cases h1 : c = 0 ∧ d = 0
    · obtain ⟨rfl, rfl⟩ := h1; simp
    · have h2 : (c == 0 && d == 0) = false := by
        by_cases e : c = 0
        · have e' : d ≠ 0 := fun e' => h1 ⟨e, e'⟩
          simp [e']
        · simp [e]
      rw [h2, if_neg (by decide), if_neg h1]
      have hm : 0 ≤ max (max (max (-c) c) (-d)) d ∧ max (max (max (-c) c) (-d)) d ≤ 2147483648 := by omega
      generalize max (max (max (-c) c) (-d)) d = m at hm
      have e1 : wrap64 (m - 1) = m - 1 := w64 (by omega)
      have e2 : wrap64 (-(m - 1)) = -(m - 1) := w64 (by omega)
      rw [e1, e2]
      by_cases p : 0 ≤ a <;> by_cases q : b ≤ 0 <;> simp [p, q]
      · apply w32; unfold I32; omega
      · apply w32; unfold I32; omega
      · exact ⟨w32 (by unfold I32; omega), w32 (by unfold I32; omega)⟩)
theorem and_c (a b c d r s : Int) (h : andv a b c d = (r, s)) (w : World) : Calls Try.prog 59 #[.agg #[.int .i32 a, .int .i32 b], .agg #[.int .i32 c, .int .i32 d]] w fun e w' => e = .returned (.agg #[.int .i32 r, .int .i32 s]) ∧ Below w.heap.size w w' :=
  interval_and.calls 1 a b c d r s w (by
    rw [← h]; simp only [interval_and.f, interval_and.j0, interval_Full.f, andv, mn_min]
    by_cases p : 0 ≤ a <;> by_cases q : 0 ≤ c <;> simp [p, q, fullv])

theorem mask_l (m : Int) (hm : I32 m) (d : Nat) : ∀ (k j : Nat), j + d = 32 → (∀ i : Nat, i < j → (2 : Int) ^ i - 1 < m) → d + 1 < k → interval_mask.l0 k m ((2 : Int) ^ j - 1) = some (maskv m) := by
  have hm' := hm
  unfold I32 at hm'
  have val : ∀ j : Nat, j ≤ 32 → (1 : Int) ≤ 2 ^ j ∧ (2 : Int) ^ j ≤ 4294967296 := by
    intro j hj
    have h1 : (2 : Nat) ^ j ≤ 2 ^ 32 := Nat.pow_le_pow_right (by decide) hj
    have h2 : 1 ≤ (2 : Nat) ^ j := Nat.one_le_two_pow
    have e : ((2 ^ j : Nat) : Int) = (2 : Int) ^ j := by simp
    omega
  have stop : ∀ (k j : Nat), j ≤ 32 → (∀ i : Nat, i < j → (2 : Int) ^ i - 1 < m) → ¬ (2 : Int) ^ j - 1 < m → interval_mask.l0 (k + 1) m ((2 : Int) ^ j - 1) = some (maskv m) := by
    intro k j hj hlow hstop
    rw [interval_mask.l0, w64 (x := m) (by omega), if_neg hstop]
    congr 1
    unfold maskv
    by_cases h0 : m ≤ 0
    · rw [if_pos h0]
      have e : j = 0 := by
        rcases Nat.eq_zero_or_pos j with e | e
        · exact e
        · have := hlow 0 e; simp at this; omega
      subst e; decide +kernel
    · rw [if_neg h0]
      have hj0 : 0 < j := by
        rcases Nat.eq_zero_or_pos j with e | e
        · subst e; simp at hstop; omega
        · exact e
      have lo := hlow (j - 1) (by omega)
      have en : ∀ i : Nat, ((2 ^ i : Nat) : Int) = (2 : Int) ^ i := fun i => by simp
      have h1 : 2 ^ (j - 1) ≤ m.toNat := by have := en (j - 1); omega
      have h2 : m.toNat < 2 ^ j := by have := en j; omega
      have e : m.toNat.log2 = j - 1 := by
        rw [Nat.log2_eq_iff (by omega)]
        exact ⟨h1, by rw [show j - 1 + 1 = j by omega]; exact h2⟩
      rw [e, show j - 1 + 1 = j by omega]
      have hj31 : j ≤ 31 := by
        by_cases c : j = 32
        · subst c
          have := hlow 31 (by decide)
          simp at this
          omega
        · omega
      have h3 : (2 : Nat) ^ j ≤ 2 ^ 31 := Nat.pow_le_pow_right (by decide) hj31
      have h4 := en j
      have h5 := val j hj
      exact w32 (by unfold I32; omega)
  induction d with
  | zero =>
    intro k j hj hlow hk
    obtain ⟨k, rfl⟩ : ∃ n, k = n + 1 := ⟨k - 1, by omega⟩
    have e : j = 32 := by omega
    subst e
    exact stop k 32 (by omega) hlow (by simp; omega)
  | succ d ih =>
    intro k j hj hlow hk
    obtain ⟨k, rfl⟩ : ∃ n, k = n + 1 := ⟨k - 1, by omega⟩
    by_cases c : (2 : Int) ^ j - 1 < m
    · rw [interval_mask.l0, w64 (x := m) (by omega), if_pos c]
      have hv := val j (by omega)
      have e : wrap64 (wrap64 (2 * ((2 : Int) ^ j - 1)) + 1) = (2 : Int) ^ (j + 1) - 1 := by
        rw [Int.pow_succ]; generalize (2 : Int) ^ j = p at *; unfold wrap64; omega
      rw [e]
      exact ih k (j + 1) (by omega) (fun i hi => by
        rcases Nat.lt_or_ge i j with h | h
        · exact hlow i h
        · have : i = j := by omega
          subst this; exact c) (by omega)
    · exact stop k j (by omega) hlow c
theorem mask_f (k : Nat) (m : Int) (hm : I32 m) : interval_mask.f (k + 40) m = some (maskv m) := by
  have := mask_l m hm 32 (k + 40) 0 rfl (fun i hi => absurd hi (Nat.not_lt_zero i)) (by omega)
  exact this
theorem max_i32 {a b : Int} (ha : I32 a) (hb : I32 b) : I32 (max a b) := by unfold I32 at *; omega
theorem or_c (a b c d r s : Int) (hb : I32 b) (hd : I32 d) (h : orv a b c d = (r, s)) (w : World) : Calls Try.prog 60 #[.agg #[.int .i32 a, .int .i32 b], .agg #[.int .i32 c, .int .i32 d]] w fun e w' => e = .returned (.agg #[.int .i32 r, .int .i32 s]) ∧ Below w.heap.size w w' :=
  interval_or.calls 41 a b c d r s w (by
    rw [← h]; simp only [interval_or.f, interval_or.j0, interval_Full.f, orv, mx_max, mask_f 0 _ (max_i32 hb hd)]
    by_cases p : 0 ≤ a <;> by_cases q : 0 ≤ c <;> by_cases x : b < 0 <;> by_cases y : d < 0 <;> simp [p, q, x, y, fullv])
theorem xor_c (a b c d r s : Int) (hb : I32 b) (hd : I32 d) (h : xorv a b c d = (r, s)) (w : World) : Calls Try.prog 61 #[.agg #[.int .i32 a, .int .i32 b], .agg #[.int .i32 c, .int .i32 d]] w fun e w' => e = .returned (.agg #[.int .i32 r, .int .i32 s]) ∧ Below w.heap.size w w' :=
  interval_xor.calls 41 a b c d r s w (by
    rw [← h]; simp only [interval_xor.f, interval_xor.j0, interval_Full.f, xorv, mx_max, mask_f 0 _ (max_i32 hb hd)]
    by_cases p : 0 ≤ a <;> by_cases q : 0 ≤ c <;> simp [p, q, fullv])

end Go.Proofs.Ytoalomjmmlnclaa.Ivl
