/- The contract of interval.divide: empty for {0}, full where the least word may be divided by -1, else the quotients by the negative and by the positive part of the divisors. -/
import Derived.Test.YtoalomjmmlnclaaIvlB
import Derived.Test.YtoalomjmmlnclaaQ1
namespace Go.Proofs.Ytoalomjmmlnclaa.Ivl
open Go.RowKit Go.Proofs.Ytoalomjmmlnclaa.PIntervalApply Go.Proofs.YtoalomjmmlnclaaW.PrintWords Go.Proofs.YtoalomjmmlnclaaW.PrintLast
open List renaming setIfInBounds_toArray → zA, set_cons_zero → zB, set_cons_succ → zC
open Go.Proofs.Ytoalomjmmlnclaa.M
attribute [local go_sem] max2_int min2_int max_two min_two max_three min_three max_four min_four
attribute [local go_sem high] eqA38
set_option linter.unusedVariables false
set_option linter.unusedSimpArgs false

theorem idx83_0 (a b c d : Value) (w : World) : (Instr.index 83 (.agg #[a, b, c, d]) (.int .i64 0)).run Try.prog w = .ok (.agg #[a, b]) w := by simp [Instr.index, go_sem]
theorem idx83_1 (a b c d : Value) (w : World) : (Instr.index 83 (.agg #[a, b, c, d]) (.int .i64 1)).run Try.prog w = .ok (.agg #[c, d]) w := by simp [Instr.index, go_sem]
attribute [local go_sem] idx83_0 idx83_1
theorem part_pos {a b c d : Int} (o : Int × Int) (e : d < c) : partv a b c d o = o := by unfold partv; rw [if_pos e]
theorem part_neg {a b c d x y o1 o2 : Int} (e : ¬ d < c) (h : hull4 (a.tdiv c) (a.tdiv d) (b.tdiv c) (b.tdiv d) = (x, y)) : partv a b c d (o1, o2) = joinv o1 o2 x y := by unfold partv; rw [if_neg e, h]

set_option maxHeartbeats 4000000 in
set_option maxRecDepth 100000 in
theorem divide_zero (a b c d : Int) (z : (c == 0 && (d == 0)) = true) (w : World) : Calls Try.prog 57 #[.agg #[.int .i32 a, .int .i32 b], .agg #[.int .i32 c, .int .i32 d]] w fun e w' => e = .returned (.agg #[.int .i32 1, .int .i32 0]) ∧ Below w.heap.size w w' := by
  have hu38 := Try.underlying38
  go_enter Try.func57, Try.ntmps57
  go_upto_region 1 with (fail)
  have HB := Aside0.mk (Bx.start3 w a b c d 0 0)
  generalize World.alloc (World.alloc (World.alloc w _) _) _ = w0 at HB ⊢
  have C := HB.out.cl
  simp only [Cl, and_true] at C
  obtain ⟨_, _, _, _, _, _, _, _, _, _, _, _⟩ := C
  replace HB := Aside0.mk (HB.out.drew)
  go_region_held3 (fun w' => w'.cell? ⟨w.heap.size + 1, 0, none⟩ = some (.int .i32 c) ∧ w'.cell? ⟨w.heap.size + 1, 1, none⟩ = some (.int .i32 d)) ((first | exact ⟨HB.out.c0 1 rfl, HB.out.c1 1 rfl⟩ | exact keep2 (by assumption) (by assumption))) ((go_at_call 44; (with_reducible refine (of_c 0 _).mono ?_); rintro e w' ⟨rfl, hb⟩; have HN := Aside0.mk (HB.out.step hb); clear HB; have HB := HN; clear HN; have C := HB.out.cl; simp only [Cl, and_true] at C; obtain ⟨_, _, _, _, _, _, _, _, _, _, _, _⟩ := C))
  go_wp2_with fail
  (with_reducible refine (empty_c _).mono ?_); rintro e w' ⟨rfl, hb⟩
  replace HB := Aside0.mk (HB.out.step hb)
  clear hb
  have C := HB.out.cl
  simp only [Cl, and_true] at C
  obtain ⟨_, _, _, _, _, _, _, _, _, _, _, _⟩ := C
  go_wp2_with fail
  obtain ⟨R1, R2⟩ := HB.out.ret 2 rfl (by omega) 1 0
  refine bodyPost_ret (results_cell_row rfl _ _ (w.heap.size + 1 + 1) 38 #[.int .i32 1, .int .i32 0] (0, 0) _ rfl R1 Try.underlying38 rfl (by kernel_rfl)) rfl ⟨rfl, R2⟩

set_option maxHeartbeats 4000000 in
set_option maxRecDepth 100000 in
theorem divide_full (a b c d : Int) (z : (c == 0 && (d == 0)) = false) (t1 : Aside0 (hasv a b (-2147483648) = true)) (t2 : Aside0 (hasv c d (-1) = true)) (w : World) : Calls Try.prog 57 #[.agg #[.int .i32 a, .int .i32 b], .agg #[.int .i32 c, .int .i32 d]] w fun e w' => e = .returned (.agg #[.int .i32 (-2147483648), .int .i32 2147483647]) ∧ Below w.heap.size w w' := by
  have hu38 := Try.underlying38
  go_enter Try.func57, Try.ntmps57
  go_upto_region 1 with (fail)
  have HB := Aside0.mk (Bx.start3 w a b c d 0 0)
  generalize World.alloc (World.alloc (World.alloc w _) _) _ = w0 at HB ⊢
  have C := HB.out.cl
  simp only [Cl, and_true] at C
  obtain ⟨_, _, _, _, _, _, _, _, _, _, _, _⟩ := C
  replace HB := Aside0.mk (HB.out.drew)
  go_region_held3 (fun w' => w'.cell? ⟨w.heap.size + 1, 0, none⟩ = some (.int .i32 c) ∧ w'.cell? ⟨w.heap.size + 1, 1, none⟩ = some (.int .i32 d)) ((first | exact ⟨HB.out.c0 1 rfl, HB.out.c1 1 rfl⟩ | exact keep2 (by assumption) (by assumption))) ((go_at_call 44; (with_reducible refine (of_c 0 _).mono ?_); rintro e w' ⟨rfl, hb⟩; have HN := Aside0.mk (HB.out.step hb); clear HB; have HB := HN; clear HN; have C := HB.out.cl; simp only [Cl, and_true] at C; obtain ⟨_, _, _, _, _, _, _, _, _, _, _, _⟩ := C))
  go_wp2_with fail
  (with_reducible refine (contains_c a b (-2147483648) true t1.out _).mono ?_); rintro e w' ⟨rfl, hb⟩
  replace HB := Aside0.mk (HB.out.step hb)
  clear hb
  have C := HB.out.cl
  simp only [Cl, and_true] at C
  obtain ⟨_, _, _, _, _, _, _, _, _, _, _, _⟩ := C
  go_wp2_with fail
  (with_reducible refine (contains_c c d (-1) true t2.out _).mono ?_); rintro e w' ⟨rfl, hb⟩
  replace HB := Aside0.mk (HB.out.step hb)
  clear hb
  have C := HB.out.cl
  simp only [Cl, and_true] at C
  obtain ⟨_, _, _, _, _, _, _, _, _, _, _, _⟩ := C
  go_wp2_with fail
  (with_reducible refine (full_c _).mono ?_); rintro e w' ⟨rfl, hb⟩
  replace HB := Aside0.mk (HB.out.step hb)
  clear hb
  have C := HB.out.cl
  simp only [Cl, and_true] at C
  obtain ⟨_, _, _, _, _, _, _, _, _, _, _, _⟩ := C
  go_wp2_with fail
  obtain ⟨R1, R2⟩ := HB.out.ret 2 rfl (by omega) (-2147483648) 2147483647
  refine bodyPost_ret (results_cell_row rfl _ _ (w.heap.size + 1 + 1) 38 #[.int .i32 (-2147483648), .int .i32 2147483647] (0, 0) _ rfl R1 Try.underlying38 rfl (by kernel_rfl)) rfl ⟨rfl, R2⟩

set_option maxHeartbeats 4000000 in
set_option maxRecDepth 100000 in
theorem divide_main0 (a b c d u1 v1 u2 v2 p1 p2 q1 q2 : Int) (ha : Aside0 (I32 a)) (hb0 : Aside0 (I32 b)) (i1 : Aside0 (I32 u1)) (j1 : Aside0 (I32 v1)) (i2 : Aside0 (I32 u2)) (j2 : Aside0 (I32 v2)) (z : (c == 0 && (d == 0)) = false) (t1 : Aside0 (hasv a b (-2147483648) = false)) (m1 : Aside0 (meetv c d (-2147483648) (-1) = (u1, v1))) (m2 : Aside0 (meetv c d 1 2147483647 = (u2, v2))) (z1 : Aside0 (u1 ≠ 0)) (y1 : Aside0 (u1 ≤ v1 → v1 ≠ 0)) (z2 : Aside0 (u2 ≠ 0)) (y2 : Aside0 (u2 ≤ v2 → v2 ≠ 0)) (k1 : Aside0 (partv a b u1 v1 (1, 0) = (p1, p2))) (k2 : Aside0 (partv a b u2 v2 (p1, p2) = (q1, q2))) (w : World) : Calls Try.prog 57 #[.agg #[.int .i32 a, .int .i32 b], .agg #[.int .i32 c, .int .i32 d]] w fun e w' => e = .returned (.agg #[.int .i32 q1, .int .i32 q2]) ∧ Below w.heap.size w w' := by
  have hu38 := Try.underlying38
  go_enter Try.func57, Try.ntmps57
  go_upto_region 1 with (fail)
  have HB := Aside0.mk (Bx.start3 w a b c d 0 0)
  generalize World.alloc (World.alloc (World.alloc w _) _) _ = w0 at HB ⊢
  have C := HB.out.cl
  simp only [Cl, and_true] at C
  obtain ⟨_, _, _, _, _, _, _, _, _, _, _, _⟩ := C
  replace HB := Aside0.mk (HB.out.drew)
  go_region_held3 (fun w' => w'.cell? ⟨w.heap.size + 1, 0, none⟩ = some (.int .i32 c) ∧ w'.cell? ⟨w.heap.size + 1, 1, none⟩ = some (.int .i32 d)) ((first | exact ⟨HB.out.c0 1 rfl, HB.out.c1 1 rfl⟩ | exact keep2 (by assumption) (by assumption))) ((go_at_call 44; (with_reducible refine (of_c 0 _).mono ?_); rintro e w' ⟨rfl, hb⟩; have HN := Aside0.mk (HB.out.step hb); clear HB; have HB := HN; clear HN; have C := HB.out.cl; simp only [Cl, and_true] at C; obtain ⟨_, _, _, _, _, _, _, _, _, _, _, _⟩ := C))
  go_wp2_with fail
  (with_reducible refine (contains_c a b (-2147483648) false t1.out _).mono ?_); rintro e w' ⟨rfl, hb⟩
  replace HB := Aside0.mk (HB.out.step hb)
  clear hb
  have C := HB.out.cl
  simp only [Cl, and_true] at C
  obtain ⟨_, _, _, _, _, _, _, _, _, _, _, _⟩ := C
  go_wp2_with fail
  (with_reducible refine (empty_c _).mono ?_); rintro e w5 ⟨rfl, hb⟩
  replace HB := Aside0.mk (HB.out.step hb)
  clear hb
  have C := HB.out.cl
  simp only [Cl, and_true] at C
  obtain ⟨_, _, _, _, _, _, _, _, _, _, _, _⟩ := C
  go_wp2_with fail
  have NG := Aside0.mk (show w.heap.size + 1 + 1 < w5.heap.size from blk_lt (HB.out.bk 2 rfl))
  replace HB := Aside0.mk (show Bx w [(w.heap.size, a, b), (w.heap.size + 1, c, d), (w.heap.size + 1 + 1, 0, 0), (w5.heap.size, 1, 0)] _ from HB.out.box rfl 1 0)
  generalize w5.heap.size = go at HB NG ⊢
  generalize World.alloc w5 _ = w6 at HB ⊢
  replace HB := Aside0.mk (HB.out.drew)
  go_region_held3 (fun w' => w'.cell? ⟨w.heap.size + 1, 0, none⟩ = some (.int .i32 c) ∧ w'.cell? ⟨w.heap.size + 1, 1, none⟩ = some (.int .i32 d)) ((first | exact ⟨HB.out.c0 1 rfl, HB.out.c1 1 rfl⟩ | exact keep2 (by assumption) (by assumption))) (first | (go_at_call 27; (with_reducible refine (meet_c c d (-2147483648) (-1) u1 v1 m1.out _).mono ?_); rintro e w' ⟨rfl, hb⟩; have HN := Aside0.mk (HB.out.step hb); clear HB; have HB := HN; clear HN) | (go_at_call 27; (with_reducible refine (meet_c c d 1 2147483647 u2 v2 m2.out _).mono ?_); rintro e w' ⟨rfl, hb⟩; have HN := Aside0.mk (HB.out.step hb); clear HB; have HB := HN; clear HN))
  go_wp2
  go_loopg [28] 2 (fun kq v28 w' => ∃ (o1 o2 : Int), ((kq = 2 ∧ v28 = .int .i64 0 ∧ 1 = o1 ∧ 0 = o2) ∨ (kq = 1 ∧ v28 = .int .i64 1 ∧ p1 = o1 ∧ p2 = o2) ∨ (kq = 0 ∧ v28 = .int .i64 2 ∧ q1 = o1 ∧ q2 = o2)) ∧ Aside0 (Bx w [(w.heap.size, a, b), (w.heap.size + 1, c, d), (w.heap.size + 1 + 1, 0, 0), (go, o1, o2)] w'))
  case atStart => exact ⟨1, 0, .inl ⟨rfl, rfl, rfl, rfl⟩, HB⟩
  case round =>
    clear HB
    obtain ⟨o1, o2, hk, HB⟩ := hrel
    rcases hk with ⟨rfl, rfl, rfl, rfl⟩ | ⟨rfl, rfl, rfl, rfl⟩ | ⟨rfl, rfl, rfl, rfl⟩
    · by_cases e : v1 < u1
      · have h := k1.out
        rw [part_pos _ e] at h
        obtain ⟨h1, h2⟩ := Prod.mk.inj h
        have H1 := Aside0.mk h1
        have H2 := Aside0.mk h2
        clear h h1 h2
        go_wp2_with fail
        (with_reducible refine (isE_t u1 v1 e _).mono ?_); rintro e w' ⟨rfl, hb⟩
        replace HB := Aside0.mk ((HB.out.alloc _).step hb)
        clear hb
        go_wp2_with fail
        go_roundg 1
        case measure => omega
        case rel => exact ⟨1, 0, .inr (.inl ⟨rfl, rfl, H1.out.symm, H2.out.symm⟩), HB⟩
      · obtain ⟨x, y, hxy⟩ : ∃ x y, hull4 (a.tdiv u1) (a.tdiv v1) (b.tdiv u1) (b.tdiv v1) = (x, y) := ⟨_, _, rfl⟩
        have HJ := Aside0.mk ((part_neg e hxy).symm.trans k1.out)
        have HX := Aside0.mk hxy
        have HY := Aside0.mk (y1.out (by omega))
        clear hxy
        go_wp2_with fail
        (with_reducible refine (isE_f u1 v1 (by omega) _).mono ?_); rintro e wE ⟨rfl, hb⟩
        have NP := Aside0.mk (show go < wr.heap.size from blk_lt (HB.out.bk 3 rfl))
        replace HB := Aside0.mk ((show Bx w [(w.heap.size, a, b), (w.heap.size + 1, c, d), (w.heap.size + 1 + 1, 0, 0), (go, 1, 0), (wr.heap.size, u1, v1)] _ from HB.out.box rfl u1 v1).step hb)
        clear hb
        go_wp2_with fail
        generalize wr.heap.size = gp at HB NP ⊢
        replace HB := Aside0.mk (HB.out.drew)
        refine start_ (n := 7) (S := fun w' => w'.cell? ⟨go, 0, none⟩ = some (.int .i32 1) ∧ w'.cell? ⟨go, 1, none⟩ = some (.int .i32 0) ∧ w'.cell? ⟨w.heap.size, 0, none⟩ = some (.int .i32 a) ∧ w'.cell? ⟨w.heap.size, 1, none⟩ = some (.int .i32 b) ∧ w'.cell? ⟨gp, 0, none⟩ = some (.int .i32 u1) ∧ w'.cell? ⟨gp, 1, none⟩ = some (.int .i32 v1)) (ds := [6]) #[false, false, false, false, false, false, false] (by kernel_rfl) rfl rfl ⟨HB.out.c0 3 rfl, HB.out.c1 3 rfl, HB.out.c0 0 rfl, HB.out.c1 0 rfl, HB.out.c0 4 rfl, HB.out.c1 4 rfl⟩ (fun hHeld => ?_)
        generalize wE.drew = w9 at HB hHeld ⊢
        refine take_ (i := 0) (N := some 34) (v := ?_) (a' := ?_) (bl 7 1) rfl rfl (by kernel_rfl) (fun _ _ _ h => h) (Or.inl ⟨by rfl, ?_⟩) hHeld ?_ ?_
        rotate_left
        · rintro w' ⟨_, _, _, _, _, _⟩; go_simp; with_reducible rfl
        rotate_left
        · simp only [Act.put, zA, zB, zC, i64_w, i32_w]; rfl
        refine take_ (i := 1) (N := some 35) (v := ?_) (a' := ?_) (bl 7 3) rfl rfl (by kernel_rfl) (fun _ _ _ h => h) (Or.inl ⟨by rfl, ?_⟩) hHeld ?_ ?_
        rotate_left
        · rintro w' ⟨_, _, _, _, _, _⟩; go_simp; with_reducible rfl
        rotate_left
        · simp only [Act.put, zA, zB, zC, i64_w, i32_w]; rfl
        refine take_ (i := 2) (N := some 36) (v := ?_) (a' := ?_) (bl 7 7) rfl rfl (by kernel_rfl) (fun _ _ _ h => h) (Or.inl ⟨by rfl, ?_⟩) hHeld ?_ ?_
        rotate_left
        · rintro w' ⟨_, _, _, _, _, _⟩; go_simp; with_reducible rfl
        rotate_left
        · simp only [Act.put, zA, zB, zC, i64_w, i32_w]; rfl
        refine pure_ (i := 3) (N := some 37) (v := ?_) (a' := ?_) (bl 7 15) rfl rfl (by kernel_rfl) (fun _ _ _ h => h) (Or.inl ⟨by rfl, ?_⟩) ?_ ?_
        rotate_left
        · intro w'; go_simp; with_reducible rfl
        rotate_left
        · simp only [Act.put, zA, zB, zC, i64_w, i32_w]; rfl
        refine one_ (i := 4) (N := some 38) (bl 7 31) rfl rfl (by kernel_rfl) (by decide) (fun K hK => ?_)
        refine goes_ Try.func53 (by kernel_rfl) rfl #[.agg #[.int .i32 a, .int .i32 b], .agg #[.int .i32 u1, .int .i32 v1], .func (.func 79) #[] #[]] (by rfl) rfl rfl (by (try simp only [List.map_toArray, List.map_cons, List.map_nil]); first | done | rfl) ?_
        with_reducible refine (corners79 a b u1 v1 _ _ _ _ x y ha hb0 i1 j1 z1 HY ⟨rfl⟩ ⟨rfl⟩ ⟨rfl⟩ ⟨rfl⟩ HX _).mono ?_
        rintro e w10 ⟨rfl, hb⟩; refine ⟨_, rfl, ?_⟩
        replace HB := Aside0.mk (HB.out.step hb); clear hb
        refine hK.out _ _ ⟨HB.out.c0 3 rfl, HB.out.c1 3 rfl, HB.out.c0 0 rfl, HB.out.c1 0 rfl, HB.out.c0 4 rfl, HB.out.c1 4 rfl⟩ (fun hHeld => ?_)
        clear hK K
        refine norm_ (a' := ?_) ?_ ?_; rotate_left
        · show Act.put _ (some 38) _ = _; simp only [Act.put, zA, zB, zC, i64_w, i32_w]; rfl
        refine one_ (i := 5) (N := some 39) (bl 7 63) rfl rfl (by kernel_rfl) (by decide) (fun K hK => ?_)
        refine goes_ Try.func26 (by kernel_rfl) rfl #[.agg #[.int .i32 1, .int .i32 0], .agg #[.int .i32 x, .int .i32 y]] (by rfl) rfl rfl (by (try simp only [List.map_toArray, List.map_cons, List.map_nil]); first | done | rfl) ?_
        with_reducible refine (join_c 1 0 x y p1 p2 HJ.out _).mono ?_
        rintro e w11 ⟨rfl, hb⟩; refine ⟨_, rfl, ?_⟩
        replace HB := Aside0.mk (HB.out.step hb)
        clear hb
        have C := HB.out.cl
        simp only [Cl, and_true] at C
        obtain ⟨_, _, _, _, _, _, _, _, _, _, _, _, _, _, _, _, _, _, _, _⟩ := C
        refine hK.out _ _ ⟨HB.out.c0 3 rfl, HB.out.c1 3 rfl, HB.out.c0 0 rfl, HB.out.c1 0 rfl, HB.out.c0 4 rfl, HB.out.c1 4 rfl⟩ (fun hHeld => ?_)
        clear hK K
        refine norm_ (a' := ?_) ?_ ?_; rotate_left
        · show Act.put _ (some 39) _ = _; simp only [Act.put, zA, zB, zC, i64_w, i32_w]; rfl
        refine last_ (i := 6) (N := none) (bl 7 127) rfl rfl (by kernel_rfl) (by decide) (fun K hK => ?_)
        refine skip_ (w1 := ?_) (by rfl) rfl ?_ ?_
        rotate_left
        · go_simp
          rfl
        refine hK.out _ _ ?_
        clear hK K
        refine done_ (by kernel_rfl) ?_
        replace HB := Aside0.mk (show Bx w [(w.heap.size, a, b), (w.heap.size + 1, c, d), (w.heap.size + 1 + 1, 0, 0), (go, p1, p2)] _ from (HB.out.put 3 rfl (by rintro (_ | _ | _ | _ | _ | m) g' a' b' hm hne <;> simp at hm hne <;> (obtain ⟨rfl, -, -⟩ := hm; have := NG.out; have := NP.out; omega)) (by have := NG.out; omega) p1 p2).take 4)
        go_wp2
        go_roundg 1
        case measure => omega
        case rel => exact ⟨_, _, .inr (.inl ⟨rfl, rfl, rfl, rfl⟩), HB⟩
    · by_cases e : v2 < u2
      · have h := k2.out
        rw [part_pos _ e] at h
        obtain ⟨h1, h2⟩ := Prod.mk.inj h
        have H1 := Aside0.mk h1
        have H2 := Aside0.mk h2
        clear h h1 h2
        go_wp2_with fail
        (with_reducible refine (isE_t u2 v2 e _).mono ?_); rintro e w' ⟨rfl, hb⟩
        replace HB := Aside0.mk ((HB.out.alloc _).step hb)
        clear hb
        go_wp2_with fail
        go_roundg 0
        case measure => omega
        case rel => exact ⟨p1, p2, .inr (.inr ⟨rfl, rfl, H1.out.symm, H2.out.symm⟩), HB⟩
      · obtain ⟨x, y, hxy⟩ : ∃ x y, hull4 (a.tdiv u2) (a.tdiv v2) (b.tdiv u2) (b.tdiv v2) = (x, y) := ⟨_, _, rfl⟩
        have HJ := Aside0.mk ((part_neg e hxy).symm.trans k2.out)
        have HX := Aside0.mk hxy
        have HY := Aside0.mk (y2.out (by omega))
        clear hxy
        go_wp2_with fail
        (with_reducible refine (isE_f u2 v2 (by omega) _).mono ?_); rintro e wE ⟨rfl, hb⟩
        have NP := Aside0.mk (show go < wr.heap.size from blk_lt (HB.out.bk 3 rfl))
        replace HB := Aside0.mk ((show Bx w [(w.heap.size, a, b), (w.heap.size + 1, c, d), (w.heap.size + 1 + 1, 0, 0), (go, p1, p2), (wr.heap.size, u2, v2)] _ from HB.out.box rfl u2 v2).step hb)
        clear hb
        go_wp2_with fail
        generalize wr.heap.size = gp at HB NP ⊢
        replace HB := Aside0.mk (HB.out.drew)
        refine start_ (n := 7) (S := fun w' => w'.cell? ⟨go, 0, none⟩ = some (.int .i32 p1) ∧ w'.cell? ⟨go, 1, none⟩ = some (.int .i32 p2) ∧ w'.cell? ⟨w.heap.size, 0, none⟩ = some (.int .i32 a) ∧ w'.cell? ⟨w.heap.size, 1, none⟩ = some (.int .i32 b) ∧ w'.cell? ⟨gp, 0, none⟩ = some (.int .i32 u2) ∧ w'.cell? ⟨gp, 1, none⟩ = some (.int .i32 v2)) (ds := [6]) #[false, false, false, false, false, false, false] (by kernel_rfl) rfl rfl ⟨HB.out.c0 3 rfl, HB.out.c1 3 rfl, HB.out.c0 0 rfl, HB.out.c1 0 rfl, HB.out.c0 4 rfl, HB.out.c1 4 rfl⟩ (fun hHeld => ?_)
        generalize wE.drew = w9 at HB hHeld ⊢
        refine take_ (i := 0) (N := some 34) (v := ?_) (a' := ?_) (bl 7 1) rfl rfl (by kernel_rfl) (fun _ _ _ h => h) (Or.inl ⟨by rfl, ?_⟩) hHeld ?_ ?_
        rotate_left
        · rintro w' ⟨_, _, _, _, _, _⟩; go_simp; with_reducible rfl
        rotate_left
        · simp only [Act.put, zA, zB, zC, i64_w, i32_w]; rfl
        refine take_ (i := 1) (N := some 35) (v := ?_) (a' := ?_) (bl 7 3) rfl rfl (by kernel_rfl) (fun _ _ _ h => h) (Or.inl ⟨by rfl, ?_⟩) hHeld ?_ ?_
        rotate_left
        · rintro w' ⟨_, _, _, _, _, _⟩; go_simp; with_reducible rfl
        rotate_left
        · simp only [Act.put, zA, zB, zC, i64_w, i32_w]; rfl
        refine take_ (i := 2) (N := some 36) (v := ?_) (a' := ?_) (bl 7 7) rfl rfl (by kernel_rfl) (fun _ _ _ h => h) (Or.inl ⟨by rfl, ?_⟩) hHeld ?_ ?_
        rotate_left
        · rintro w' ⟨_, _, _, _, _, _⟩; go_simp; with_reducible rfl
        rotate_left
        · simp only [Act.put, zA, zB, zC, i64_w, i32_w]; rfl
        refine pure_ (i := 3) (N := some 37) (v := ?_) (a' := ?_) (bl 7 15) rfl rfl (by kernel_rfl) (fun _ _ _ h => h) (Or.inl ⟨by rfl, ?_⟩) ?_ ?_
        rotate_left
        · intro w'; go_simp; with_reducible rfl
        rotate_left
        · simp only [Act.put, zA, zB, zC, i64_w, i32_w]; rfl
        refine one_ (i := 4) (N := some 38) (bl 7 31) rfl rfl (by kernel_rfl) (by decide) (fun K hK => ?_)
        refine goes_ Try.func53 (by kernel_rfl) rfl #[.agg #[.int .i32 a, .int .i32 b], .agg #[.int .i32 u2, .int .i32 v2], .func (.func 79) #[] #[]] (by rfl) rfl rfl (by (try simp only [List.map_toArray, List.map_cons, List.map_nil]); first | done | rfl) ?_
        with_reducible refine (corners79 a b u2 v2 _ _ _ _ x y ha hb0 i2 j2 z2 HY ⟨rfl⟩ ⟨rfl⟩ ⟨rfl⟩ ⟨rfl⟩ HX _).mono ?_
        rintro e w10 ⟨rfl, hb⟩; refine ⟨_, rfl, ?_⟩
        replace HB := Aside0.mk (HB.out.step hb); clear hb
        refine hK.out _ _ ⟨HB.out.c0 3 rfl, HB.out.c1 3 rfl, HB.out.c0 0 rfl, HB.out.c1 0 rfl, HB.out.c0 4 rfl, HB.out.c1 4 rfl⟩ (fun hHeld => ?_)
        clear hK K
        refine norm_ (a' := ?_) ?_ ?_; rotate_left
        · show Act.put _ (some 38) _ = _; simp only [Act.put, zA, zB, zC, i64_w, i32_w]; rfl
        refine one_ (i := 5) (N := some 39) (bl 7 63) rfl rfl (by kernel_rfl) (by decide) (fun K hK => ?_)
        refine goes_ Try.func26 (by kernel_rfl) rfl #[.agg #[.int .i32 p1, .int .i32 p2], .agg #[.int .i32 x, .int .i32 y]] (by rfl) rfl rfl (by (try simp only [List.map_toArray, List.map_cons, List.map_nil]); first | done | rfl) ?_
        with_reducible refine (join_c p1 p2 x y q1 q2 HJ.out _).mono ?_
        rintro e w11 ⟨rfl, hb⟩; refine ⟨_, rfl, ?_⟩
        replace HB := Aside0.mk (HB.out.step hb)
        clear hb
        have C := HB.out.cl
        simp only [Cl, and_true] at C
        obtain ⟨_, _, _, _, _, _, _, _, _, _, _, _, _, _, _, _, _, _, _, _⟩ := C
        refine hK.out _ _ ⟨HB.out.c0 3 rfl, HB.out.c1 3 rfl, HB.out.c0 0 rfl, HB.out.c1 0 rfl, HB.out.c0 4 rfl, HB.out.c1 4 rfl⟩ (fun hHeld => ?_)
        clear hK K
        refine norm_ (a' := ?_) ?_ ?_; rotate_left
        · show Act.put _ (some 39) _ = _; simp only [Act.put, zA, zB, zC, i64_w, i32_w]; rfl
        refine last_ (i := 6) (N := none) (bl 7 127) rfl rfl (by kernel_rfl) (by decide) (fun K hK => ?_)
        refine skip_ (w1 := ?_) (by rfl) rfl ?_ ?_
        rotate_left
        · go_simp
          rfl
        refine hK.out _ _ ?_
        clear hK K
        refine done_ (by kernel_rfl) ?_
        replace HB := Aside0.mk (show Bx w [(w.heap.size, a, b), (w.heap.size + 1, c, d), (w.heap.size + 1 + 1, 0, 0), (go, q1, q2)] _ from (HB.out.put 3 rfl (by rintro (_ | _ | _ | _ | _ | m) g' a' b' hm hne <;> simp at hm hne <;> (obtain ⟨rfl, -, -⟩ := hm; have := NG.out; have := NP.out; omega)) (by have := NG.out; omega) q1 q2).take 4)
        go_wp2
        go_roundg 0
        case measure => omega
        case rel => exact ⟨_, _, .inr (.inr ⟨rfl, rfl, rfl, rfl⟩), HB⟩
    · have C := HB.out.cl
      simp only [Cl, and_true] at C
      obtain ⟨_, _, _, _, _, _, _, _, _, _, _, _, _, _, _, _⟩ := C
      go_wp2
      obtain ⟨R1, R2⟩ := HB.out.ret 2 rfl (by omega) q1 q2
      refine bodyPost_ret (results_cell_row rfl _ _ (w.heap.size + 1 + 1) 38 #[.int .i32 q1, .int .i32 q2] (0, 0) _ rfl R1 Try.underlying38 rfl (by kernel_rfl)) rfl ⟨rfl, R2⟩

set_option maxHeartbeats 4000000 in
set_option maxRecDepth 100000 in
theorem divide_main1 (a b c d u1 v1 u2 v2 p1 p2 q1 q2 : Int) (ha : Aside0 (I32 a)) (hb0 : Aside0 (I32 b)) (i1 : Aside0 (I32 u1)) (j1 : Aside0 (I32 v1)) (i2 : Aside0 (I32 u2)) (j2 : Aside0 (I32 v2)) (z : (c == 0 && (d == 0)) = false) (t1 : Aside0 (hasv a b (-2147483648) = true)) (t2 : Aside0 (hasv c d (-1) = false)) (m1 : Aside0 (meetv c d (-2147483648) (-1) = (u1, v1))) (m2 : Aside0 (meetv c d 1 2147483647 = (u2, v2))) (z1 : Aside0 (u1 ≠ 0)) (y1 : Aside0 (u1 ≤ v1 → v1 ≠ 0)) (z2 : Aside0 (u2 ≠ 0)) (y2 : Aside0 (u2 ≤ v2 → v2 ≠ 0)) (k1 : Aside0 (partv a b u1 v1 (1, 0) = (p1, p2))) (k2 : Aside0 (partv a b u2 v2 (p1, p2) = (q1, q2))) (w : World) : Calls Try.prog 57 #[.agg #[.int .i32 a, .int .i32 b], .agg #[.int .i32 c, .int .i32 d]] w fun e w' => e = .returned (.agg #[.int .i32 q1, .int .i32 q2]) ∧ Below w.heap.size w w' := by
  have hu38 := Try.underlying38
  go_enter Try.func57, Try.ntmps57
  go_upto_region 1 with (fail)
  have HB := Aside0.mk (Bx.start3 w a b c d 0 0)
  generalize World.alloc (World.alloc (World.alloc w _) _) _ = w0 at HB ⊢
  have C := HB.out.cl
  simp only [Cl, and_true] at C
  obtain ⟨_, _, _, _, _, _, _, _, _, _, _, _⟩ := C
  replace HB := Aside0.mk (HB.out.drew)
  go_region_held3 (fun w' => w'.cell? ⟨w.heap.size + 1, 0, none⟩ = some (.int .i32 c) ∧ w'.cell? ⟨w.heap.size + 1, 1, none⟩ = some (.int .i32 d)) ((first | exact ⟨HB.out.c0 1 rfl, HB.out.c1 1 rfl⟩ | exact keep2 (by assumption) (by assumption))) ((go_at_call 44; (with_reducible refine (of_c 0 _).mono ?_); rintro e w' ⟨rfl, hb⟩; have HN := Aside0.mk (HB.out.step hb); clear HB; have HB := HN; clear HN; have C := HB.out.cl; simp only [Cl, and_true] at C; obtain ⟨_, _, _, _, _, _, _, _, _, _, _, _⟩ := C))
  go_wp2_with fail
  (with_reducible refine (contains_c a b (-2147483648) true t1.out _).mono ?_); rintro e w' ⟨rfl, hb⟩
  replace HB := Aside0.mk (HB.out.step hb)
  clear hb
  have C := HB.out.cl
  simp only [Cl, and_true] at C
  obtain ⟨_, _, _, _, _, _, _, _, _, _, _, _⟩ := C
  go_wp2_with fail
  (with_reducible refine (contains_c c d (-1) false t2.out _).mono ?_); rintro e w' ⟨rfl, hb⟩
  replace HB := Aside0.mk (HB.out.step hb)
  clear hb
  have C := HB.out.cl
  simp only [Cl, and_true] at C
  obtain ⟨_, _, _, _, _, _, _, _, _, _, _, _⟩ := C
  go_wp2_with fail
  (with_reducible refine (empty_c _).mono ?_); rintro e w5 ⟨rfl, hb⟩
  replace HB := Aside0.mk (HB.out.step hb)
  clear hb
  have C := HB.out.cl
  simp only [Cl, and_true] at C
  obtain ⟨_, _, _, _, _, _, _, _, _, _, _, _⟩ := C
  go_wp2_with fail
  have NG := Aside0.mk (show w.heap.size + 1 + 1 < w5.heap.size from blk_lt (HB.out.bk 2 rfl))
  replace HB := Aside0.mk (show Bx w [(w.heap.size, a, b), (w.heap.size + 1, c, d), (w.heap.size + 1 + 1, 0, 0), (w5.heap.size, 1, 0)] _ from HB.out.box rfl 1 0)
  generalize w5.heap.size = go at HB NG ⊢
  generalize World.alloc w5 _ = w6 at HB ⊢
  replace HB := Aside0.mk (HB.out.drew)
  go_region_held3 (fun w' => w'.cell? ⟨w.heap.size + 1, 0, none⟩ = some (.int .i32 c) ∧ w'.cell? ⟨w.heap.size + 1, 1, none⟩ = some (.int .i32 d)) ((first | exact ⟨HB.out.c0 1 rfl, HB.out.c1 1 rfl⟩ | exact keep2 (by assumption) (by assumption))) (first | (go_at_call 27; (with_reducible refine (meet_c c d (-2147483648) (-1) u1 v1 m1.out _).mono ?_); rintro e w' ⟨rfl, hb⟩; have HN := Aside0.mk (HB.out.step hb); clear HB; have HB := HN; clear HN) | (go_at_call 27; (with_reducible refine (meet_c c d 1 2147483647 u2 v2 m2.out _).mono ?_); rintro e w' ⟨rfl, hb⟩; have HN := Aside0.mk (HB.out.step hb); clear HB; have HB := HN; clear HN))
  go_wp2
  go_loopg [28] 2 (fun kq v28 w' => ∃ (o1 o2 : Int), ((kq = 2 ∧ v28 = .int .i64 0 ∧ 1 = o1 ∧ 0 = o2) ∨ (kq = 1 ∧ v28 = .int .i64 1 ∧ p1 = o1 ∧ p2 = o2) ∨ (kq = 0 ∧ v28 = .int .i64 2 ∧ q1 = o1 ∧ q2 = o2)) ∧ Aside0 (Bx w [(w.heap.size, a, b), (w.heap.size + 1, c, d), (w.heap.size + 1 + 1, 0, 0), (go, o1, o2)] w'))
  case atStart => exact ⟨1, 0, .inl ⟨rfl, rfl, rfl, rfl⟩, HB⟩
  case round =>
    clear HB
    obtain ⟨o1, o2, hk, HB⟩ := hrel
    rcases hk with ⟨rfl, rfl, rfl, rfl⟩ | ⟨rfl, rfl, rfl, rfl⟩ | ⟨rfl, rfl, rfl, rfl⟩
    · by_cases e : v1 < u1
      · have h := k1.out
        rw [part_pos _ e] at h
        obtain ⟨h1, h2⟩ := Prod.mk.inj h
        have H1 := Aside0.mk h1
        have H2 := Aside0.mk h2
        clear h h1 h2
        go_wp2_with fail
        (with_reducible refine (isE_t u1 v1 e _).mono ?_); rintro e w' ⟨rfl, hb⟩
        replace HB := Aside0.mk ((HB.out.alloc _).step hb)
        clear hb
        go_wp2_with fail
        go_roundg 1
        case measure => omega
        case rel => exact ⟨1, 0, .inr (.inl ⟨rfl, rfl, H1.out.symm, H2.out.symm⟩), HB⟩
      · obtain ⟨x, y, hxy⟩ : ∃ x y, hull4 (a.tdiv u1) (a.tdiv v1) (b.tdiv u1) (b.tdiv v1) = (x, y) := ⟨_, _, rfl⟩
        have HJ := Aside0.mk ((part_neg e hxy).symm.trans k1.out)
        have HX := Aside0.mk hxy
        have HY := Aside0.mk (y1.out (by omega))
        clear hxy
        go_wp2_with fail
        (with_reducible refine (isE_f u1 v1 (by omega) _).mono ?_); rintro e wE ⟨rfl, hb⟩
        have NP := Aside0.mk (show go < wr.heap.size from blk_lt (HB.out.bk 3 rfl))
        replace HB := Aside0.mk ((show Bx w [(w.heap.size, a, b), (w.heap.size + 1, c, d), (w.heap.size + 1 + 1, 0, 0), (go, 1, 0), (wr.heap.size, u1, v1)] _ from HB.out.box rfl u1 v1).step hb)
        clear hb
        go_wp2_with fail
        generalize wr.heap.size = gp at HB NP ⊢
        replace HB := Aside0.mk (HB.out.drew)
        refine start_ (n := 7) (S := fun w' => w'.cell? ⟨go, 0, none⟩ = some (.int .i32 1) ∧ w'.cell? ⟨go, 1, none⟩ = some (.int .i32 0) ∧ w'.cell? ⟨w.heap.size, 0, none⟩ = some (.int .i32 a) ∧ w'.cell? ⟨w.heap.size, 1, none⟩ = some (.int .i32 b) ∧ w'.cell? ⟨gp, 0, none⟩ = some (.int .i32 u1) ∧ w'.cell? ⟨gp, 1, none⟩ = some (.int .i32 v1)) (ds := [6]) #[false, false, false, false, false, false, false] (by kernel_rfl) rfl rfl ⟨HB.out.c0 3 rfl, HB.out.c1 3 rfl, HB.out.c0 0 rfl, HB.out.c1 0 rfl, HB.out.c0 4 rfl, HB.out.c1 4 rfl⟩ (fun hHeld => ?_)
        generalize wE.drew = w9 at HB hHeld ⊢
        refine take_ (i := 0) (N := some 34) (v := ?_) (a' := ?_) (bl 7 1) rfl rfl (by kernel_rfl) (fun _ _ _ h => h) (Or.inl ⟨by rfl, ?_⟩) hHeld ?_ ?_
        rotate_left
        · rintro w' ⟨_, _, _, _, _, _⟩; go_simp; with_reducible rfl
        rotate_left
        · simp only [Act.put, zA, zB, zC, i64_w, i32_w]; rfl
        refine take_ (i := 1) (N := some 35) (v := ?_) (a' := ?_) (bl 7 3) rfl rfl (by kernel_rfl) (fun _ _ _ h => h) (Or.inl ⟨by rfl, ?_⟩) hHeld ?_ ?_
        rotate_left
        · rintro w' ⟨_, _, _, _, _, _⟩; go_simp; with_reducible rfl
        rotate_left
        · simp only [Act.put, zA, zB, zC, i64_w, i32_w]; rfl
        refine take_ (i := 2) (N := some 36) (v := ?_) (a' := ?_) (bl 7 7) rfl rfl (by kernel_rfl) (fun _ _ _ h => h) (Or.inl ⟨by rfl, ?_⟩) hHeld ?_ ?_
        rotate_left
        · rintro w' ⟨_, _, _, _, _, _⟩; go_simp; with_reducible rfl
        rotate_left
        · simp only [Act.put, zA, zB, zC, i64_w, i32_w]; rfl
        refine pure_ (i := 3) (N := some 37) (v := ?_) (a' := ?_) (bl 7 15) rfl rfl (by kernel_rfl) (fun _ _ _ h => h) (Or.inl ⟨by rfl, ?_⟩) ?_ ?_
        rotate_left
        · intro w'; go_simp; with_reducible rfl
        rotate_left
        · simp only [Act.put, zA, zB, zC, i64_w, i32_w]; rfl
        refine one_ (i := 4) (N := some 38) (bl 7 31) rfl rfl (by kernel_rfl) (by decide) (fun K hK => ?_)
        refine goes_ Try.func53 (by kernel_rfl) rfl #[.agg #[.int .i32 a, .int .i32 b], .agg #[.int .i32 u1, .int .i32 v1], .func (.func 79) #[] #[]] (by rfl) rfl rfl (by (try simp only [List.map_toArray, List.map_cons, List.map_nil]); first | done | rfl) ?_
        with_reducible refine (corners79 a b u1 v1 _ _ _ _ x y ha hb0 i1 j1 z1 HY ⟨rfl⟩ ⟨rfl⟩ ⟨rfl⟩ ⟨rfl⟩ HX _).mono ?_
        rintro e w10 ⟨rfl, hb⟩; refine ⟨_, rfl, ?_⟩
        replace HB := Aside0.mk (HB.out.step hb); clear hb
        refine hK.out _ _ ⟨HB.out.c0 3 rfl, HB.out.c1 3 rfl, HB.out.c0 0 rfl, HB.out.c1 0 rfl, HB.out.c0 4 rfl, HB.out.c1 4 rfl⟩ (fun hHeld => ?_)
        clear hK K
        refine norm_ (a' := ?_) ?_ ?_; rotate_left
        · show Act.put _ (some 38) _ = _; simp only [Act.put, zA, zB, zC, i64_w, i32_w]; rfl
        refine one_ (i := 5) (N := some 39) (bl 7 63) rfl rfl (by kernel_rfl) (by decide) (fun K hK => ?_)
        refine goes_ Try.func26 (by kernel_rfl) rfl #[.agg #[.int .i32 1, .int .i32 0], .agg #[.int .i32 x, .int .i32 y]] (by rfl) rfl rfl (by (try simp only [List.map_toArray, List.map_cons, List.map_nil]); first | done | rfl) ?_
        with_reducible refine (join_c 1 0 x y p1 p2 HJ.out _).mono ?_
        rintro e w11 ⟨rfl, hb⟩; refine ⟨_, rfl, ?_⟩
        replace HB := Aside0.mk (HB.out.step hb)
        clear hb
        have C := HB.out.cl
        simp only [Cl, and_true] at C
        obtain ⟨_, _, _, _, _, _, _, _, _, _, _, _, _, _, _, _, _, _, _, _⟩ := C
        refine hK.out _ _ ⟨HB.out.c0 3 rfl, HB.out.c1 3 rfl, HB.out.c0 0 rfl, HB.out.c1 0 rfl, HB.out.c0 4 rfl, HB.out.c1 4 rfl⟩ (fun hHeld => ?_)
        clear hK K
        refine norm_ (a' := ?_) ?_ ?_; rotate_left
        · show Act.put _ (some 39) _ = _; simp only [Act.put, zA, zB, zC, i64_w, i32_w]; rfl
        refine last_ (i := 6) (N := none) (bl 7 127) rfl rfl (by kernel_rfl) (by decide) (fun K hK => ?_)
        refine skip_ (w1 := ?_) (by rfl) rfl ?_ ?_
        rotate_left
        · go_simp
          rfl
        refine hK.out _ _ ?_
        clear hK K
        refine done_ (by kernel_rfl) ?_
        replace HB := Aside0.mk (show Bx w [(w.heap.size, a, b), (w.heap.size + 1, c, d), (w.heap.size + 1 + 1, 0, 0), (go, p1, p2)] _ from (HB.out.put 3 rfl (by rintro (_ | _ | _ | _ | _ | m) g' a' b' hm hne <;> simp at hm hne <;> (obtain ⟨rfl, -, -⟩ := hm; have := NG.out; have := NP.out; omega)) (by have := NG.out; omega) p1 p2).take 4)
        go_wp2
        go_roundg 1
        case measure => omega
        case rel => exact ⟨_, _, .inr (.inl ⟨rfl, rfl, rfl, rfl⟩), HB⟩
    · by_cases e : v2 < u2
      · have h := k2.out
        rw [part_pos _ e] at h
        obtain ⟨h1, h2⟩ := Prod.mk.inj h
        have H1 := Aside0.mk h1
        have H2 := Aside0.mk h2
        clear h h1 h2
        go_wp2_with fail
        (with_reducible refine (isE_t u2 v2 e _).mono ?_); rintro e w' ⟨rfl, hb⟩
        replace HB := Aside0.mk ((HB.out.alloc _).step hb)
        clear hb
        go_wp2_with fail
        go_roundg 0
        case measure => omega
        case rel => exact ⟨p1, p2, .inr (.inr ⟨rfl, rfl, H1.out.symm, H2.out.symm⟩), HB⟩
      · obtain ⟨x, y, hxy⟩ : ∃ x y, hull4 (a.tdiv u2) (a.tdiv v2) (b.tdiv u2) (b.tdiv v2) = (x, y) := ⟨_, _, rfl⟩
        have HJ := Aside0.mk ((part_neg e hxy).symm.trans k2.out)
        have HX := Aside0.mk hxy
        have HY := Aside0.mk (y2.out (by omega))
        clear hxy
        go_wp2_with fail
        (with_reducible refine (isE_f u2 v2 (by omega) _).mono ?_); rintro e wE ⟨rfl, hb⟩
        have NP := Aside0.mk (show go < wr.heap.size from blk_lt (HB.out.bk 3 rfl))
        replace HB := Aside0.mk ((show Bx w [(w.heap.size, a, b), (w.heap.size + 1, c, d), (w.heap.size + 1 + 1, 0, 0), (go, p1, p2), (wr.heap.size, u2, v2)] _ from HB.out.box rfl u2 v2).step hb)
        clear hb
        go_wp2_with fail
        generalize wr.heap.size = gp at HB NP ⊢
        replace HB := Aside0.mk (HB.out.drew)
        refine start_ (n := 7) (S := fun w' => w'.cell? ⟨go, 0, none⟩ = some (.int .i32 p1) ∧ w'.cell? ⟨go, 1, none⟩ = some (.int .i32 p2) ∧ w'.cell? ⟨w.heap.size, 0, none⟩ = some (.int .i32 a) ∧ w'.cell? ⟨w.heap.size, 1, none⟩ = some (.int .i32 b) ∧ w'.cell? ⟨gp, 0, none⟩ = some (.int .i32 u2) ∧ w'.cell? ⟨gp, 1, none⟩ = some (.int .i32 v2)) (ds := [6]) #[false, false, false, false, false, false, false] (by kernel_rfl) rfl rfl ⟨HB.out.c0 3 rfl, HB.out.c1 3 rfl, HB.out.c0 0 rfl, HB.out.c1 0 rfl, HB.out.c0 4 rfl, HB.out.c1 4 rfl⟩ (fun hHeld => ?_)
        generalize wE.drew = w9 at HB hHeld ⊢
        refine take_ (i := 0) (N := some 34) (v := ?_) (a' := ?_) (bl 7 1) rfl rfl (by kernel_rfl) (fun _ _ _ h => h) (Or.inl ⟨by rfl, ?_⟩) hHeld ?_ ?_
        rotate_left
        · rintro w' ⟨_, _, _, _, _, _⟩; go_simp; with_reducible rfl
        rotate_left
        · simp only [Act.put, zA, zB, zC, i64_w, i32_w]; rfl
        refine take_ (i := 1) (N := some 35) (v := ?_) (a' := ?_) (bl 7 3) rfl rfl (by kernel_rfl) (fun _ _ _ h => h) (Or.inl ⟨by rfl, ?_⟩) hHeld ?_ ?_
        rotate_left
        · rintro w' ⟨_, _, _, _, _, _⟩; go_simp; with_reducible rfl
        rotate_left
        · simp only [Act.put, zA, zB, zC, i64_w, i32_w]; rfl
        refine take_ (i := 2) (N := some 36) (v := ?_) (a' := ?_) (bl 7 7) rfl rfl (by kernel_rfl) (fun _ _ _ h => h) (Or.inl ⟨by rfl, ?_⟩) hHeld ?_ ?_
        rotate_left
        · rintro w' ⟨_, _, _, _, _, _⟩; go_simp; with_reducible rfl
        rotate_left
        · simp only [Act.put, zA, zB, zC, i64_w, i32_w]; rfl
        refine pure_ (i := 3) (N := some 37) (v := ?_) (a' := ?_) (bl 7 15) rfl rfl (by kernel_rfl) (fun _ _ _ h => h) (Or.inl ⟨by rfl, ?_⟩) ?_ ?_
        rotate_left
        · intro w'; go_simp; with_reducible rfl
        rotate_left
        · simp only [Act.put, zA, zB, zC, i64_w, i32_w]; rfl
        refine one_ (i := 4) (N := some 38) (bl 7 31) rfl rfl (by kernel_rfl) (by decide) (fun K hK => ?_)
        refine goes_ Try.func53 (by kernel_rfl) rfl #[.agg #[.int .i32 a, .int .i32 b], .agg #[.int .i32 u2, .int .i32 v2], .func (.func 79) #[] #[]] (by rfl) rfl rfl (by (try simp only [List.map_toArray, List.map_cons, List.map_nil]); first | done | rfl) ?_
        with_reducible refine (corners79 a b u2 v2 _ _ _ _ x y ha hb0 i2 j2 z2 HY ⟨rfl⟩ ⟨rfl⟩ ⟨rfl⟩ ⟨rfl⟩ HX _).mono ?_
        rintro e w10 ⟨rfl, hb⟩; refine ⟨_, rfl, ?_⟩
        replace HB := Aside0.mk (HB.out.step hb); clear hb
        refine hK.out _ _ ⟨HB.out.c0 3 rfl, HB.out.c1 3 rfl, HB.out.c0 0 rfl, HB.out.c1 0 rfl, HB.out.c0 4 rfl, HB.out.c1 4 rfl⟩ (fun hHeld => ?_)
        clear hK K
        refine norm_ (a' := ?_) ?_ ?_; rotate_left
        · show Act.put _ (some 38) _ = _; simp only [Act.put, zA, zB, zC, i64_w, i32_w]; rfl
        refine one_ (i := 5) (N := some 39) (bl 7 63) rfl rfl (by kernel_rfl) (by decide) (fun K hK => ?_)
        refine goes_ Try.func26 (by kernel_rfl) rfl #[.agg #[.int .i32 p1, .int .i32 p2], .agg #[.int .i32 x, .int .i32 y]] (by rfl) rfl rfl (by (try simp only [List.map_toArray, List.map_cons, List.map_nil]); first | done | rfl) ?_
        with_reducible refine (join_c p1 p2 x y q1 q2 HJ.out _).mono ?_
        rintro e w11 ⟨rfl, hb⟩; refine ⟨_, rfl, ?_⟩
        replace HB := Aside0.mk (HB.out.step hb)
        clear hb
        have C := HB.out.cl
        simp only [Cl, and_true] at C
        obtain ⟨_, _, _, _, _, _, _, _, _, _, _, _, _, _, _, _, _, _, _, _⟩ := C
        refine hK.out _ _ ⟨HB.out.c0 3 rfl, HB.out.c1 3 rfl, HB.out.c0 0 rfl, HB.out.c1 0 rfl, HB.out.c0 4 rfl, HB.out.c1 4 rfl⟩ (fun hHeld => ?_)
        clear hK K
        refine norm_ (a' := ?_) ?_ ?_; rotate_left
        · show Act.put _ (some 39) _ = _; simp only [Act.put, zA, zB, zC, i64_w, i32_w]; rfl
        refine last_ (i := 6) (N := none) (bl 7 127) rfl rfl (by kernel_rfl) (by decide) (fun K hK => ?_)
        refine skip_ (w1 := ?_) (by rfl) rfl ?_ ?_
        rotate_left
        · go_simp
          rfl
        refine hK.out _ _ ?_
        clear hK K
        refine done_ (by kernel_rfl) ?_
        replace HB := Aside0.mk (show Bx w [(w.heap.size, a, b), (w.heap.size + 1, c, d), (w.heap.size + 1 + 1, 0, 0), (go, q1, q2)] _ from (HB.out.put 3 rfl (by rintro (_ | _ | _ | _ | _ | m) g' a' b' hm hne <;> simp at hm hne <;> (obtain ⟨rfl, -, -⟩ := hm; have := NG.out; have := NP.out; omega)) (by have := NG.out; omega) q1 q2).take 4)
        go_wp2
        go_roundg 0
        case measure => omega
        case rel => exact ⟨_, _, .inr (.inr ⟨rfl, rfl, rfl, rfl⟩), HB⟩
    · have C := HB.out.cl
      simp only [Cl, and_true] at C
      obtain ⟨_, _, _, _, _, _, _, _, _, _, _, _, _, _, _, _⟩ := C
      go_wp2
      obtain ⟨R1, R2⟩ := HB.out.ret 2 rfl (by omega) q1 q2
      refine bodyPost_ret (results_cell_row rfl _ _ (w.heap.size + 1 + 1) 38 #[.int .i32 q1, .int .i32 q2] (0, 0) _ rfl R1 Try.underlying38 rfl (by kernel_rfl)) rfl ⟨rfl, R2⟩

theorem meet_low {c d u v : Int} (h : meetv c d (-2147483648) (-1) = (u, v)) : u ≠ 0 ∧ (u ≤ v → v ≠ 0) := by
  unfold meetv at h
  split at h
  · obtain ⟨rfl, rfl⟩ := Prod.mk.inj h; omega
  · obtain ⟨h1, h2⟩ := Prod.mk.inj h; omega
theorem meet_high {c d u v : Int} (h : meetv c d 1 2147483647 = (u, v)) : u ≠ 0 ∧ (u ≤ v → v ≠ 0) := by
  unfold meetv at h
  split at h
  · obtain ⟨rfl, rfl⟩ := Prod.mk.inj h; omega
  · obtain ⟨h1, h2⟩ := Prod.mk.inj h; omega
theorem divide_c (a b c d r s : Int) (ha : I32 a) (hb : I32 b) (hc : I32 c) (hd : I32 d) (h : divv a b c d = (r, s)) (w : World) : Calls Try.prog 57 #[.agg #[.int .i32 a, .int .i32 b], .agg #[.int .i32 c, .int .i32 d]] w fun e w' => e = .returned (.agg #[.int .i32 r, .int .i32 s]) ∧ Below w.heap.size w w' := by
  unfold divv at h
  by_cases z : c = 0 ∧ d = 0
  · rw [if_pos z] at h
    obtain ⟨rfl, rfl⟩ := Prod.mk.inj h
    exact divide_zero a b c d (by simp [z]) w
  rw [if_neg z] at h
  have z' : (c == 0 && (d == 0)) = false := by
    by_cases e : c = 0
    · have e' : d ≠ 0 := fun e' => z ⟨e, e'⟩
      simp [e']
    · simp [e]
  by_cases f : (a ≤ -2147483648 ∧ -2147483648 ≤ b) ∧ (c ≤ -1 ∧ -1 ≤ d)
  · rw [if_pos f] at h
    obtain ⟨rfl, rfl⟩ := Prod.mk.inj h
    exact divide_full a b c d z' ⟨decide_eq_true f.1⟩ ⟨decide_eq_true f.2⟩ w
  rw [if_neg f] at h
  obtain ⟨u1, v1, m1⟩ : ∃ u v, meetv c d (-2147483648) (-1) = (u, v) := ⟨_, _, rfl⟩
  obtain ⟨u2, v2, m2⟩ : ∃ u v, meetv c d 1 2147483647 = (u, v) := ⟨_, _, rfl⟩
  rw [m1, m2] at h
  obtain ⟨p1, p2, k1⟩ : ∃ p q, partv a b u1 v1 (1, 0) = (p, q) := ⟨_, _, rfl⟩
  rw [k1] at h
  have n1 := meet_low m1
  have n2 := meet_high m2
  have l1 := J32_meet (c := -2147483648) (d := -1) hc hd (by unfold I32; omega) (by unfold I32; omega)
  have l2 := J32_meet (c := 1) (d := 2147483647) hc hd (by unfold I32; omega) (by unfold I32; omega)
  rw [m1] at l1
  rw [m2] at l2
  by_cases t1 : a ≤ -2147483648 ∧ -2147483648 ≤ b
  · have t2 : ¬ (c ≤ -1 ∧ -1 ≤ d) := fun t2 => f ⟨t1, t2⟩
    exact divide_main1 a b c d u1 v1 u2 v2 p1 p2 r s ⟨ha⟩ ⟨hb⟩ ⟨l1.1⟩ ⟨l1.2⟩ ⟨l2.1⟩ ⟨l2.2⟩ z' ⟨decide_eq_true t1⟩ ⟨decide_eq_false t2⟩ ⟨m1⟩ ⟨m2⟩ ⟨n1.1⟩ ⟨n1.2⟩ ⟨n2.1⟩ ⟨n2.2⟩ ⟨k1⟩ ⟨h⟩ w
  · exact divide_main0 a b c d u1 v1 u2 v2 p1 p2 r s ⟨ha⟩ ⟨hb⟩ ⟨l1.1⟩ ⟨l1.2⟩ ⟨l2.1⟩ ⟨l2.2⟩ z' ⟨decide_eq_false t1⟩ ⟨m1⟩ ⟨m2⟩ ⟨n1.1⟩ ⟨n1.2⟩ ⟨n2.1⟩ ⟨n2.2⟩ ⟨k1⟩ ⟨h⟩ w

end Go.Proofs.Ytoalomjmmlnclaa.Ivl

