/- The reference of chapter 27: what its remainder, its bitwise operators and its shifts answer, in the plain functions' words. -/
import Derived.Test.YtoalomjmmlnclaaRefK
import Derived.Test.YtoalomjmmlnclaaRefM
namespace Go.Proofs.Ytoalomjmmlnclaa.Ivl5
open Go.RowKit Go.Proofs.Ytoalomjmmlnclaa.PIntervalApply Go.Proofs.YtoalomjmmlnclaaW.PrintWords Go.Proofs.YtoalomjmmlnclaaW.PrintLast
open Go.Proofs.Ytoalomjmmlnclaa.M
open List renaming setIfInBounds_toArray → zA, set_cons_zero → zB, set_cons_succ → zC
attribute [local go_sem] max2_int min2_int max_two min_two max_three min_three max_four min_four
set_option linter.unusedVariables false
set_option linter.unusedSimpArgs false

set_option maxHeartbeats 4000000 in
set_option maxRecDepth 100000 in
theorem rem_np (a b c d m u v : Int) (ea : Aside0 (wrap64 a = a)) (eb : Aside0 (wrap64 b = b)) (ec : Aside0 (wrap64 c = c)) (ed : Aside0 (wrap64 d = d)) (h1 : decide (a < 0) = true) (h2 : decide (0 < b) = true) (hm : Aside0 (max (-c) d = m)) (em : Aside0 (wrap64 (m - 1) = m - 1)) (hn : Aside0 (wrap64 (-c) = -c)) (hq : Aside0 (wrap64 (-(m - 1)) = -(m - 1))) (hu : Aside0 (max a (-(m - 1)) = u)) (hv : Aside0 (min b (m - 1) = v)) (w : World) : Calls Try.prog 72 #[.agg #[.int .i32 a, .int .i32 b], .agg #[.int .i32 c, .int .i32 d]] w fun e w' => e = .returned (.agg #[.int .i32 (wrap32 u), .int .i32 (wrap32 v)]) ∧ Below w.heap.size w w' := by
  have hu51 := Try.underlying51
  go_enter Try.func72, Try.ntmps72
  go_upto_region 1 with (fail)
  have HB := Aside0.mk (Bx.start3 w a b c d 0 0)
  generalize World.alloc (World.alloc (World.alloc w _) _) _ = w0 at HB ⊢
  have C := HB.out.cl
  simp only [Cl, and_true] at C
  obtain ⟨_, _, _, _, _, _, _, _, _, _, _, _⟩ := C
  go_wp2_with fail
  (with_reducible refine (most_c _ _ m (by rw [ec.out, ed.out, hn.out]; exact hm.out) _).mono ?_); rintro e wv1 ⟨rfl, hb⟩
  replace HB := Aside0.mk (HB.out.step hb)
  clear hb
  have C := HB.out.cl
  simp only [Cl, and_true] at C
  obtain ⟨_, _, _, _, _, _, _, _, _, _, _, _⟩ := C
  go_upto_region 3 with (fail)
  have hlgO_0 := blk_lt (HB.out.bk 0 rfl)
  have hlgO_1 := blk_lt (HB.out.bk 1 rfl)
  have hlgO_2 := blk_lt (HB.out.bk 2 rfl)
  replace HB := Aside0.mk (show Bx w [(w.heap.size, a, b), (w.heap.size + 1, c, d), (w.heap.size + 1 + 1, 0, 0), (wv1.heap.size, 0, 0)] _ from HB.out.box rfl 0 0)
  generalize World.alloc wv1 _ = wv2 at HB ⊢
  generalize wv1.heap.size = gO at HB hlgO_0 hlgO_1 hlgO_2 ⊢
  have C := HB.out.cl
  simp only [Cl, and_true] at C
  obtain ⟨_, _, _, _, _, _, _, _, _, _, _, _, _, _, _, _⟩ := C
  go_wp2_with fail
  (with_reducible refine (most_c _ _ u (by rw [ea.out, em.out, hq.out]; exact hu.out) _).mono ?_); rintro e wv3 ⟨rfl, hb⟩
  replace HB := Aside0.mk (HB.out.step hb)
  clear hb
  have C := HB.out.cl
  simp only [Cl, and_true] at C
  obtain ⟨_, _, _, _, _, _, _, _, _, _, _, _, _, _, _, _⟩ := C
  go_upto_region 5 with (fail)
  replace HB := Aside0.mk (show Bx w [(w.heap.size, a, b), (w.heap.size + 1, c, d), (w.heap.size + 1 + 1, 0, 0), (gO, (wrap32 u), 0)] _ from HB.out.put0 3 rfl (by intro m g' a' b' hm hne; rcases m with _ | _ | _ | _ | m <;> simp at hm <;> omega) (by omega) (wrap32 u))
  generalize World.setCell wv3 _ _ = wv4 at HB ⊢
  have C := HB.out.cl
  simp only [Cl, and_true] at C
  obtain ⟨_, _, _, _, _, _, _, _, _, _, _, _, _, _, _, _⟩ := C
  go_wp2_with fail
  (with_reducible refine (least_c _ _ v (by rw [eb.out, em.out]; exact hv.out) _).mono ?_); rintro e wv5 ⟨rfl, hb⟩
  replace HB := Aside0.mk (HB.out.step hb)
  clear hb
  have C := HB.out.cl
  simp only [Cl, and_true] at C
  obtain ⟨_, _, _, _, _, _, _, _, _, _, _, _, _, _, _, _⟩ := C
  go_upto_region 7 with (fail)
  replace HB := Aside0.mk (show Bx w [(w.heap.size, a, b), (w.heap.size + 1, c, d), (w.heap.size + 1 + 1, 0, 0), (gO, (wrap32 u), (wrap32 v))] _ from HB.out.put1 3 rfl (by intro m g' a' b' hm hne; rcases m with _ | _ | _ | _ | m <;> simp at hm <;> omega) (by omega) (wrap32 v))
  generalize World.setCell wv5 _ _ = wv6 at HB ⊢
  have C := HB.out.cl
  simp only [Cl, and_true] at C
  obtain ⟨_, _, _, _, _, _, _, _, _, _, _, _, _, _, _, _⟩ := C
  go_wp2_with fail
  obtain ⟨R1, R2⟩ := HB.out.ret 2 rfl (by omega) (wrap32 u) (wrap32 v)
  refine bodyPost_ret (results_cell_row rfl _ _ (w.heap.size + 1 + 1) 51 #[.int .i32 (wrap32 u), .int .i32 (wrap32 v)] (0, 0) _ rfl R1 Try.underlying51 rfl (by kernel_rfl)) rfl ⟨rfl, R2⟩

set_option maxHeartbeats 4000000 in
set_option maxRecDepth 100000 in
theorem rem_nn (a b c d m u v : Int) (ea : Aside0 (wrap64 a = a)) (eb : Aside0 (wrap64 b = b)) (ec : Aside0 (wrap64 c = c)) (ed : Aside0 (wrap64 d = d)) (h1 : decide (a < 0) = true) (h2 : decide (0 < b) = false) (hm : Aside0 (max (-c) d = m)) (em : Aside0 (wrap64 (m - 1) = m - 1)) (hn : Aside0 (wrap64 (-c) = -c)) (hq : Aside0 (wrap64 (-(m - 1)) = -(m - 1))) (hu : Aside0 (max a (-(m - 1)) = u)) (w : World) : Calls Try.prog 72 #[.agg #[.int .i32 a, .int .i32 b], .agg #[.int .i32 c, .int .i32 d]] w fun e w' => e = .returned (.agg #[.int .i32 (wrap32 u), .int .i32 0]) ∧ Below w.heap.size w w' := by
  have hu51 := Try.underlying51
  go_enter Try.func72, Try.ntmps72
  go_upto_region 1 with (fail)
  have HB := Aside0.mk (Bx.start3 w a b c d 0 0)
  generalize World.alloc (World.alloc (World.alloc w _) _) _ = w0 at HB ⊢
  have C := HB.out.cl
  simp only [Cl, and_true] at C
  obtain ⟨_, _, _, _, _, _, _, _, _, _, _, _⟩ := C
  go_wp2_with fail
  (with_reducible refine (most_c _ _ m (by rw [ec.out, ed.out, hn.out]; exact hm.out) _).mono ?_); rintro e wv1 ⟨rfl, hb⟩
  replace HB := Aside0.mk (HB.out.step hb)
  clear hb
  have C := HB.out.cl
  simp only [Cl, and_true] at C
  obtain ⟨_, _, _, _, _, _, _, _, _, _, _, _⟩ := C
  go_upto_region 3 with (fail)
  have hlgO_0 := blk_lt (HB.out.bk 0 rfl)
  have hlgO_1 := blk_lt (HB.out.bk 1 rfl)
  have hlgO_2 := blk_lt (HB.out.bk 2 rfl)
  replace HB := Aside0.mk (show Bx w [(w.heap.size, a, b), (w.heap.size + 1, c, d), (w.heap.size + 1 + 1, 0, 0), (wv1.heap.size, 0, 0)] _ from HB.out.box rfl 0 0)
  generalize World.alloc wv1 _ = wv2 at HB ⊢
  generalize wv1.heap.size = gO at HB hlgO_0 hlgO_1 hlgO_2 ⊢
  have C := HB.out.cl
  simp only [Cl, and_true] at C
  obtain ⟨_, _, _, _, _, _, _, _, _, _, _, _, _, _, _, _⟩ := C
  go_wp2_with fail
  (with_reducible refine (most_c _ _ u (by rw [ea.out, em.out, hq.out]; exact hu.out) _).mono ?_); rintro e wv3 ⟨rfl, hb⟩
  replace HB := Aside0.mk (HB.out.step hb)
  clear hb
  have C := HB.out.cl
  simp only [Cl, and_true] at C
  obtain ⟨_, _, _, _, _, _, _, _, _, _, _, _, _, _, _, _⟩ := C
  go_upto_region 5 with (fail)
  replace HB := Aside0.mk (show Bx w [(w.heap.size, a, b), (w.heap.size + 1, c, d), (w.heap.size + 1 + 1, 0, 0), (gO, (wrap32 u), 0)] _ from HB.out.put0 3 rfl (by intro m g' a' b' hm hne; rcases m with _ | _ | _ | _ | m <;> simp at hm <;> omega) (by omega) (wrap32 u))
  generalize World.setCell wv3 _ _ = wv4 at HB ⊢
  have C := HB.out.cl
  simp only [Cl, and_true] at C
  obtain ⟨_, _, _, _, _, _, _, _, _, _, _, _, _, _, _, _⟩ := C
  go_wp2_with fail
  obtain ⟨R1, R2⟩ := HB.out.ret 2 rfl (by omega) (wrap32 u) 0
  refine bodyPost_ret (results_cell_row rfl _ _ (w.heap.size + 1 + 1) 51 #[.int .i32 (wrap32 u), .int .i32 0] (0, 0) _ rfl R1 Try.underlying51 rfl (by kernel_rfl)) rfl ⟨rfl, R2⟩

set_option maxHeartbeats 4000000 in
set_option maxRecDepth 100000 in
theorem rem_pp (a b c d m u v : Int) (ea : Aside0 (wrap64 a = a)) (eb : Aside0 (wrap64 b = b)) (ec : Aside0 (wrap64 c = c)) (ed : Aside0 (wrap64 d = d)) (h1 : decide (a < 0) = false) (h2 : decide (0 < b) = true) (hm : Aside0 (max (-c) d = m)) (em : Aside0 (wrap64 (m - 1) = m - 1)) (hn : Aside0 (wrap64 (-c) = -c)) (hq : Aside0 (wrap64 (-(m - 1)) = -(m - 1))) (hv : Aside0 (min b (m - 1) = v)) (w : World) : Calls Try.prog 72 #[.agg #[.int .i32 a, .int .i32 b], .agg #[.int .i32 c, .int .i32 d]] w fun e w' => e = .returned (.agg #[.int .i32 0, .int .i32 (wrap32 v)]) ∧ Below w.heap.size w w' := by
  have hu51 := Try.underlying51
  go_enter Try.func72, Try.ntmps72
  go_upto_region 1 with (fail)
  have HB := Aside0.mk (Bx.start3 w a b c d 0 0)
  generalize World.alloc (World.alloc (World.alloc w _) _) _ = w0 at HB ⊢
  have C := HB.out.cl
  simp only [Cl, and_true] at C
  obtain ⟨_, _, _, _, _, _, _, _, _, _, _, _⟩ := C
  go_wp2_with fail
  (with_reducible refine (most_c _ _ m (by rw [ec.out, ed.out, hn.out]; exact hm.out) _).mono ?_); rintro e wv1 ⟨rfl, hb⟩
  replace HB := Aside0.mk (HB.out.step hb)
  clear hb
  have C := HB.out.cl
  simp only [Cl, and_true] at C
  obtain ⟨_, _, _, _, _, _, _, _, _, _, _, _⟩ := C
  go_upto_region 3 with (fail)
  have hlgO_0 := blk_lt (HB.out.bk 0 rfl)
  have hlgO_1 := blk_lt (HB.out.bk 1 rfl)
  have hlgO_2 := blk_lt (HB.out.bk 2 rfl)
  replace HB := Aside0.mk (show Bx w [(w.heap.size, a, b), (w.heap.size + 1, c, d), (w.heap.size + 1 + 1, 0, 0), (wv1.heap.size, 0, 0)] _ from HB.out.box rfl 0 0)
  generalize World.alloc wv1 _ = wv2 at HB ⊢
  generalize wv1.heap.size = gO at HB hlgO_0 hlgO_1 hlgO_2 ⊢
  have C := HB.out.cl
  simp only [Cl, and_true] at C
  obtain ⟨_, _, _, _, _, _, _, _, _, _, _, _, _, _, _, _⟩ := C
  go_wp2_with fail
  (with_reducible refine (least_c _ _ v (by rw [eb.out, em.out]; exact hv.out) _).mono ?_); rintro e wv3 ⟨rfl, hb⟩
  replace HB := Aside0.mk (HB.out.step hb)
  clear hb
  have C := HB.out.cl
  simp only [Cl, and_true] at C
  obtain ⟨_, _, _, _, _, _, _, _, _, _, _, _, _, _, _, _⟩ := C
  go_upto_region 7 with (fail)
  replace HB := Aside0.mk (show Bx w [(w.heap.size, a, b), (w.heap.size + 1, c, d), (w.heap.size + 1 + 1, 0, 0), (gO, 0, (wrap32 v))] _ from HB.out.put1 3 rfl (by intro m g' a' b' hm hne; rcases m with _ | _ | _ | _ | m <;> simp at hm <;> omega) (by omega) (wrap32 v))
  generalize World.setCell wv3 _ _ = wv4 at HB ⊢
  have C := HB.out.cl
  simp only [Cl, and_true] at C
  obtain ⟨_, _, _, _, _, _, _, _, _, _, _, _, _, _, _, _⟩ := C
  go_wp2_with fail
  obtain ⟨R1, R2⟩ := HB.out.ret 2 rfl (by omega) 0 (wrap32 v)
  refine bodyPost_ret (results_cell_row rfl _ _ (w.heap.size + 1 + 1) 51 #[.int .i32 0, .int .i32 (wrap32 v)] (0, 0) _ rfl R1 Try.underlying51 rfl (by kernel_rfl)) rfl ⟨rfl, R2⟩

set_option maxHeartbeats 4000000 in
set_option maxRecDepth 100000 in
theorem rem_pn (a b c d m u v : Int) (ea : Aside0 (wrap64 a = a)) (eb : Aside0 (wrap64 b = b)) (ec : Aside0 (wrap64 c = c)) (ed : Aside0 (wrap64 d = d)) (h1 : decide (a < 0) = false) (h2 : decide (0 < b) = false) (hm : Aside0 (max (-c) d = m)) (em : Aside0 (wrap64 (m - 1) = m - 1)) (hn : Aside0 (wrap64 (-c) = -c)) (hq : Aside0 (wrap64 (-(m - 1)) = -(m - 1))) (w : World) : Calls Try.prog 72 #[.agg #[.int .i32 a, .int .i32 b], .agg #[.int .i32 c, .int .i32 d]] w fun e w' => e = .returned (.agg #[.int .i32 0, .int .i32 0]) ∧ Below w.heap.size w w' := by
  have hu51 := Try.underlying51
  go_enter Try.func72, Try.ntmps72
  go_upto_region 1 with (fail)
  have HB := Aside0.mk (Bx.start3 w a b c d 0 0)
  generalize World.alloc (World.alloc (World.alloc w _) _) _ = w0 at HB ⊢
  have C := HB.out.cl
  simp only [Cl, and_true] at C
  obtain ⟨_, _, _, _, _, _, _, _, _, _, _, _⟩ := C
  go_wp2_with fail
  (with_reducible refine (most_c _ _ m (by rw [ec.out, ed.out, hn.out]; exact hm.out) _).mono ?_); rintro e wv1 ⟨rfl, hb⟩
  replace HB := Aside0.mk (HB.out.step hb)
  clear hb
  have C := HB.out.cl
  simp only [Cl, and_true] at C
  obtain ⟨_, _, _, _, _, _, _, _, _, _, _, _⟩ := C
  go_upto_region 3 with (fail)
  have hlgO_0 := blk_lt (HB.out.bk 0 rfl)
  have hlgO_1 := blk_lt (HB.out.bk 1 rfl)
  have hlgO_2 := blk_lt (HB.out.bk 2 rfl)
  replace HB := Aside0.mk (show Bx w [(w.heap.size, a, b), (w.heap.size + 1, c, d), (w.heap.size + 1 + 1, 0, 0), (wv1.heap.size, 0, 0)] _ from HB.out.box rfl 0 0)
  generalize World.alloc wv1 _ = wv2 at HB ⊢
  generalize wv1.heap.size = gO at HB hlgO_0 hlgO_1 hlgO_2 ⊢
  have C := HB.out.cl
  simp only [Cl, and_true] at C
  obtain ⟨_, _, _, _, _, _, _, _, _, _, _, _, _, _, _, _⟩ := C
  go_wp2_with fail
  obtain ⟨R1, R2⟩ := HB.out.ret 2 rfl (by omega) 0 0
  refine bodyPost_ret (results_cell_row rfl _ _ (w.heap.size + 1 + 1) 51 #[.int .i32 0, .int .i32 0] (0, 0) _ rfl R1 Try.underlying51 rfl (by kernel_rfl)) rfl ⟨rfl, R2⟩

theorem rem_c (a b c d r s : Int) (ia : I32 a) (ib : I32 b) (ic : I32 c) (id : I32 d) (hcd : c ≤ d) (hz : ¬(c = 0 ∧ d = 0)) (h : remv a b c d = (r, s)) (w : World) : Calls Try.prog 72 #[.agg #[.int .i32 a, .int .i32 b], .agg #[.int .i32 c, .int .i32 d]] w fun e w' => e = .returned (.agg #[.int .i32 r, .int .i32 s]) ∧ Below w.heap.size w w' := by
  unfold remv at h
  rw [if_neg hz, show max (max (max (-c) c) (-d)) d = max (-c) d by omega] at h
  obtain ⟨rfl, rfl⟩ := Prod.mk.inj h
  clear h
  have ba := ia; have bb := ib; have bc := ic; have bd := id
  unfold I32 at ba bb bc bd
  have ea := Aside0.mk (w64 (x := a) (by omega)); have eb := Aside0.mk (w64 (x := b) (by omega)); have ec := Aside0.mk (w64 (x := c) (by omega)); have ed := Aside0.mk (w64 (x := d) (by omega))
  generalize hm : max (-c) d = m
  have m1 : 0 ≤ m ∧ m ≤ 2147483648 := by omega
  by_cases h1 : a < 0 <;> by_cases h2 : 0 < b
  · refine (rem_np a b c d m _ _ ea eb ec ed (decide_eq_true h1) (decide_eq_true h2) ⟨hm⟩ ⟨w64 (by omega)⟩ ⟨w64 (by omega)⟩ ⟨w64 (by omega)⟩ ⟨rfl⟩ ⟨rfl⟩ w).mono fun e w' ⟨he, hb⟩ => ⟨?_, hb⟩
    rw [he, w32 (by unfold I32; omega), w32 (by unfold I32; omega), if_neg (by omega), if_neg (by omega)]
  · refine (rem_nn a b c d m _ 0 ea eb ec ed (decide_eq_true h1) (decide_eq_false h2) ⟨hm⟩ ⟨w64 (by omega)⟩ ⟨w64 (by omega)⟩ ⟨w64 (by omega)⟩ ⟨rfl⟩ w).mono fun e w' ⟨he, hb⟩ => ⟨?_, hb⟩
    rw [he, w32 (by unfold I32; omega), if_neg (by omega), if_pos (by omega)]
  · refine (rem_pp a b c d m 0 _ ea eb ec ed (decide_eq_false h1) (decide_eq_true h2) ⟨hm⟩ ⟨w64 (by omega)⟩ ⟨w64 (by omega)⟩ ⟨w64 (by omega)⟩ ⟨rfl⟩ w).mono fun e w' ⟨he, hb⟩ => ⟨?_, hb⟩
    rw [he, w32 (by unfold I32; omega), if_pos (by omega), if_neg (by omega)]
  · refine (rem_pn a b c d m 0 0 ea eb ec ed (decide_eq_false h1) (decide_eq_false h2) ⟨hm⟩ ⟨w64 (by omega)⟩ ⟨w64 (by omega)⟩ ⟨w64 (by omega)⟩ w).mono fun e w' ⟨he, hb⟩ => ⟨?_, hb⟩
    rw [he, if_pos (by omega), if_pos (by omega)]

set_option maxHeartbeats 4000000 in
set_option maxRecDepth 100000 in
theorem bit_and (a b c d m p q : Int) (ea : Aside0 (wrap64 a = a)) (eb : Aside0 (wrap64 b = b)) (ec : Aside0 (wrap64 c = c)) (ed : Aside0 (wrap64 d = d)) (h1 : decide (0 ≤ a) = true) (h2 : decide (0 ≤ c) = true) (hm : Aside0 (max b d = m)) (em : Aside0 (wrap32 m = m)) (hp : Aside0 (min b d = p)) (w : World) : Calls Try.prog 73 #[.int .u8 11, .agg #[.int .i32 a, .int .i32 b], .agg #[.int .i32 c, .int .i32 d]] w fun e w' => e = .returned (.agg #[.int .i32 0, .int .i32 (wrap32 p)]) ∧ Below w.heap.size w w' := by
  have hu51 := Try.underlying51
  go_enter Try.func73, Try.ntmps73
  go_upto_region 1 with (fail)
  have HB := Aside0.mk (Bx.start3 w a b c d 0 0)
  generalize World.alloc (World.alloc (World.alloc w _) _) _ = w0 at HB ⊢
  have C := HB.out.cl
  simp only [Cl, and_true] at C
  obtain ⟨_, _, _, _, _, _, _, _, _, _, _, _⟩ := C
  go_wp2_with fail
  (with_reducible refine (most_c _ _ m (by rw [eb.out, ed.out]; exact hm.out) _).mono ?_); rintro e wv1 ⟨rfl, hb⟩
  replace HB := Aside0.mk (HB.out.step hb)
  clear hb
  have C := HB.out.cl
  simp only [Cl, and_true] at C
  obtain ⟨_, _, _, _, _, _, _, _, _, _, _, _⟩ := C
  go_wp2_with fail
  (with_reducible refine (least_c _ _ p (by rw [eb.out, ed.out]; exact hp.out) _).mono ?_); rintro e wv2 ⟨rfl, hb⟩
  replace HB := Aside0.mk (HB.out.step hb)
  clear hb
  have C := HB.out.cl
  simp only [Cl, and_true] at C
  obtain ⟨_, _, _, _, _, _, _, _, _, _, _, _⟩ := C
  go_wp2_with fail
  obtain ⟨R1, R2⟩ := HB.out.ret 2 rfl (by omega) 0 (wrap32 p)
  refine bodyPost_ret (results_cell_row rfl _ _ (w.heap.size + 1 + 1) 51 #[.int .i32 0, .int .i32 (wrap32 p)] (0, 0) _ rfl R1 Try.underlying51 rfl (by kernel_rfl)) rfl ⟨rfl, R2⟩

set_option maxHeartbeats 4000000 in
set_option maxRecDepth 100000 in
theorem bit_or (a b c d m p q : Int) (ea : Aside0 (wrap64 a = a)) (eb : Aside0 (wrap64 b = b)) (ec : Aside0 (wrap64 c = c)) (ed : Aside0 (wrap64 d = d)) (h1 : decide (0 ≤ a) = true) (h2 : decide (0 ≤ c) = true) (hm : Aside0 (max b d = m)) (em : Aside0 (wrap32 m = m)) (im : Aside0 (I32 m)) (hp : Aside0 (max a c = p)) (hq : Aside0 (maskv m = q)) (w : World) : Calls Try.prog 73 #[.int .u8 12, .agg #[.int .i32 a, .int .i32 b], .agg #[.int .i32 c, .int .i32 d]] w fun e w' => e = .returned (.agg #[.int .i32 (wrap32 p), .int .i32 q]) ∧ Below w.heap.size w w' := by
  have hu51 := Try.underlying51
  go_enter Try.func73, Try.ntmps73
  go_upto_region 1 with (fail)
  have HB := Aside0.mk (Bx.start3 w a b c d 0 0)
  generalize World.alloc (World.alloc (World.alloc w _) _) _ = w0 at HB ⊢
  have C := HB.out.cl
  simp only [Cl, and_true] at C
  obtain ⟨_, _, _, _, _, _, _, _, _, _, _, _⟩ := C
  go_wp2_with fail
  (with_reducible refine (most_c _ _ m (by rw [eb.out, ed.out]; exact hm.out) _).mono ?_); rintro e wv1 ⟨rfl, hb⟩
  replace HB := Aside0.mk (HB.out.step hb)
  clear hb
  have C := HB.out.cl
  simp only [Cl, and_true] at C
  obtain ⟨_, _, _, _, _, _, _, _, _, _, _, _⟩ := C
  go_wp2_with fail
  (with_reducible refine (most_c _ _ p (by rw [ea.out, ec.out]; exact hp.out) _).mono ?_); rintro e wv2 ⟨rfl, hb⟩
  replace HB := Aside0.mk (HB.out.step hb)
  clear hb
  have C := HB.out.cl
  simp only [Cl, and_true] at C
  obtain ⟨_, _, _, _, _, _, _, _, _, _, _, _⟩ := C
  go_wp2_with fail
  (with_reducible refine (ones_c _ q (by rw [em.out]; exact im.out) (by rw [em.out]; exact hq.out) _).mono ?_); rintro e wv3 ⟨rfl, hb⟩
  replace HB := Aside0.mk (HB.out.step hb)
  clear hb
  have C := HB.out.cl
  simp only [Cl, and_true] at C
  obtain ⟨_, _, _, _, _, _, _, _, _, _, _, _⟩ := C
  go_wp2_with fail
  obtain ⟨R1, R2⟩ := HB.out.ret 2 rfl (by omega) (wrap32 p) q
  refine bodyPost_ret (results_cell_row rfl _ _ (w.heap.size + 1 + 1) 51 #[.int .i32 (wrap32 p), .int .i32 q] (0, 0) _ rfl R1 Try.underlying51 rfl (by kernel_rfl)) rfl ⟨rfl, R2⟩

set_option maxHeartbeats 4000000 in
set_option maxRecDepth 100000 in
theorem bit_xor (a b c d m p q : Int) (ea : Aside0 (wrap64 a = a)) (eb : Aside0 (wrap64 b = b)) (ec : Aside0 (wrap64 c = c)) (ed : Aside0 (wrap64 d = d)) (h1 : decide (0 ≤ a) = true) (h2 : decide (0 ≤ c) = true) (hm : Aside0 (max b d = m)) (em : Aside0 (wrap32 m = m)) (im : Aside0 (I32 m)) (hq : Aside0 (maskv m = q)) (w : World) : Calls Try.prog 73 #[.int .u8 13, .agg #[.int .i32 a, .int .i32 b], .agg #[.int .i32 c, .int .i32 d]] w fun e w' => e = .returned (.agg #[.int .i32 0, .int .i32 q]) ∧ Below w.heap.size w w' := by
  have hu51 := Try.underlying51
  go_enter Try.func73, Try.ntmps73
  go_upto_region 1 with (fail)
  have HB := Aside0.mk (Bx.start3 w a b c d 0 0)
  generalize World.alloc (World.alloc (World.alloc w _) _) _ = w0 at HB ⊢
  have C := HB.out.cl
  simp only [Cl, and_true] at C
  obtain ⟨_, _, _, _, _, _, _, _, _, _, _, _⟩ := C
  go_wp2_with fail
  (with_reducible refine (most_c _ _ m (by rw [eb.out, ed.out]; exact hm.out) _).mono ?_); rintro e wv1 ⟨rfl, hb⟩
  replace HB := Aside0.mk (HB.out.step hb)
  clear hb
  have C := HB.out.cl
  simp only [Cl, and_true] at C
  obtain ⟨_, _, _, _, _, _, _, _, _, _, _, _⟩ := C
  go_wp2_with fail
  (with_reducible refine (ones_c _ q (by rw [em.out]; exact im.out) (by rw [em.out]; exact hq.out) _).mono ?_); rintro e wv2 ⟨rfl, hb⟩
  replace HB := Aside0.mk (HB.out.step hb)
  clear hb
  have C := HB.out.cl
  simp only [Cl, and_true] at C
  obtain ⟨_, _, _, _, _, _, _, _, _, _, _, _⟩ := C
  go_wp2_with fail
  obtain ⟨R1, R2⟩ := HB.out.ret 2 rfl (by omega) 0 q
  refine bodyPost_ret (results_cell_row rfl _ _ (w.heap.size + 1 + 1) 51 #[.int .i32 0, .int .i32 q] (0, 0) _ rfl R1 Try.underlying51 rfl (by kernel_rfl)) rfl ⟨rfl, R2⟩

set_option maxHeartbeats 4000000 in
set_option maxRecDepth 100000 in
theorem bit_and1 (a b c d m p q : Int) (ea : Aside0 (wrap64 a = a)) (eb : Aside0 (wrap64 b = b)) (ec : Aside0 (wrap64 c = c)) (ed : Aside0 (wrap64 d = d)) (h1 : decide (0 ≤ a) = true) (h2 : decide (0 ≤ c) = false) (w : World) : Calls Try.prog 73 #[.int .u8 11, .agg #[.int .i32 a, .int .i32 b], .agg #[.int .i32 c, .int .i32 d]] w fun e w' => e = .returned (.agg #[.int .i32 0, .int .i32 b]) ∧ Below w.heap.size w w' := by
  have hu51 := Try.underlying51
  go_enter Try.func73, Try.ntmps73
  go_upto_region 1 with (fail)
  have HB := Aside0.mk (Bx.start3 w a b c d 0 0)
  generalize World.alloc (World.alloc (World.alloc w _) _) _ = w0 at HB ⊢
  have C := HB.out.cl
  simp only [Cl, and_true] at C
  obtain ⟨_, _, _, _, _, _, _, _, _, _, _, _⟩ := C
  go_wp2_with fail
  obtain ⟨R1, R2⟩ := HB.out.ret 2 rfl (by omega) 0 b
  refine bodyPost_ret (results_cell_row rfl _ _ (w.heap.size + 1 + 1) 51 #[.int .i32 0, .int .i32 b] (0, 0) _ rfl R1 Try.underlying51 rfl (by kernel_rfl)) rfl ⟨rfl, R2⟩

set_option maxHeartbeats 4000000 in
set_option maxRecDepth 100000 in
theorem bit_and2 (a b c d m p q : Int) (ea : Aside0 (wrap64 a = a)) (eb : Aside0 (wrap64 b = b)) (ec : Aside0 (wrap64 c = c)) (ed : Aside0 (wrap64 d = d)) (h1 : decide (0 ≤ a) = false) (h2 : decide (0 ≤ c) = true) (w : World) : Calls Try.prog 73 #[.int .u8 11, .agg #[.int .i32 a, .int .i32 b], .agg #[.int .i32 c, .int .i32 d]] w fun e w' => e = .returned (.agg #[.int .i32 0, .int .i32 d]) ∧ Below w.heap.size w w' := by
  have hu51 := Try.underlying51
  go_enter Try.func73, Try.ntmps73
  go_upto_region 1 with (fail)
  have HB := Aside0.mk (Bx.start3 w a b c d 0 0)
  generalize World.alloc (World.alloc (World.alloc w _) _) _ = w0 at HB ⊢
  have C := HB.out.cl
  simp only [Cl, and_true] at C
  obtain ⟨_, _, _, _, _, _, _, _, _, _, _, _⟩ := C
  go_wp2_with fail
  obtain ⟨R1, R2⟩ := HB.out.ret 2 rfl (by omega) 0 d
  refine bodyPost_ret (results_cell_row rfl _ _ (w.heap.size + 1 + 1) 51 #[.int .i32 0, .int .i32 d] (0, 0) _ rfl R1 Try.underlying51 rfl (by kernel_rfl)) rfl ⟨rfl, R2⟩

set_option maxHeartbeats 4000000 in
set_option maxRecDepth 100000 in
theorem bit_and3 (a b c d m p q : Int) (ea : Aside0 (wrap64 a = a)) (eb : Aside0 (wrap64 b = b)) (ec : Aside0 (wrap64 c = c)) (ed : Aside0 (wrap64 d = d)) (h1 : decide (0 ≤ a) = false) (h2 : decide (0 ≤ c) = false) (w : World) : Calls Try.prog 73 #[.int .u8 11, .agg #[.int .i32 a, .int .i32 b], .agg #[.int .i32 c, .int .i32 d]] w fun e w' => e = .returned (.agg #[.int .i32 (-2147483648), .int .i32 2147483647]) ∧ Below w.heap.size w w' := by
  have hu51 := Try.underlying51
  go_enter Try.func73, Try.ntmps73
  go_upto_region 1 with (fail)
  have HB := Aside0.mk (Bx.start3 w a b c d 0 0)
  generalize World.alloc (World.alloc (World.alloc w _) _) _ = w0 at HB ⊢
  have C := HB.out.cl
  simp only [Cl, and_true] at C
  obtain ⟨_, _, _, _, _, _, _, _, _, _, _, _⟩ := C
  go_wp2_with fail
  (with_reducible refine (full_c _).mono ?_); rintro e wv1 ⟨rfl, hb⟩
  replace HB := Aside0.mk (HB.out.step hb)
  clear hb
  have C := HB.out.cl
  simp only [Cl, and_true] at C
  obtain ⟨_, _, _, _, _, _, _, _, _, _, _, _⟩ := C
  go_wp2_with fail
  obtain ⟨R1, R2⟩ := HB.out.ret 2 rfl (by omega) (-2147483648) 2147483647
  refine bodyPost_ret (results_cell_row rfl _ _ (w.heap.size + 1 + 1) 51 #[.int .i32 (-2147483648), .int .i32 2147483647] (0, 0) _ rfl R1 Try.underlying51 rfl (by kernel_rfl)) rfl ⟨rfl, R2⟩

set_option maxHeartbeats 4000000 in
set_option maxRecDepth 100000 in
theorem bit_or1n (a b c d m p q : Int) (ea : Aside0 (wrap64 a = a)) (eb : Aside0 (wrap64 b = b)) (ec : Aside0 (wrap64 c = c)) (ed : Aside0 (wrap64 d = d)) (h1 : decide (0 ≤ a) = true) (h2 : decide (0 ≤ c) = false) (h3 : decide (b < 0) = true) (h4 : decide (d < 0) = true) (hp : Aside0 (max a c = p)) (w : World) : Calls Try.prog 73 #[.int .u8 12, .agg #[.int .i32 a, .int .i32 b], .agg #[.int .i32 c, .int .i32 d]] w fun e w' => e = .returned (.agg #[.int .i32 (wrap32 p), .int .i32 (-1)]) ∧ Below w.heap.size w w' := by
  have hu51 := Try.underlying51
  go_enter Try.func73, Try.ntmps73
  go_upto_region 1 with (fail)
  have HB := Aside0.mk (Bx.start3 w a b c d 0 0)
  generalize World.alloc (World.alloc (World.alloc w _) _) _ = w0 at HB ⊢
  have C := HB.out.cl
  simp only [Cl, and_true] at C
  obtain ⟨_, _, _, _, _, _, _, _, _, _, _, _⟩ := C
  go_wp2_with fail
  (with_reducible refine (most_c _ _ p (by rw [ea.out, ec.out]; exact hp.out) _).mono ?_); rintro e wv1 ⟨rfl, hb⟩
  replace HB := Aside0.mk (HB.out.step hb)
  clear hb
  have C := HB.out.cl
  simp only [Cl, and_true] at C
  obtain ⟨_, _, _, _, _, _, _, _, _, _, _, _⟩ := C
  go_wp2_with fail
  obtain ⟨R1, R2⟩ := HB.out.ret 2 rfl (by omega) (wrap32 p) (-1)
  refine bodyPost_ret (results_cell_row rfl _ _ (w.heap.size + 1 + 1) 51 #[.int .i32 (wrap32 p), .int .i32 (-1)] (0, 0) _ rfl R1 Try.underlying51 rfl (by kernel_rfl)) rfl ⟨rfl, R2⟩

set_option maxHeartbeats 4000000 in
set_option maxRecDepth 100000 in
theorem bit_or1p (a b c d m p q : Int) (ea : Aside0 (wrap64 a = a)) (eb : Aside0 (wrap64 b = b)) (ec : Aside0 (wrap64 c = c)) (ed : Aside0 (wrap64 d = d)) (h1 : decide (0 ≤ a) = true) (h2 : decide (0 ≤ c) = false) (h3 : decide (b < 0) = true) (h4 : decide (d < 0) = false) (w : World) : Calls Try.prog 73 #[.int .u8 12, .agg #[.int .i32 a, .int .i32 b], .agg #[.int .i32 c, .int .i32 d]] w fun e w' => e = .returned (.agg #[.int .i32 (-2147483648), .int .i32 2147483647]) ∧ Below w.heap.size w w' := by
  have hu51 := Try.underlying51
  go_enter Try.func73, Try.ntmps73
  go_upto_region 1 with (fail)
  have HB := Aside0.mk (Bx.start3 w a b c d 0 0)
  generalize World.alloc (World.alloc (World.alloc w _) _) _ = w0 at HB ⊢
  have C := HB.out.cl
  simp only [Cl, and_true] at C
  obtain ⟨_, _, _, _, _, _, _, _, _, _, _, _⟩ := C
  go_wp2_with fail
  (with_reducible refine (full_c _).mono ?_); rintro e wv1 ⟨rfl, hb⟩
  replace HB := Aside0.mk (HB.out.step hb)
  clear hb
  have C := HB.out.cl
  simp only [Cl, and_true] at C
  obtain ⟨_, _, _, _, _, _, _, _, _, _, _, _⟩ := C
  go_wp2_with fail
  obtain ⟨R1, R2⟩ := HB.out.ret 2 rfl (by omega) (-2147483648) 2147483647
  refine bodyPost_ret (results_cell_row rfl _ _ (w.heap.size + 1 + 1) 51 #[.int .i32 (-2147483648), .int .i32 2147483647] (0, 0) _ rfl R1 Try.underlying51 rfl (by kernel_rfl)) rfl ⟨rfl, R2⟩

set_option maxHeartbeats 4000000 in
set_option maxRecDepth 100000 in
theorem bit_or1f (a b c d m p q : Int) (ea : Aside0 (wrap64 a = a)) (eb : Aside0 (wrap64 b = b)) (ec : Aside0 (wrap64 c = c)) (ed : Aside0 (wrap64 d = d)) (h1 : decide (0 ≤ a) = true) (h2 : decide (0 ≤ c) = false) (h3 : decide (b < 0) = false) (w : World) : Calls Try.prog 73 #[.int .u8 12, .agg #[.int .i32 a, .int .i32 b], .agg #[.int .i32 c, .int .i32 d]] w fun e w' => e = .returned (.agg #[.int .i32 (-2147483648), .int .i32 2147483647]) ∧ Below w.heap.size w w' := by
  have hu51 := Try.underlying51
  go_enter Try.func73, Try.ntmps73
  go_upto_region 1 with (fail)
  have HB := Aside0.mk (Bx.start3 w a b c d 0 0)
  generalize World.alloc (World.alloc (World.alloc w _) _) _ = w0 at HB ⊢
  have C := HB.out.cl
  simp only [Cl, and_true] at C
  obtain ⟨_, _, _, _, _, _, _, _, _, _, _, _⟩ := C
  go_wp2_with fail
  (with_reducible refine (full_c _).mono ?_); rintro e wv1 ⟨rfl, hb⟩
  replace HB := Aside0.mk (HB.out.step hb)
  clear hb
  have C := HB.out.cl
  simp only [Cl, and_true] at C
  obtain ⟨_, _, _, _, _, _, _, _, _, _, _, _⟩ := C
  go_wp2_with fail
  obtain ⟨R1, R2⟩ := HB.out.ret 2 rfl (by omega) (-2147483648) 2147483647
  refine bodyPost_ret (results_cell_row rfl _ _ (w.heap.size + 1 + 1) 51 #[.int .i32 (-2147483648), .int .i32 2147483647] (0, 0) _ rfl R1 Try.underlying51 rfl (by kernel_rfl)) rfl ⟨rfl, R2⟩

set_option maxHeartbeats 4000000 in
set_option maxRecDepth 100000 in
theorem bit_xor1 (a b c d m p q : Int) (ea : Aside0 (wrap64 a = a)) (eb : Aside0 (wrap64 b = b)) (ec : Aside0 (wrap64 c = c)) (ed : Aside0 (wrap64 d = d)) (h1 : decide (0 ≤ a) = true) (h2 : decide (0 ≤ c) = false) (w : World) : Calls Try.prog 73 #[.int .u8 13, .agg #[.int .i32 a, .int .i32 b], .agg #[.int .i32 c, .int .i32 d]] w fun e w' => e = .returned (.agg #[.int .i32 (-2147483648), .int .i32 2147483647]) ∧ Below w.heap.size w w' := by
  have hu51 := Try.underlying51
  go_enter Try.func73, Try.ntmps73
  go_upto_region 1 with (fail)
  have HB := Aside0.mk (Bx.start3 w a b c d 0 0)
  generalize World.alloc (World.alloc (World.alloc w _) _) _ = w0 at HB ⊢
  have C := HB.out.cl
  simp only [Cl, and_true] at C
  obtain ⟨_, _, _, _, _, _, _, _, _, _, _, _⟩ := C
  go_wp2_with fail
  (with_reducible refine (full_c _).mono ?_); rintro e wv1 ⟨rfl, hb⟩
  replace HB := Aside0.mk (HB.out.step hb)
  clear hb
  have C := HB.out.cl
  simp only [Cl, and_true] at C
  obtain ⟨_, _, _, _, _, _, _, _, _, _, _, _⟩ := C
  go_wp2_with fail
  obtain ⟨R1, R2⟩ := HB.out.ret 2 rfl (by omega) (-2147483648) 2147483647
  refine bodyPost_ret (results_cell_row rfl _ _ (w.heap.size + 1 + 1) 51 #[.int .i32 (-2147483648), .int .i32 2147483647] (0, 0) _ rfl R1 Try.underlying51 rfl (by kernel_rfl)) rfl ⟨rfl, R2⟩

set_option maxHeartbeats 4000000 in
set_option maxRecDepth 100000 in
theorem bit_or2n (a b c d m p q : Int) (ea : Aside0 (wrap64 a = a)) (eb : Aside0 (wrap64 b = b)) (ec : Aside0 (wrap64 c = c)) (ed : Aside0 (wrap64 d = d)) (h1 : decide (0 ≤ a) = false) (h3 : decide (b < 0) = true) (h4 : decide (d < 0) = true) (hp : Aside0 (max a c = p)) (w : World) : Calls Try.prog 73 #[.int .u8 12, .agg #[.int .i32 a, .int .i32 b], .agg #[.int .i32 c, .int .i32 d]] w fun e w' => e = .returned (.agg #[.int .i32 (wrap32 p), .int .i32 (-1)]) ∧ Below w.heap.size w w' := by
  have hu51 := Try.underlying51
  go_enter Try.func73, Try.ntmps73
  go_upto_region 1 with (fail)
  have HB := Aside0.mk (Bx.start3 w a b c d 0 0)
  generalize World.alloc (World.alloc (World.alloc w _) _) _ = w0 at HB ⊢
  have C := HB.out.cl
  simp only [Cl, and_true] at C
  obtain ⟨_, _, _, _, _, _, _, _, _, _, _, _⟩ := C
  go_wp2_with fail
  (with_reducible refine (most_c _ _ p (by rw [ea.out, ec.out]; exact hp.out) _).mono ?_); rintro e wv1 ⟨rfl, hb⟩
  replace HB := Aside0.mk (HB.out.step hb)
  clear hb
  have C := HB.out.cl
  simp only [Cl, and_true] at C
  obtain ⟨_, _, _, _, _, _, _, _, _, _, _, _⟩ := C
  go_wp2_with fail
  obtain ⟨R1, R2⟩ := HB.out.ret 2 rfl (by omega) (wrap32 p) (-1)
  refine bodyPost_ret (results_cell_row rfl _ _ (w.heap.size + 1 + 1) 51 #[.int .i32 (wrap32 p), .int .i32 (-1)] (0, 0) _ rfl R1 Try.underlying51 rfl (by kernel_rfl)) rfl ⟨rfl, R2⟩

set_option maxHeartbeats 4000000 in
set_option maxRecDepth 100000 in
theorem bit_or2p (a b c d m p q : Int) (ea : Aside0 (wrap64 a = a)) (eb : Aside0 (wrap64 b = b)) (ec : Aside0 (wrap64 c = c)) (ed : Aside0 (wrap64 d = d)) (h1 : decide (0 ≤ a) = false) (h3 : decide (b < 0) = true) (h4 : decide (d < 0) = false) (w : World) : Calls Try.prog 73 #[.int .u8 12, .agg #[.int .i32 a, .int .i32 b], .agg #[.int .i32 c, .int .i32 d]] w fun e w' => e = .returned (.agg #[.int .i32 (-2147483648), .int .i32 2147483647]) ∧ Below w.heap.size w w' := by
  have hu51 := Try.underlying51
  go_enter Try.func73, Try.ntmps73
  go_upto_region 1 with (fail)
  have HB := Aside0.mk (Bx.start3 w a b c d 0 0)
  generalize World.alloc (World.alloc (World.alloc w _) _) _ = w0 at HB ⊢
  have C := HB.out.cl
  simp only [Cl, and_true] at C
  obtain ⟨_, _, _, _, _, _, _, _, _, _, _, _⟩ := C
  go_wp2_with fail
  (with_reducible refine (full_c _).mono ?_); rintro e wv1 ⟨rfl, hb⟩
  replace HB := Aside0.mk (HB.out.step hb)
  clear hb
  have C := HB.out.cl
  simp only [Cl, and_true] at C
  obtain ⟨_, _, _, _, _, _, _, _, _, _, _, _⟩ := C
  go_wp2_with fail
  obtain ⟨R1, R2⟩ := HB.out.ret 2 rfl (by omega) (-2147483648) 2147483647
  refine bodyPost_ret (results_cell_row rfl _ _ (w.heap.size + 1 + 1) 51 #[.int .i32 (-2147483648), .int .i32 2147483647] (0, 0) _ rfl R1 Try.underlying51 rfl (by kernel_rfl)) rfl ⟨rfl, R2⟩

set_option maxHeartbeats 4000000 in
set_option maxRecDepth 100000 in
theorem bit_or2f (a b c d m p q : Int) (ea : Aside0 (wrap64 a = a)) (eb : Aside0 (wrap64 b = b)) (ec : Aside0 (wrap64 c = c)) (ed : Aside0 (wrap64 d = d)) (h1 : decide (0 ≤ a) = false) (h3 : decide (b < 0) = false) (w : World) : Calls Try.prog 73 #[.int .u8 12, .agg #[.int .i32 a, .int .i32 b], .agg #[.int .i32 c, .int .i32 d]] w fun e w' => e = .returned (.agg #[.int .i32 (-2147483648), .int .i32 2147483647]) ∧ Below w.heap.size w w' := by
  have hu51 := Try.underlying51
  go_enter Try.func73, Try.ntmps73
  go_upto_region 1 with (fail)
  have HB := Aside0.mk (Bx.start3 w a b c d 0 0)
  generalize World.alloc (World.alloc (World.alloc w _) _) _ = w0 at HB ⊢
  have C := HB.out.cl
  simp only [Cl, and_true] at C
  obtain ⟨_, _, _, _, _, _, _, _, _, _, _, _⟩ := C
  go_wp2_with fail
  (with_reducible refine (full_c _).mono ?_); rintro e wv1 ⟨rfl, hb⟩
  replace HB := Aside0.mk (HB.out.step hb)
  clear hb
  have C := HB.out.cl
  simp only [Cl, and_true] at C
  obtain ⟨_, _, _, _, _, _, _, _, _, _, _, _⟩ := C
  go_wp2_with fail
  obtain ⟨R1, R2⟩ := HB.out.ret 2 rfl (by omega) (-2147483648) 2147483647
  refine bodyPost_ret (results_cell_row rfl _ _ (w.heap.size + 1 + 1) 51 #[.int .i32 (-2147483648), .int .i32 2147483647] (0, 0) _ rfl R1 Try.underlying51 rfl (by kernel_rfl)) rfl ⟨rfl, R2⟩

set_option maxHeartbeats 4000000 in
set_option maxRecDepth 100000 in
theorem bit_xor2 (a b c d m p q : Int) (ea : Aside0 (wrap64 a = a)) (eb : Aside0 (wrap64 b = b)) (ec : Aside0 (wrap64 c = c)) (ed : Aside0 (wrap64 d = d)) (h1 : decide (0 ≤ a) = false) (w : World) : Calls Try.prog 73 #[.int .u8 13, .agg #[.int .i32 a, .int .i32 b], .agg #[.int .i32 c, .int .i32 d]] w fun e w' => e = .returned (.agg #[.int .i32 (-2147483648), .int .i32 2147483647]) ∧ Below w.heap.size w w' := by
  have hu51 := Try.underlying51
  go_enter Try.func73, Try.ntmps73
  go_upto_region 1 with (fail)
  have HB := Aside0.mk (Bx.start3 w a b c d 0 0)
  generalize World.alloc (World.alloc (World.alloc w _) _) _ = w0 at HB ⊢
  have C := HB.out.cl
  simp only [Cl, and_true] at C
  obtain ⟨_, _, _, _, _, _, _, _, _, _, _, _⟩ := C
  go_wp2_with fail
  (with_reducible refine (full_c _).mono ?_); rintro e wv1 ⟨rfl, hb⟩
  replace HB := Aside0.mk (HB.out.step hb)
  clear hb
  have C := HB.out.cl
  simp only [Cl, and_true] at C
  obtain ⟨_, _, _, _, _, _, _, _, _, _, _, _⟩ := C
  go_wp2_with fail
  obtain ⟨R1, R2⟩ := HB.out.ret 2 rfl (by omega) (-2147483648) 2147483647
  refine bodyPost_ret (results_cell_row rfl _ _ (w.heap.size + 1 + 1) 51 #[.int .i32 (-2147483648), .int .i32 2147483647] (0, 0) _ rfl R1 Try.underlying51 rfl (by kernel_rfl)) rfl ⟨rfl, R2⟩

theorem and5_c (a b c d r s : Int) (ia : I32 a) (ib : I32 b) (ic : I32 c) (id : I32 d) (h : andv a b c d = (r, s)) (w : World) : Calls Try.prog 73 #[.int .u8 11, .agg #[.int .i32 a, .int .i32 b], .agg #[.int .i32 c, .int .i32 d]] w fun e w' => e = .returned (.agg #[.int .i32 r, .int .i32 s]) ∧ Below w.heap.size w w' := by
  unfold andv at h
  have ba := ia; have bb := ib; have bc := ic; have bd := id
  unfold I32 at ba bb bc bd
  have ea := Aside0.mk (w64 (x := a) (by omega)); have eb := Aside0.mk (w64 (x := b) (by omega)); have ec := Aside0.mk (w64 (x := c) (by omega)); have ed := Aside0.mk (w64 (x := d) (by omega))
  have im : I32 (max b d) := by unfold I32; omega
  have ip : I32 (max a c) := by unfold I32; omega
  have iq : I32 (min b d) := by unfold I32; omega
  by_cases h1 : 0 ≤ a <;> by_cases h2 : 0 ≤ c <;> simp only [h1, h2, and_self, and_true, true_and, and_false, false_and, if_true, if_false] at h
  · obtain ⟨rfl, rfl⟩ := Prod.mk.inj h
    refine (bit_and a b c d _ _ 0 ea eb ec ed (decide_eq_true h1) (decide_eq_true h2) ⟨rfl⟩ ⟨w32 im⟩ ⟨rfl⟩ w).mono fun e w' ⟨he, hb⟩ => ⟨?_, hb⟩
    rw [he, w32 iq]
  · obtain ⟨rfl, rfl⟩ := Prod.mk.inj h
    exact bit_and1 a b c d 0 0 0 ea eb ec ed (decide_eq_true h1) (decide_eq_false h2) w
  · obtain ⟨rfl, rfl⟩ := Prod.mk.inj h
    exact bit_and2 a b c d 0 0 0 ea eb ec ed (decide_eq_false h1) (decide_eq_true h2) w
  · obtain ⟨rfl, rfl⟩ := Prod.mk.inj h
    exact bit_and3 a b c d 0 0 0 ea eb ec ed (decide_eq_false h1) (decide_eq_false h2) w

theorem xor5_c (a b c d r s : Int) (ia : I32 a) (ib : I32 b) (ic : I32 c) (id : I32 d) (h : xorv a b c d = (r, s)) (w : World) : Calls Try.prog 73 #[.int .u8 13, .agg #[.int .i32 a, .int .i32 b], .agg #[.int .i32 c, .int .i32 d]] w fun e w' => e = .returned (.agg #[.int .i32 r, .int .i32 s]) ∧ Below w.heap.size w w' := by
  unfold xorv at h
  have ba := ia; have bb := ib; have bc := ic; have bd := id
  unfold I32 at ba bb bc bd
  have ea := Aside0.mk (w64 (x := a) (by omega)); have eb := Aside0.mk (w64 (x := b) (by omega)); have ec := Aside0.mk (w64 (x := c) (by omega)); have ed := Aside0.mk (w64 (x := d) (by omega))
  have im : I32 (max b d) := by unfold I32; omega
  have ip : I32 (max a c) := by unfold I32; omega
  have iq : I32 (min b d) := by unfold I32; omega
  by_cases h1 : 0 ≤ a <;> by_cases h2 : 0 ≤ c <;> simp only [h1, h2, and_self, and_true, true_and, and_false, false_and, if_true, if_false] at h
  · obtain ⟨rfl, rfl⟩ := Prod.mk.inj h
    exact bit_xor a b c d _ 0 _ ea eb ec ed (decide_eq_true h1) (decide_eq_true h2) ⟨rfl⟩ ⟨w32 im⟩ ⟨im⟩ ⟨rfl⟩ w
  · obtain ⟨rfl, rfl⟩ := Prod.mk.inj h
    exact bit_xor1 a b c d 0 0 0 ea eb ec ed (decide_eq_true h1) (decide_eq_false h2) w
  all_goals
    obtain ⟨rfl, rfl⟩ := Prod.mk.inj h
    exact bit_xor2 a b c d 0 0 0 ea eb ec ed (decide_eq_false h1) w

theorem or5_c (a b c d r s : Int) (ia : I32 a) (ib : I32 b) (ic : I32 c) (id : I32 d) (h : orv a b c d = (r, s)) (w : World) : Calls Try.prog 73 #[.int .u8 12, .agg #[.int .i32 a, .int .i32 b], .agg #[.int .i32 c, .int .i32 d]] w fun e w' => e = .returned (.agg #[.int .i32 r, .int .i32 s]) ∧ Below w.heap.size w w' := by
  unfold orv at h
  have ba := ia; have bb := ib; have bc := ic; have bd := id
  unfold I32 at ba bb bc bd
  have ea := Aside0.mk (w64 (x := a) (by omega)); have eb := Aside0.mk (w64 (x := b) (by omega)); have ec := Aside0.mk (w64 (x := c) (by omega)); have ed := Aside0.mk (w64 (x := d) (by omega))
  have im : I32 (max b d) := by unfold I32; omega
  have ip : I32 (max a c) := by unfold I32; omega
  have iq : I32 (min b d) := by unfold I32; omega
  by_cases h1 : 0 ≤ a <;> by_cases h2 : 0 ≤ c <;> simp only [h1, h2, and_self, and_true, true_and, and_false, false_and, if_true, if_false] at h
  · obtain ⟨rfl, rfl⟩ := Prod.mk.inj h
    refine (bit_or a b c d _ _ _ ea eb ec ed (decide_eq_true h1) (decide_eq_true h2) ⟨rfl⟩ ⟨w32 im⟩ ⟨im⟩ ⟨rfl⟩ ⟨rfl⟩ w).mono fun e w' ⟨he, hb⟩ => ⟨?_, hb⟩
    rw [he, w32 ip]
  · by_cases h3 : b < 0
    · by_cases h4 : d < 0
      · simp only [h3, h4, and_self, if_true] at h
        obtain ⟨rfl, rfl⟩ := Prod.mk.inj h
        refine (bit_or1n a b c d 0 _ 0 ea eb ec ed (decide_eq_true h1) (decide_eq_false h2) (decide_eq_true h3) (decide_eq_true h4) ⟨rfl⟩ w).mono fun e w' ⟨he, hb⟩ => ⟨?_, hb⟩
        rw [he, w32 ip]
      · simp only [h3, h4, and_false, if_false] at h
        obtain ⟨rfl, rfl⟩ := Prod.mk.inj h
        exact bit_or1p a b c d 0 0 0 ea eb ec ed (decide_eq_true h1) (decide_eq_false h2) (decide_eq_true h3) (decide_eq_false h4) w
    · simp only [h3, false_and, if_false] at h
      obtain ⟨rfl, rfl⟩ := Prod.mk.inj h
      exact bit_or1f a b c d 0 0 0 ea eb ec ed (decide_eq_true h1) (decide_eq_false h2) (decide_eq_false h3) w
  · by_cases h3 : b < 0
    · by_cases h4 : d < 0
      · simp only [h3, h4, and_self, if_true] at h
        obtain ⟨rfl, rfl⟩ := Prod.mk.inj h
        refine (bit_or2n a b c d 0 _ 0 ea eb ec ed (decide_eq_false h1) (decide_eq_true h3) (decide_eq_true h4) ⟨rfl⟩ w).mono fun e w' ⟨he, hb⟩ => ⟨?_, hb⟩
        rw [he, w32 ip]
      · simp only [h3, h4, and_false, if_false] at h
        obtain ⟨rfl, rfl⟩ := Prod.mk.inj h
        exact bit_or2p a b c d 0 0 0 ea eb ec ed (decide_eq_false h1) (decide_eq_true h3) (decide_eq_false h4) w
    · simp only [h3, false_and, if_false] at h
      obtain ⟨rfl, rfl⟩ := Prod.mk.inj h
      exact bit_or2f a b c d 0 0 0 ea eb ec ed (decide_eq_false h1) (decide_eq_false h3) w
  · by_cases h3 : b < 0
    · by_cases h4 : d < 0
      · simp only [h3, h4, and_self, if_true] at h
        obtain ⟨rfl, rfl⟩ := Prod.mk.inj h
        refine (bit_or2n a b c d 0 _ 0 ea eb ec ed (decide_eq_false h1) (decide_eq_true h3) (decide_eq_true h4) ⟨rfl⟩ w).mono fun e w' ⟨he, hb⟩ => ⟨?_, hb⟩
        rw [he, w32 ip]
      · simp only [h3, h4, and_false, if_false] at h
        obtain ⟨rfl, rfl⟩ := Prod.mk.inj h
        exact bit_or2p a b c d 0 0 0 ea eb ec ed (decide_eq_false h1) (decide_eq_true h3) (decide_eq_false h4) w
    · simp only [h3, false_and, if_false] at h
      obtain ⟨rfl, rfl⟩ := Prod.mk.inj h
      exact bit_or2f a b c d 0 0 0 ea eb ec ed (decide_eq_false h1) (decide_eq_false h3) w

end Go.Proofs.Ytoalomjmmlnclaa.Ivl5
