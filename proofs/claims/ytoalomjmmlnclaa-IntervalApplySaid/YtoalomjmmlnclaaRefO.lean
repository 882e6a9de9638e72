/- The reference of chapter 27: what its shifts answer, in the plain functions' words. -/
import Derived.Test.YtoalomjmmlnclaaRefK
import Derived.Test.YtoalomjmmlnclaaRefM
namespace Go.Proofs.Ytoalomjmmlnclaa.Ivl5
open Go.RowKit Go.Proofs.Ytoalomjmmlnclaa.PIntervalApply Go.Proofs.YtoalomjmmlnclaaW.PrintWords Go.Proofs.YtoalomjmmlnclaaW.PrintLast
open Go.Proofs.Ytoalomjmmlnclaa.M
open List renaming setIfInBounds_toArray → zA, set_cons_zero → zB, set_cons_succ → zC
attribute [local go_sem] max2_int min2_int max_two min_two max_three min_three max_four min_four
set_option linter.unusedVariables false
set_option linter.unusedSimpArgs false

set_option maxHeartbeats 4000000 in
set_option maxRecDepth 100000 in
theorem right_one (a b c d r s : Int) (hs : Aside0 ((c == d) = true)) (ia : Aside0 (I32 a)) (ib : Aside0 (I32 b)) (ic : Aside0 (I32 c)) (hr : Aside0 (wv 15 a c = (r, 0))) (hq : Aside0 (wv 15 b c = (s, 0))) (w : World) : Calls Try.prog 74 #[.int .u8 15, .agg #[.int .i32 a, .int .i32 b], .agg #[.int .i32 c, .int .i32 d]] w fun e w' => e = .returned (.agg #[.int .i32 r, .int .i32 s]) ∧ Below w.heap.size w w' := by
  have hu51 := Try.underlying51
  go_enter Try.func74, Try.ntmps74
  go_upto_region 1 with (fail)
  have HB := Aside0.mk (Bx.start3 w a b c d 0 0)
  generalize World.alloc (World.alloc (World.alloc w _) _) _ = w0 at HB ⊢
  have C := HB.out.cl
  simp only [Cl, and_true] at C
  obtain ⟨_, _, _, _, _, _, _, _, _, _, _, _⟩ := C
  go_wp2_with fail
  (with_reducible refine (single_c _ _ _ hs.out _).mono ?_); rintro e wv1 ⟨rfl, hb⟩
  replace HB := Aside0.mk (HB.out.step hb)
  clear hb
  have C := HB.out.cl
  simp only [Cl, and_true] at C
  obtain ⟨_, _, _, _, _, _, _, _, _, _, _, _⟩ := C
  go_wp2_with fail
  (with_reducible refine (word_c 15 _ _ _ _ (by decide) (by decide) ia.out ic.out hr.out _).mono ?_); rintro e wv2 ⟨rfl, hb⟩
  replace HB := Aside0.mk (HB.out.step hb)
  clear hb
  have C := HB.out.cl
  simp only [Cl, and_true] at C
  obtain ⟨_, _, _, _, _, _, _, _, _, _, _, _⟩ := C
  go_wp2_with fail
  (with_reducible refine (word_c 15 _ _ _ _ (by decide) (by decide) ib.out ic.out hq.out _).mono ?_); rintro e wv3 ⟨rfl, hb⟩
  replace HB := Aside0.mk (HB.out.step hb)
  clear hb
  have C := HB.out.cl
  simp only [Cl, and_true] at C
  obtain ⟨_, _, _, _, _, _, _, _, _, _, _, _⟩ := C
  go_wp2_with fail
  obtain ⟨R1, R2⟩ := HB.out.ret 2 rfl (by omega) r s
  refine bodyPost_ret (results_cell_row rfl _ _ (w.heap.size + 1 + 1) 51 #[.int .i32 r, .int .i32 s] (0, 0) _ rfl R1 Try.underlying51 rfl (by kernel_rfl)) rfl ⟨rfl, R2⟩

set_option maxHeartbeats 4000000 in
set_option maxRecDepth 100000 in
theorem right_zm (a b c d : Int) (hs : Aside0 ((c == d) = false)) (h1 : decide (0 ≤ a) = true) (h2 : decide (b < 0) = true) (w : World) : Calls Try.prog 74 #[.int .u8 15, .agg #[.int .i32 a, .int .i32 b], .agg #[.int .i32 c, .int .i32 d]] w fun e w' => e = .returned (.agg #[.int .i32 0, .int .i32 (-1)]) ∧ Below w.heap.size w w' := by
  have hu51 := Try.underlying51
  go_enter Try.func74, Try.ntmps74
  go_upto_region 1 with (fail)
  have HB := Aside0.mk (Bx.start3 w a b c d 0 0)
  generalize World.alloc (World.alloc (World.alloc w _) _) _ = w0 at HB ⊢
  have C := HB.out.cl
  simp only [Cl, and_true] at C
  obtain ⟨_, _, _, _, _, _, _, _, _, _, _, _⟩ := C
  go_wp2_with fail
  (with_reducible refine (single_c _ _ _ hs.out _).mono ?_); rintro e wv1 ⟨rfl, hb⟩
  replace HB := Aside0.mk (HB.out.step hb)
  clear hb
  have C := HB.out.cl
  simp only [Cl, and_true] at C
  obtain ⟨_, _, _, _, _, _, _, _, _, _, _, _⟩ := C
  go_upto_region 7 with (fail)
  have hlgO_0 := blk_lt (HB.out.bk 0 rfl)
  have hlgO_1 := blk_lt (HB.out.bk 1 rfl)
  have hlgO_2 := blk_lt (HB.out.bk 2 rfl)
  replace HB := Aside0.mk (show Bx w [(w.heap.size, a, b), (w.heap.size + 1, c, d), (w.heap.size + 1 + 1, 0, 0), (wv1.heap.size, a, b)] _ from HB.out.box rfl a b)
  generalize World.alloc wv1 _ = wv2 at HB ⊢
  generalize wv1.heap.size = gO at HB hlgO_0 hlgO_1 hlgO_2 ⊢
  have C := HB.out.cl
  simp only [Cl, and_true] at C
  obtain ⟨_, _, _, _, _, _, _, _, _, _, _, _, _, _, _, _⟩ := C
  go_upto_region 9 with (fail)
  replace HB := Aside0.mk (show Bx w [(w.heap.size, a, b), (w.heap.size + 1, c, d), (w.heap.size + 1 + 1, 0, 0), (gO, 0, b)] _ from HB.out.put0 3 rfl (by intro m g' a' b' hm hne; rcases m with _ | _ | _ | _ | m <;> simp at hm <;> omega) (by omega) 0)
  generalize World.setCell wv2 _ _ = wv3 at HB ⊢
  have C := HB.out.cl
  simp only [Cl, and_true] at C
  obtain ⟨_, _, _, _, _, _, _, _, _, _, _, _, _, _, _, _⟩ := C
  go_upto_region 11 with (fail)
  replace HB := Aside0.mk (show Bx w [(w.heap.size, a, b), (w.heap.size + 1, c, d), (w.heap.size + 1 + 1, 0, 0), (gO, 0, (-1))] _ from HB.out.put1 3 rfl (by intro m g' a' b' hm hne; rcases m with _ | _ | _ | _ | m <;> simp at hm <;> omega) (by omega) (-1))
  generalize World.setCell wv3 _ _ = wv4 at HB ⊢
  have C := HB.out.cl
  simp only [Cl, and_true] at C
  obtain ⟨_, _, _, _, _, _, _, _, _, _, _, _, _, _, _, _⟩ := C
  go_wp2_with fail
  obtain ⟨R1, R2⟩ := HB.out.ret 2 rfl (by omega) 0 (-1)
  refine bodyPost_ret (results_cell_row rfl _ _ (w.heap.size + 1 + 1) 51 #[.int .i32 0, .int .i32 (-1)] (0, 0) _ rfl R1 Try.underlying51 rfl (by kernel_rfl)) rfl ⟨rfl, R2⟩

set_option maxHeartbeats 4000000 in
set_option maxRecDepth 100000 in
theorem right_zp (a b c d : Int) (hs : Aside0 ((c == d) = false)) (h1 : decide (0 ≤ a) = true) (h2 : decide (b < 0) = false) (w : World) : Calls Try.prog 74 #[.int .u8 15, .agg #[.int .i32 a, .int .i32 b], .agg #[.int .i32 c, .int .i32 d]] w fun e w' => e = .returned (.agg #[.int .i32 0, .int .i32 b]) ∧ Below w.heap.size w w' := by
  have hu51 := Try.underlying51
  go_enter Try.func74, Try.ntmps74
  go_upto_region 1 with (fail)
  have HB := Aside0.mk (Bx.start3 w a b c d 0 0)
  generalize World.alloc (World.alloc (World.alloc w _) _) _ = w0 at HB ⊢
  have C := HB.out.cl
  simp only [Cl, and_true] at C
  obtain ⟨_, _, _, _, _, _, _, _, _, _, _, _⟩ := C
  go_wp2_with fail
  (with_reducible refine (single_c _ _ _ hs.out _).mono ?_); rintro e wv1 ⟨rfl, hb⟩
  replace HB := Aside0.mk (HB.out.step hb)
  clear hb
  have C := HB.out.cl
  simp only [Cl, and_true] at C
  obtain ⟨_, _, _, _, _, _, _, _, _, _, _, _⟩ := C
  go_upto_region 7 with (fail)
  have hlgO_0 := blk_lt (HB.out.bk 0 rfl)
  have hlgO_1 := blk_lt (HB.out.bk 1 rfl)
  have hlgO_2 := blk_lt (HB.out.bk 2 rfl)
  replace HB := Aside0.mk (show Bx w [(w.heap.size, a, b), (w.heap.size + 1, c, d), (w.heap.size + 1 + 1, 0, 0), (wv1.heap.size, a, b)] _ from HB.out.box rfl a b)
  generalize World.alloc wv1 _ = wv2 at HB ⊢
  generalize wv1.heap.size = gO at HB hlgO_0 hlgO_1 hlgO_2 ⊢
  have C := HB.out.cl
  simp only [Cl, and_true] at C
  obtain ⟨_, _, _, _, _, _, _, _, _, _, _, _, _, _, _, _⟩ := C
  go_upto_region 9 with (fail)
  replace HB := Aside0.mk (show Bx w [(w.heap.size, a, b), (w.heap.size + 1, c, d), (w.heap.size + 1 + 1, 0, 0), (gO, 0, b)] _ from HB.out.put0 3 rfl (by intro m g' a' b' hm hne; rcases m with _ | _ | _ | _ | m <;> simp at hm <;> omega) (by omega) 0)
  generalize World.setCell wv2 _ _ = wv3 at HB ⊢
  have C := HB.out.cl
  simp only [Cl, and_true] at C
  obtain ⟨_, _, _, _, _, _, _, _, _, _, _, _, _, _, _, _⟩ := C
  go_wp2_with fail
  obtain ⟨R1, R2⟩ := HB.out.ret 2 rfl (by omega) 0 b
  refine bodyPost_ret (results_cell_row rfl _ _ (w.heap.size + 1 + 1) 51 #[.int .i32 0, .int .i32 b] (0, 0) _ rfl R1 Try.underlying51 rfl (by kernel_rfl)) rfl ⟨rfl, R2⟩

set_option maxHeartbeats 4000000 in
set_option maxRecDepth 100000 in
theorem right_nm (a b c d : Int) (hs : Aside0 ((c == d) = false)) (h1 : decide (0 ≤ a) = false) (h2 : decide (b < 0) = true) (w : World) : Calls Try.prog 74 #[.int .u8 15, .agg #[.int .i32 a, .int .i32 b], .agg #[.int .i32 c, .int .i32 d]] w fun e w' => e = .returned (.agg #[.int .i32 a, .int .i32 (-1)]) ∧ Below w.heap.size w w' := by
  have hu51 := Try.underlying51
  go_enter Try.func74, Try.ntmps74
  go_upto_region 1 with (fail)
  have HB := Aside0.mk (Bx.start3 w a b c d 0 0)
  generalize World.alloc (World.alloc (World.alloc w _) _) _ = w0 at HB ⊢
  have C := HB.out.cl
  simp only [Cl, and_true] at C
  obtain ⟨_, _, _, _, _, _, _, _, _, _, _, _⟩ := C
  go_wp2_with fail
  (with_reducible refine (single_c _ _ _ hs.out _).mono ?_); rintro e wv1 ⟨rfl, hb⟩
  replace HB := Aside0.mk (HB.out.step hb)
  clear hb
  have C := HB.out.cl
  simp only [Cl, and_true] at C
  obtain ⟨_, _, _, _, _, _, _, _, _, _, _, _⟩ := C
  go_upto_region 7 with (fail)
  have hlgO_0 := blk_lt (HB.out.bk 0 rfl)
  have hlgO_1 := blk_lt (HB.out.bk 1 rfl)
  have hlgO_2 := blk_lt (HB.out.bk 2 rfl)
  replace HB := Aside0.mk (show Bx w [(w.heap.size, a, b), (w.heap.size + 1, c, d), (w.heap.size + 1 + 1, 0, 0), (wv1.heap.size, a, b)] _ from HB.out.box rfl a b)
  generalize World.alloc wv1 _ = wv2 at HB ⊢
  generalize wv1.heap.size = gO at HB hlgO_0 hlgO_1 hlgO_2 ⊢
  have C := HB.out.cl
  simp only [Cl, and_true] at C
  obtain ⟨_, _, _, _, _, _, _, _, _, _, _, _, _, _, _, _⟩ := C
  go_upto_region 11 with (fail)
  replace HB := Aside0.mk (show Bx w [(w.heap.size, a, b), (w.heap.size + 1, c, d), (w.heap.size + 1 + 1, 0, 0), (gO, a, (-1))] _ from HB.out.put1 3 rfl (by intro m g' a' b' hm hne; rcases m with _ | _ | _ | _ | m <;> simp at hm <;> omega) (by omega) (-1))
  generalize World.setCell wv2 _ _ = wv3 at HB ⊢
  have C := HB.out.cl
  simp only [Cl, and_true] at C
  obtain ⟨_, _, _, _, _, _, _, _, _, _, _, _, _, _, _, _⟩ := C
  go_wp2_with fail
  obtain ⟨R1, R2⟩ := HB.out.ret 2 rfl (by omega) a (-1)
  refine bodyPost_ret (results_cell_row rfl _ _ (w.heap.size + 1 + 1) 51 #[.int .i32 a, .int .i32 (-1)] (0, 0) _ rfl R1 Try.underlying51 rfl (by kernel_rfl)) rfl ⟨rfl, R2⟩

set_option maxHeartbeats 4000000 in
set_option maxRecDepth 100000 in
theorem right_np (a b c d : Int) (hs : Aside0 ((c == d) = false)) (h1 : decide (0 ≤ a) = false) (h2 : decide (b < 0) = false) (w : World) : Calls Try.prog 74 #[.int .u8 15, .agg #[.int .i32 a, .int .i32 b], .agg #[.int .i32 c, .int .i32 d]] w fun e w' => e = .returned (.agg #[.int .i32 a, .int .i32 b]) ∧ Below w.heap.size w w' := by
  have hu51 := Try.underlying51
  go_enter Try.func74, Try.ntmps74
  go_upto_region 1 with (fail)
  have HB := Aside0.mk (Bx.start3 w a b c d 0 0)
  generalize World.alloc (World.alloc (World.alloc w _) _) _ = w0 at HB ⊢
  have C := HB.out.cl
  simp only [Cl, and_true] at C
  obtain ⟨_, _, _, _, _, _, _, _, _, _, _, _⟩ := C
  go_wp2_with fail
  (with_reducible refine (single_c _ _ _ hs.out _).mono ?_); rintro e wv1 ⟨rfl, hb⟩
  replace HB := Aside0.mk (HB.out.step hb)
  clear hb
  have C := HB.out.cl
  simp only [Cl, and_true] at C
  obtain ⟨_, _, _, _, _, _, _, _, _, _, _, _⟩ := C
  go_upto_region 7 with (fail)
  have hlgO_0 := blk_lt (HB.out.bk 0 rfl)
  have hlgO_1 := blk_lt (HB.out.bk 1 rfl)
  have hlgO_2 := blk_lt (HB.out.bk 2 rfl)
  replace HB := Aside0.mk (show Bx w [(w.heap.size, a, b), (w.heap.size + 1, c, d), (w.heap.size + 1 + 1, 0, 0), (wv1.heap.size, a, b)] _ from HB.out.box rfl a b)
  generalize World.alloc wv1 _ = wv2 at HB ⊢
  generalize wv1.heap.size = gO at HB hlgO_0 hlgO_1 hlgO_2 ⊢
  have C := HB.out.cl
  simp only [Cl, and_true] at C
  obtain ⟨_, _, _, _, _, _, _, _, _, _, _, _, _, _, _, _⟩ := C
  go_wp2_with fail
  obtain ⟨R1, R2⟩ := HB.out.ret 2 rfl (by omega) a b
  refine bodyPost_ret (results_cell_row rfl _ _ (w.heap.size + 1 + 1) 51 #[.int .i32 a, .int .i32 b] (0, 0) _ rfl R1 Try.underlying51 rfl (by kernel_rfl)) rfl ⟨rfl, R2⟩

set_option maxHeartbeats 4000000 in
set_option maxRecDepth 100000 in
theorem left_more (a b c d : Int) (hs : Aside0 ((c == d) = false)) (w : World) : Calls Try.prog 74 #[.int .u8 14, .agg #[.int .i32 a, .int .i32 b], .agg #[.int .i32 c, .int .i32 d]] w fun e w' => e = .returned (.agg #[.int .i32 (-2147483648), .int .i32 2147483647]) ∧ Below w.heap.size w w' := by
  have hu51 := Try.underlying51
  go_enter Try.func74, Try.ntmps74
  go_upto_region 1 with (fail)
  have HB := Aside0.mk (Bx.start3 w a b c d 0 0)
  generalize World.alloc (World.alloc (World.alloc w _) _) _ = w0 at HB ⊢
  have C := HB.out.cl
  simp only [Cl, and_true] at C
  obtain ⟨_, _, _, _, _, _, _, _, _, _, _, _⟩ := C
  go_wp2_with fail
  (with_reducible refine (single_c _ _ _ hs.out _).mono ?_); rintro e wv1 ⟨rfl, hb⟩
  replace HB := Aside0.mk (HB.out.step hb)
  clear hb
  have C := HB.out.cl
  simp only [Cl, and_true] at C
  obtain ⟨_, _, _, _, _, _, _, _, _, _, _, _⟩ := C
  go_wp2_with fail
  (with_reducible refine (single_c _ _ _ hs.out _).mono ?_); rintro e wv2 ⟨rfl, hb⟩
  replace HB := Aside0.mk (HB.out.step hb)
  clear hb
  have C := HB.out.cl
  simp only [Cl, and_true] at C
  obtain ⟨_, _, _, _, _, _, _, _, _, _, _, _⟩ := C
  go_wp2_with fail
  (with_reducible refine (full_c _).mono ?_); rintro e wv3 ⟨rfl, hb⟩
  replace HB := Aside0.mk (HB.out.step hb)
  clear hb
  have C := HB.out.cl
  simp only [Cl, and_true] at C
  obtain ⟨_, _, _, _, _, _, _, _, _, _, _, _⟩ := C
  go_wp2_with fail
  obtain ⟨R1, R2⟩ := HB.out.ret 2 rfl (by omega) (-2147483648) 2147483647
  refine bodyPost_ret (results_cell_row rfl _ _ (w.heap.size + 1 + 1) 51 #[.int .i32 (-2147483648), .int .i32 2147483647] (0, 0) _ rfl R1 Try.underlying51 rfl (by kernel_rfl)) rfl ⟨rfl, R2⟩

set_option maxHeartbeats 4000000 in
set_option maxRecDepth 100000 in
theorem left_one (a b c d r s : Int) (hs : Aside0 ((c == d) = true)) (ht : Aside0 ((Int.tmod (wrap64 c) 32 < 0 ∧ wrap64 (Int.tmod (wrap64 c) 32 + 32) = c % 32) ∨ (¬ Int.tmod (wrap64 c) 32 < 0 ∧ Int.tmod (wrap64 c) 32 = c % 32))) (h : Aside0 (hull2 (wrap64 (wrap64 a * 2 ^ (c % 32).toNat)) (wrap64 (wrap64 b * 2 ^ (c % 32).toNat)) = (r, s))) (w : World) : Calls Try.prog 74 #[.int .u8 14, .agg #[.int .i32 a, .int .i32 b], .agg #[.int .i32 c, .int .i32 d]] w fun e w' => e = .returned (.agg #[.int .i32 r, .int .i32 s]) ∧ Below w.heap.size w w' := by
  have hu51 := Try.underlying51
  go_enter Try.func74, Try.ntmps74
  go_upto_region 1 with (fail)
  have HB := Aside0.mk (Bx.start3 w a b c d 0 0)
  generalize World.alloc (World.alloc (World.alloc w _) _) _ = w0 at HB ⊢
  have C := HB.out.cl
  simp only [Cl, and_true] at C
  obtain ⟨_, _, _, _, _, _, _, _, _, _, _, _⟩ := C
  go_wp2_with fail
  (with_reducible refine (single_c _ _ _ hs.out _).mono ?_); rintro e wv1 ⟨rfl, hb⟩
  replace HB := Aside0.mk (HB.out.step hb)
  clear hb
  have C := HB.out.cl
  simp only [Cl, and_true] at C
  obtain ⟨_, _, _, _, _, _, _, _, _, _, _, _⟩ := C
  go_wp2_with fail
  (with_reducible refine (single_c _ _ _ hs.out _).mono ?_); rintro e wv2 ⟨rfl, hb⟩
  replace HB := Aside0.mk (HB.out.step hb)
  clear hb
  have C := HB.out.cl
  simp only [Cl, and_true] at C
  obtain ⟨_, _, _, _, _, _, _, _, _, _, _, _⟩ := C
  go_upto_if 63 with (fail)
  go_cut [12] (fun v wc => v = .int .i64 (c % 32) ∧ Aside0 (Bx w [(w.heap.size, a, b), (w.heap.size + 1, c, d), (w.heap.size + 1 + 1, 0, 0)] wc))
  case first =>
    rcases ht.out with ⟨h1, h2⟩ | ⟨h1, h2⟩
    · have hd : decide ((wrap64 c).tmod 32 < 0) = true := decide_eq_true (by omega)
      have hq := Aside0.mk h2
      clear h2
      go_wp2_with fail
      go_meet
      case rel => exact ⟨congrArg (Value.int .i64) hq.out, HB⟩
    · have hd : decide ((wrap64 c).tmod 32 < 0) = false := decide_eq_false (by omega)
      have hq := Aside0.mk h2
      clear h2
      have h3 : ¬ (wrap64 c).tmod 32 < 0 := by omega
      go_wp2_with fail
      go_meet
      case rel => exact ⟨congrArg (Value.int .i64) hq.out, HB⟩
  case rest =>
    clear HB
    obtain ⟨rfl, HB⟩ := hcut
    have C := HB.out.cl
    simp only [Cl, and_true] at C
    obtain ⟨_, _, _, _, _, _, _, _, _, _, _, _⟩ := C
    go_wp2_with fail
    go_loopg [13, 14] (c % 32).toNat (fun kq v13 v14 w' => ∃ i : Nat, i + kq = (c % 32).toNat ∧ v13 = .int .i64 (2 ^ i) ∧ v14 = .int .i64 (i : Int) ∧ Aside0 (Bx w [(w.heap.size, a, b), (w.heap.size + 1, c, d), (w.heap.size + 1 + 1, 0, 0)] w'))
    case atStart => exact ⟨0, by simp, rfl, rfl, HB⟩
    case round =>
      clear HB
      obtain ⟨i, hi, rfl, rfl, HB⟩ := hrel
      have C := HB.out.cl
      simp only [Cl, and_true] at C
      obtain ⟨_, _, _, _, _, _, _, _, _, _, _, _⟩ := C
      by_cases hk : i < (c % 32).toNat
      · have hd : decide ((i : Int) < c % 32) = true := decide_eq_true (by omega)
        have hi0 : (0 : Int) ≤ i := by omega
        have hp := Aside0.mk (show wrap64 (2 * 2 ^ i) = (2 : Int) ^ (i + 1) from by have h := pow_bound (i : Int) (by omega) (by omega); rw [Int.toNat_natCast] at h; rw [Int.pow_succ]; generalize (2 : Int) ^ i = q at h ⊢; unfold wrap64; omega)
        have hi32 : (i : Int) < 32 := by omega
        have hkk := Aside0.mk hk
        clear hk
        go_wp2_with fail
        go_roundg ((c % 32).toNat - 1 - i)
        case measure => have := hkk.out; omega
        case rel => exact ⟨i + 1, by have := hkk.out; omega, congrArg (Value.int .i64) hp.out, by simp, HB⟩
      · have hd : decide ((i : Int) < c % 32) = false := decide_eq_false (by omega)
        have hI : i = (c % 32).toNat := by omega
        have hh : hull2 (wrap64 (wrap64 a * 2 ^ i)) (wrap64 (wrap64 b * 2 ^ i)) = (r, s) := by rw [hI]; exact h.out
        have HH := Aside0.mk hh
        clear hh hI hk
        go_wp2_with fail
        refine (hull2_c _ _ r s HH.out _ wr.heap.size ((blk_cell (blk_new _ _) 0).trans rfl) ((blk_cell (blk_new _ _) 1).trans rfl)).mono ?_; rintro e w' ⟨rfl, hb⟩
        replace HB := Aside0.mk ((HB.out.alloc _).step hb)
        clear hb
        have C := HB.out.cl
        simp only [Cl, and_true] at C
        obtain ⟨_, _, _, _, _, _, _, _, _, _, _, _⟩ := C
        go_wp2_with fail
        obtain ⟨R1, R2⟩ := HB.out.ret 2 rfl (by omega) r s
        refine bodyPost_ret (results_cell_row rfl _ _ (w.heap.size + 1 + 1) 51 #[.int .i32 r, .int .i32 s] (0, 0) _ rfl R1 Try.underlying51 rfl (by kernel_rfl)) rfl ⟨rfl, R2⟩

theorem right5_c (a b c d r s : Int) (ia : I32 a) (ib : I32 b) (ic : I32 c) (id : I32 d) (h : rightv a b c d = (r, s)) (w : World) : Calls Try.prog 74 #[.int .u8 15, .agg #[.int .i32 a, .int .i32 b], .agg #[.int .i32 c, .int .i32 d]] w fun e w' => e = .returned (.agg #[.int .i32 r, .int .i32 s]) ∧ Below w.heap.size w w' := by
  unfold rightv at h
  by_cases e : c = d
  · rw [if_pos e] at h
    obtain ⟨rfl, rfl⟩ := Prod.mk.inj h
    exact right_one a b c d _ _ ⟨beq_iff_eq.mpr e⟩ ⟨ia⟩ ⟨ib⟩ ⟨ic⟩ ⟨rfl⟩ ⟨rfl⟩ w
  · rw [if_neg e] at h
    obtain ⟨rfl, rfl⟩ := Prod.mk.inj h
    have n1 := Aside0.mk (beq_eq_false_iff_ne.mpr e)
    by_cases h1 : 0 ≤ a <;> by_cases h2 : b < 0 <;> simp only [h1, h2, if_true, if_false]
    · exact right_zm a b c d n1 (decide_eq_true h1) (decide_eq_true h2) w
    · exact right_zp a b c d n1 (decide_eq_true h1) (decide_eq_false h2) w
    · exact right_nm a b c d n1 (decide_eq_false h1) (decide_eq_true h2) w
    · exact right_np a b c d n1 (decide_eq_false h1) (decide_eq_false h2) w

theorem left5_c (a b c d r s : Int) (ia : I32 a) (ib : I32 b) (ic : I32 c) (id : I32 d) (h : leftv a b c d = (r, s)) (w : World) : Calls Try.prog 74 #[.int .u8 14, .agg #[.int .i32 a, .int .i32 b], .agg #[.int .i32 c, .int .i32 d]] w fun e w' => e = .returned (.agg #[.int .i32 r, .int .i32 s]) ∧ Below w.heap.size w w' := by
  unfold leftv at h
  by_cases e : c = d
  · rw [if_pos e] at h
    have hp := pow_bound (c % 32) (by omega) (by omega)
    have h2 := mul_pow_bound a _ ia hp
    have h3 := mul_pow_bound b _ ib hp
    have ba := ia; have bb := ib; have bc := ic
    unfold I32 at ba bb bc
    refine left_one a b c d r s ⟨beq_iff_eq.mpr e⟩ ⟨?_⟩ ⟨?_⟩ w
    · rw [w64 (x := c) (by omega)]
      have hm : (Int.tmod c 32 = c % 32 ∧ 0 ≤ Int.tmod c 32) ∨ (Int.tmod c 32 = c % 32 - 32) := by
        rw [Int.tmod_eq_emod]
        split
        · left; constructor <;> omega
        · right; simp
      generalize Int.tmod c 32 = m at hm ⊢
      unfold wrap64
      omega
    · rw [w64 (x := a) (by omega), w64 (x := b) (by omega), w64 (by omega), w64 (by omega)]; exact h
  · rw [if_neg e] at h
    obtain ⟨rfl, rfl⟩ := Prod.mk.inj h
    exact left_more a b c d ⟨beq_eq_false_iff_ne.mpr e⟩ w

end Go.Proofs.Ytoalomjmmlnclaa.Ivl5
