/- The reference of chapter 27: its Apply answers what the plain function iv says, for every operator and every two intervals. -/
import Derived.Test.YtoalomjmmlnclaaRefN
import Derived.Test.YtoalomjmmlnclaaRefO
import Derived.Test.YtoalomjmmlnclaaRefP
namespace Go.Proofs.Ytoalomjmmlnclaa.Ivl5
open Go.RowKit Go.Proofs.Ytoalomjmmlnclaa.PIntervalApply Go.Proofs.YtoalomjmmlnclaaW.PrintWords Go.Proofs.YtoalomjmmlnclaaW.PrintLast
open Go.Proofs.Ytoalomjmmlnclaa.M
open List renaming setIfInBounds_toArray → zA, set_cons_zero → zB, set_cons_succ → zC
attribute [local go_sem] max2_int min2_int max_two min_two max_three min_three max_four min_four
set_option linter.unusedVariables false
set_option linter.unusedSimpArgs false

theorem eqA51 (d : Nat) (w : World) (x0 y0 : Int) (x1 y1 : Int) :
    (Op.equalIn (d + 2) 51 (.agg #[.int .i32 x0, .int .i32 x1]) (.agg #[.int .i32 y0, .int .i32 y1])).run Try.prog w = .ok (x0 == y0 && (x1 == y1)) w := by
  refine eqA_of Try.underlying51 (by kernel_rfl) ?_
  refine eqf_cons (by rfl) (by go_simp; rfl) (by go_simp; rfl) (by go_simp) ?_
  exact eqf_last (by rfl) (by go_simp; rfl) (by go_simp; rfl) (by go_simp)
attribute [local go_sem high] eqA51
/-- The operators on two intervals that have members and are not both single. -/
def ivg (op a b c d : Int) : Int × Int :=
  if op = 6 then hull4 (a + c) (a + d) (b + c) (b + d)
  else if op = 7 then hull4 (a - c) (a - d) (b - c) (b - d)
  else if op = 8 then hull4 (a * c) (a * d) (b * c) (b * d)
  else if op = 9 then divv a b c d
  else if op = 10 then remv a b c d
  else if op = 11 then andv a b c d
  else if op = 12 then orv a b c d
  else if op = 13 then xorv a b c d
  else if op = 14 then leftv a b c d
  else if op = 15 then rightv a b c d
  else decv op a b c d
theorem exact6 {x y : Int} (hx : I32 x) (hy : I32 y) : ontimeref27_exact.f 6 x y = some (x + y) := by
  unfold I32 at hx hy; unfold ontimeref27_exact.f; rw [if_pos rfl, w64 (by omega)]
theorem exact7 {x y : Int} (hx : I32 x) (hy : I32 y) : ontimeref27_exact.f 7 x y = some (x - y) := by
  unfold I32 at hx hy; unfold ontimeref27_exact.f; rw [if_neg (by decide), if_pos rfl, w64 (by omega)]
theorem exact8 {x y : Int} (hx : I32 x) (hy : I32 y) : ontimeref27_exact.f 8 x y = some (x * y) := by
  have := mul_bound hx hy
  unfold ontimeref27_exact.f; rw [if_neg (by decide), if_neg (by decide), if_pos rfl, w64 (by omega)]

set_option maxHeartbeats 4000000 in
set_option maxRecDepth 100000 in
theorem ap_low (op a b c d : Int) (d1 : decide (op < 6) = true) (w : World) : Calls Try.prog 39 #[.int .u8 op, .agg #[.int .i32 a, .int .i32 b], .agg #[.int .i32 c, .int .i32 d]] w fun e w' => e = .returned (.agg #[.int .i32 (-2147483648), .int .i32 2147483647]) ∧ Below w.heap.size w w' := by
  have hu51 := Try.underlying51
  go_enter Try.func39, Try.ntmps39
  go_upto_region 1 with (fail)
  have HB := Aside0.mk (Bx.start3 w a b c d 0 0)
  generalize World.alloc (World.alloc (World.alloc w _) _) _ = w0 at HB ⊢
  have C := HB.out.cl
  simp only [Cl, and_true] at C
  obtain ⟨_, _, _, _, _, _, _, _, _, _, _, _⟩ := C
  go_wp2_with fail
  (with_reducible refine (full_c _).mono ?_); rintro e wv1 ⟨rfl, hb⟩
  replace HB := Aside0.mk (HB.out.step hb)
  clear hb
  have C := HB.out.cl
  simp only [Cl, and_true] at C
  obtain ⟨_, _, _, _, _, _, _, _, _, _, _, _⟩ := C
  go_wp2_with fail
  obtain ⟨R1, R2⟩ := HB.out.ret 2 rfl (by omega) (-2147483648) 2147483647
  refine bodyPost_ret (results_cell_row rfl _ _ (w.heap.size + 1 + 1) 51 #[.int .i32 (-2147483648), .int .i32 2147483647] (0, 0) _ rfl R1 Try.underlying51 rfl (by kernel_rfl)) rfl ⟨rfl, R2⟩

set_option maxHeartbeats 4000000 in
set_option maxRecDepth 100000 in
theorem ap_high (op a b c d : Int) (d1 : decide (op < 6) = false) (d2 : decide (23 < op) = true) (w : World) : Calls Try.prog 39 #[.int .u8 op, .agg #[.int .i32 a, .int .i32 b], .agg #[.int .i32 c, .int .i32 d]] w fun e w' => e = .returned (.agg #[.int .i32 (-2147483648), .int .i32 2147483647]) ∧ Below w.heap.size w w' := by
  have hu51 := Try.underlying51
  go_enter Try.func39, Try.ntmps39
  go_upto_region 1 with (fail)
  have HB := Aside0.mk (Bx.start3 w a b c d 0 0)
  generalize World.alloc (World.alloc (World.alloc w _) _) _ = w0 at HB ⊢
  have C := HB.out.cl
  simp only [Cl, and_true] at C
  obtain ⟨_, _, _, _, _, _, _, _, _, _, _, _⟩ := C
  go_wp2_with fail
  (with_reducible refine (full_c _).mono ?_); rintro e wv1 ⟨rfl, hb⟩
  replace HB := Aside0.mk (HB.out.step hb)
  clear hb
  have C := HB.out.cl
  simp only [Cl, and_true] at C
  obtain ⟨_, _, _, _, _, _, _, _, _, _, _, _⟩ := C
  go_wp2_with fail
  obtain ⟨R1, R2⟩ := HB.out.ret 2 rfl (by omega) (-2147483648) 2147483647
  refine bodyPost_ret (results_cell_row rfl _ _ (w.heap.size + 1 + 1) 51 #[.int .i32 (-2147483648), .int .i32 2147483647] (0, 0) _ rfl R1 Try.underlying51 rfl (by kernel_rfl)) rfl ⟨rfl, R2⟩

set_option maxHeartbeats 4000000 in
set_option maxRecDepth 100000 in
theorem ap_e1 (op a b c d : Int) (d1 : decide (op < 6) = false) (d2 : decide (23 < op) = false) (e1 : Aside0 (decide (b < a) = true)) (w : World) : Calls Try.prog 39 #[.int .u8 op, .agg #[.int .i32 a, .int .i32 b], .agg #[.int .i32 c, .int .i32 d]] w fun e w' => e = .returned (.agg #[.int .i32 1, .int .i32 0]) ∧ Below w.heap.size w w' := by
  have hu51 := Try.underlying51
  go_enter Try.func39, Try.ntmps39
  go_upto_region 1 with (fail)
  have HB := Aside0.mk (Bx.start3 w a b c d 0 0)
  generalize World.alloc (World.alloc (World.alloc w _) _) _ = w0 at HB ⊢
  have C := HB.out.cl
  simp only [Cl, and_true] at C
  obtain ⟨_, _, _, _, _, _, _, _, _, _, _, _⟩ := C
  go_wp2_with fail
  (with_reducible refine (isE_c _ _ _ e1.out _).mono ?_); rintro e wv1 ⟨rfl, hb⟩
  replace HB := Aside0.mk (HB.out.step hb)
  clear hb
  have C := HB.out.cl
  simp only [Cl, and_true] at C
  obtain ⟨_, _, _, _, _, _, _, _, _, _, _, _⟩ := C
  go_wp2_with fail
  (with_reducible refine (none_c _).mono ?_); rintro e wv2 ⟨rfl, hb⟩
  replace HB := Aside0.mk (HB.out.step hb)
  clear hb
  have C := HB.out.cl
  simp only [Cl, and_true] at C
  obtain ⟨_, _, _, _, _, _, _, _, _, _, _, _⟩ := C
  go_wp2_with fail
  obtain ⟨R1, R2⟩ := HB.out.ret 2 rfl (by omega) 1 0
  refine bodyPost_ret (results_cell_row rfl _ _ (w.heap.size + 1 + 1) 51 #[.int .i32 1, .int .i32 0] (0, 0) _ rfl R1 Try.underlying51 rfl (by kernel_rfl)) rfl ⟨rfl, R2⟩

set_option maxHeartbeats 4000000 in
set_option maxRecDepth 100000 in
theorem ap_e2 (op a b c d : Int) (d1 : decide (op < 6) = false) (d2 : decide (23 < op) = false) (e1 : Aside0 (decide (b < a) = false)) (e2 : Aside0 (decide (d < c) = true)) (w : World) : Calls Try.prog 39 #[.int .u8 op, .agg #[.int .i32 a, .int .i32 b], .agg #[.int .i32 c, .int .i32 d]] w fun e w' => e = .returned (.agg #[.int .i32 1, .int .i32 0]) ∧ Below w.heap.size w w' := by
  have hu51 := Try.underlying51
  go_enter Try.func39, Try.ntmps39
  go_upto_region 1 with (fail)
  have HB := Aside0.mk (Bx.start3 w a b c d 0 0)
  generalize World.alloc (World.alloc (World.alloc w _) _) _ = w0 at HB ⊢
  have C := HB.out.cl
  simp only [Cl, and_true] at C
  obtain ⟨_, _, _, _, _, _, _, _, _, _, _, _⟩ := C
  go_wp2_with fail
  (with_reducible refine (isE_c _ _ _ e1.out _).mono ?_); rintro e wv1 ⟨rfl, hb⟩
  replace HB := Aside0.mk (HB.out.step hb)
  clear hb
  have C := HB.out.cl
  simp only [Cl, and_true] at C
  obtain ⟨_, _, _, _, _, _, _, _, _, _, _, _⟩ := C
  go_wp2_with fail
  (with_reducible refine (isE_c _ _ _ e2.out _).mono ?_); rintro e wv2 ⟨rfl, hb⟩
  replace HB := Aside0.mk (HB.out.step hb)
  clear hb
  have C := HB.out.cl
  simp only [Cl, and_true] at C
  obtain ⟨_, _, _, _, _, _, _, _, _, _, _, _⟩ := C
  go_wp2_with fail
  (with_reducible refine (none_c _).mono ?_); rintro e wv3 ⟨rfl, hb⟩
  replace HB := Aside0.mk (HB.out.step hb)
  clear hb
  have C := HB.out.cl
  simp only [Cl, and_true] at C
  obtain ⟨_, _, _, _, _, _, _, _, _, _, _, _⟩ := C
  go_wp2_with fail
  obtain ⟨R1, R2⟩ := HB.out.ret 2 rfl (by omega) 1 0
  refine bodyPost_ret (results_cell_row rfl _ _ (w.heap.size + 1 + 1) 51 #[.int .i32 1, .int .i32 0] (0, 0) _ rfl R1 Try.underlying51 rfl (by kernel_rfl)) rfl ⟨rfl, R2⟩

set_option maxHeartbeats 4000000 in
set_option maxRecDepth 100000 in
theorem ap_s0 (op a b c d n e : Int) (d1 : decide (op < 6) = false) (d2 : decide (23 < op) = false) (e1 : Aside0 (decide (b < a) = false)) (e2 : Aside0 (decide (d < c) = false)) (h6 : Aside0 (6 ≤ op)) (h23 : Aside0 (op ≤ 23)) (ia : Aside0 (I32 a)) (ic : Aside0 (I32 c)) (hs1 : Aside0 ((a == b) = true)) (hs2 : Aside0 ((c == d) = true)) (hw : Aside0 (wv op a c = (n, e))) (he : (e != 0) = false) (w : World) : Calls Try.prog 39 #[.int .u8 op, .agg #[.int .i32 a, .int .i32 b], .agg #[.int .i32 c, .int .i32 d]] w fun e w' => e = .returned (.agg #[.int .i32 n, .int .i32 n]) ∧ Below w.heap.size w w' := by
  have hu51 := Try.underlying51
  go_enter Try.func39, Try.ntmps39
  go_upto_region 1 with (fail)
  have HB := Aside0.mk (Bx.start3 w a b c d 0 0)
  generalize World.alloc (World.alloc (World.alloc w _) _) _ = w0 at HB ⊢
  have C := HB.out.cl
  simp only [Cl, and_true] at C
  obtain ⟨_, _, _, _, _, _, _, _, _, _, _, _⟩ := C
  go_wp2_with fail
  (with_reducible refine (isE_c _ _ _ e1.out _).mono ?_); rintro e wv1 ⟨rfl, hb⟩
  replace HB := Aside0.mk (HB.out.step hb)
  clear hb
  have C := HB.out.cl
  simp only [Cl, and_true] at C
  obtain ⟨_, _, _, _, _, _, _, _, _, _, _, _⟩ := C
  go_wp2_with fail
  (with_reducible refine (isE_c _ _ _ e2.out _).mono ?_); rintro e wv2 ⟨rfl, hb⟩
  replace HB := Aside0.mk (HB.out.step hb)
  clear hb
  have C := HB.out.cl
  simp only [Cl, and_true] at C
  obtain ⟨_, _, _, _, _, _, _, _, _, _, _, _⟩ := C
  go_wp2_with fail
  (with_reducible refine (single_c _ _ _ hs1.out _).mono ?_); rintro e wv3 ⟨rfl, hb⟩
  replace HB := Aside0.mk (HB.out.step hb)
  clear hb
  have C := HB.out.cl
  simp only [Cl, and_true] at C
  obtain ⟨_, _, _, _, _, _, _, _, _, _, _, _⟩ := C
  go_wp2_with fail
  (with_reducible refine (single_c _ _ _ hs2.out _).mono ?_); rintro e wv4 ⟨rfl, hb⟩
  replace HB := Aside0.mk (HB.out.step hb)
  clear hb
  have C := HB.out.cl
  simp only [Cl, and_true] at C
  obtain ⟨_, _, _, _, _, _, _, _, _, _, _, _⟩ := C
  go_wp2_with fail
  (with_reducible refine (word_c op a c n e h6.out h23.out ia.out ic.out hw.out _).mono ?_); rintro e wv5 ⟨rfl, hb⟩
  replace HB := Aside0.mk (HB.out.step hb)
  clear hb
  have C := HB.out.cl
  simp only [Cl, and_true] at C
  obtain ⟨_, _, _, _, _, _, _, _, _, _, _, _⟩ := C
  go_wp2_with fail
  obtain ⟨R1, R2⟩ := HB.out.ret 2 rfl (by omega) n n
  refine bodyPost_ret (results_cell_row rfl _ _ (w.heap.size + 1 + 1) 51 #[.int .i32 n, .int .i32 n] (0, 0) _ rfl R1 Try.underlying51 rfl (by kernel_rfl)) rfl ⟨rfl, R2⟩

set_option maxHeartbeats 4000000 in
set_option maxRecDepth 100000 in
theorem ap_s1 (op a b c d n e : Int) (d1 : decide (op < 6) = false) (d2 : decide (23 < op) = false) (e1 : Aside0 (decide (b < a) = false)) (e2 : Aside0 (decide (d < c) = false)) (h6 : Aside0 (6 ≤ op)) (h23 : Aside0 (op ≤ 23)) (ia : Aside0 (I32 a)) (ic : Aside0 (I32 c)) (hs1 : Aside0 ((a == b) = true)) (hs2 : Aside0 ((c == d) = true)) (hw : Aside0 (wv op a c = (n, e))) (he : (e != 0) = true) (w : World) : Calls Try.prog 39 #[.int .u8 op, .agg #[.int .i32 a, .int .i32 b], .agg #[.int .i32 c, .int .i32 d]] w fun e w' => e = .returned (.agg #[.int .i32 1, .int .i32 0]) ∧ Below w.heap.size w w' := by
  have hu51 := Try.underlying51
  go_enter Try.func39, Try.ntmps39
  go_upto_region 1 with (fail)
  have HB := Aside0.mk (Bx.start3 w a b c d 0 0)
  generalize World.alloc (World.alloc (World.alloc w _) _) _ = w0 at HB ⊢
  have C := HB.out.cl
  simp only [Cl, and_true] at C
  obtain ⟨_, _, _, _, _, _, _, _, _, _, _, _⟩ := C
  go_wp2_with fail
  (with_reducible refine (isE_c _ _ _ e1.out _).mono ?_); rintro e wv1 ⟨rfl, hb⟩
  replace HB := Aside0.mk (HB.out.step hb)
  clear hb
  have C := HB.out.cl
  simp only [Cl, and_true] at C
  obtain ⟨_, _, _, _, _, _, _, _, _, _, _, _⟩ := C
  go_wp2_with fail
  (with_reducible refine (isE_c _ _ _ e2.out _).mono ?_); rintro e wv2 ⟨rfl, hb⟩
  replace HB := Aside0.mk (HB.out.step hb)
  clear hb
  have C := HB.out.cl
  simp only [Cl, and_true] at C
  obtain ⟨_, _, _, _, _, _, _, _, _, _, _, _⟩ := C
  go_wp2_with fail
  (with_reducible refine (single_c _ _ _ hs1.out _).mono ?_); rintro e wv3 ⟨rfl, hb⟩
  replace HB := Aside0.mk (HB.out.step hb)
  clear hb
  have C := HB.out.cl
  simp only [Cl, and_true] at C
  obtain ⟨_, _, _, _, _, _, _, _, _, _, _, _⟩ := C
  go_wp2_with fail
  (with_reducible refine (single_c _ _ _ hs2.out _).mono ?_); rintro e wv4 ⟨rfl, hb⟩
  replace HB := Aside0.mk (HB.out.step hb)
  clear hb
  have C := HB.out.cl
  simp only [Cl, and_true] at C
  obtain ⟨_, _, _, _, _, _, _, _, _, _, _, _⟩ := C
  go_wp2_with fail
  (with_reducible refine (word_c op a c n e h6.out h23.out ia.out ic.out hw.out _).mono ?_); rintro e wv5 ⟨rfl, hb⟩
  replace HB := Aside0.mk (HB.out.step hb)
  clear hb
  have C := HB.out.cl
  simp only [Cl, and_true] at C
  obtain ⟨_, _, _, _, _, _, _, _, _, _, _, _⟩ := C
  go_wp2_with fail
  (with_reducible refine (none_c _).mono ?_); rintro e wv6 ⟨rfl, hb⟩
  replace HB := Aside0.mk (HB.out.step hb)
  clear hb
  have C := HB.out.cl
  simp only [Cl, and_true] at C
  obtain ⟨_, _, _, _, _, _, _, _, _, _, _, _⟩ := C
  go_wp2_with fail
  obtain ⟨R1, R2⟩ := HB.out.ret 2 rfl (by omega) 1 0
  refine bodyPost_ret (results_cell_row rfl _ _ (w.heap.size + 1 + 1) 51 #[.int .i32 1, .int .i32 0] (0, 0) _ rfl R1 Try.underlying51 rfl (by kernel_rfl)) rfl ⟨rfl, R2⟩

theorem apart_eq {a b c d : Int} (h1 : a ≤ b) (h2 : c ≤ d) : apartv a b c d = decide (b < c ∨ d < a) := by
  unfold apartv meetv
  by_cases k : b < a ∨ d < c ∨ min b d < max a c
  · rw [if_pos k]; exact (decide_eq_true (by decide)).trans (decide_eq_true (by omega)).symm
  · rw [if_neg k]; exact decide_eq_decide.mpr (by simp only; omega)
theorem none_eq (a b : Int) : nonev a b = ((a == 0) && (b == 0)) := by
  unfold nonev; rw [Bool.eq_iff_iff, Bool.and_eq_true, beq_iff_eq, beq_iff_eq, decide_eq_true_eq]

set_option maxHeartbeats 4000000 in
set_option maxRecDepth 100000 in
theorem ap_g1 (op a b c d r s : Int) (ia : Aside0 (I32 a)) (ib : Aside0 (I32 b)) (ic : Aside0 (I32 c)) (id : Aside0 (I32 d)) (d1 : decide (op < 6) = false) (d2 : decide (23 < op) = false) (e1 : Aside0 (decide (b < a) = false)) (e2 : Aside0 (decide (d < c) = false)) (hab : Aside0 (a ≤ b)) (hcd : Aside0 (c ≤ d)) (s1 s2 : Bool) (hs : Aside0 (s1 = false ∨ s2 = false)) (hs1 : Aside0 ((a == b) = s1)) (hs2 : Aside0 ((c == d) = s2)) (ap : Bool) (hap : Aside0 (decide (b < c ∨ d < a) = ap)) (h : Aside0 (ivg op a b c d = (r, s))) (ho : Aside0 (op = 6 ∨ op = 7 ∨ op = 8 ∨ op = 9 ∨ op = 10 ∨ op = 11)) (w : World) : Calls Try.prog 39 #[.int .u8 op, .agg #[.int .i32 a, .int .i32 b], .agg #[.int .i32 c, .int .i32 d]] w fun e w' => e = .returned (.agg #[.int .i32 r, .int .i32 s]) ∧ Below w.heap.size w w' := by
  have hu51 := Try.underlying51
  go_enter Try.func39, Try.ntmps39
  go_upto_region 1 with (fail)
  have HB := Aside0.mk (Bx.start3 w a b c d 0 0)
  generalize World.alloc (World.alloc (World.alloc w _) _) _ = w0 at HB ⊢
  have C := HB.out.cl
  simp only [Cl, and_true] at C
  obtain ⟨_, _, _, _, _, _, _, _, _, _, _, _⟩ := C
  go_wp2_with fail
  (with_reducible refine (isE_c _ _ _ e1.out _).mono ?_); rintro e wv1 ⟨rfl, hb⟩
  replace HB := Aside0.mk (HB.out.step hb)
  clear hb
  have C := HB.out.cl
  simp only [Cl, and_true] at C
  obtain ⟨_, _, _, _, _, _, _, _, _, _, _, _⟩ := C
  go_wp2_with fail
  (with_reducible refine (isE_c _ _ _ e2.out _).mono ?_); rintro e wv2 ⟨rfl, hb⟩
  replace HB := Aside0.mk (HB.out.step hb)
  clear hb
  have C := HB.out.cl
  simp only [Cl, and_true] at C
  obtain ⟨_, _, _, _, _, _, _, _, _, _, _, _⟩ := C
  go_upto_region 5 with (fail)
  go_cut [30] (fun v wc => v = .bool false ∧ Aside0 (Bx w [(w.heap.size, a, b), (w.heap.size + 1, c, d), (w.heap.size + 1 + 1, 0, 0)] wc))
  case first =>
    cases s1 with
    | false =>
      go_wp2_with fail
      (with_reducible refine (single_c _ _ _ hs1.out _).mono ?_); rintro e wv3 ⟨rfl, hb⟩
      replace HB := Aside0.mk (HB.out.step hb)
      clear hb
      have C := HB.out.cl
      simp only [Cl, and_true] at C
      obtain ⟨_, _, _, _, _, _, _, _, _, _, _, _⟩ := C
      go_wp2_with fail
      go_meet
      case rel => exact ⟨by first | rfl | (simp; done) | (simp [*]; done), HB⟩
    | true =>
      obtain rfl : s2 = false := by simpa using hs.out
      go_wp2_with fail
      (with_reducible refine (single_c _ _ _ hs1.out _).mono ?_); rintro e wv3 ⟨rfl, hb⟩
      replace HB := Aside0.mk (HB.out.step hb)
      clear hb
      have C := HB.out.cl
      simp only [Cl, and_true] at C
      obtain ⟨_, _, _, _, _, _, _, _, _, _, _, _⟩ := C
      go_wp2_with fail
      (with_reducible refine (single_c _ _ _ hs2.out _).mono ?_); rintro e wv4 ⟨rfl, hb⟩
      replace HB := Aside0.mk (HB.out.step hb)
      clear hb
      have C := HB.out.cl
      simp only [Cl, and_true] at C
      obtain ⟨_, _, _, _, _, _, _, _, _, _, _, _⟩ := C
      go_wp2_with fail
      go_meet
      case rel => exact ⟨by first | rfl | (simp; done) | (simp [*]; done), HB⟩
  case rest =>
    clear HB
    obtain ⟨rfl, HB⟩ := hcut
    have C := HB.out.cl
    simp only [Cl, and_true] at C
    obtain ⟨_, _, _, _, _, _, _, _, _, _, _, _⟩ := C
    go_upto_region 10 with (fail)
    go_cut [9] (fun v wc => v = .bool ap ∧ Aside0 (Bx w [(w.heap.size, a, b), (w.heap.size + 1, c, d), (w.heap.size + 1 + 1, 0, 0)] wc))
    case first =>
      by_cases k1 : b < c
      · have hv : Aside0 (true = ap) := ⟨by rw [← hap.out]; exact (decide_eq_true (.inl k1)).symm⟩
        have hp : decide (b < c) = true := decide_eq_true k1
        clear k1
        go_wp2_with fail
        go_meet
        case rel => exact ⟨congrArg Value.bool (by first | rfl | exact hv.out | exact hv.out.symm), HB⟩
      · have hv : Aside0 (decide (d < a) = ap) := ⟨by rw [← hap.out]; exact decide_eq_decide.mpr (by omega)⟩
        have hp : decide (b < c) = false := decide_eq_false k1
        clear k1
        go_wp2_with fail
        go_meet
        case rel => exact ⟨congrArg Value.bool (by first | rfl | exact hv.out | exact hv.out.symm), HB⟩
    case rest =>
      clear HB
      obtain ⟨rfl, HB⟩ := hcut
      have C := HB.out.cl
      simp only [Cl, and_true] at C
      obtain ⟨_, _, _, _, _, _, _, _, _, _, _, _⟩ := C
      go_upto_region 12 with (fail)
      clear d1 d2 e1 e2 hs hs1 hs2
      have hlgz_0 := blk_lt (HB.out.bk 0 rfl)
      have hlgz_1 := blk_lt (HB.out.bk 1 rfl)
      have hlgz_2 := blk_lt (HB.out.bk 2 rfl)
      replace HB := Aside0.mk (show Bx w [(w.heap.size, a, b), (w.heap.size + 1, c, d), (w.heap.size + 1 + 1, 0, 0), (wc.heap.size, 0, 0)] _ from HB.out.box rfl 0 0)
      generalize World.alloc wc _ = wv3 at HB ⊢
      generalize wc.heap.size = gz at HB hlgz_0 hlgz_1 hlgz_2 ⊢
      have C := HB.out.cl
      simp only [Cl, and_true] at C
      obtain ⟨_, _, _, _, _, _, _, _, _, _, _, _, _, _, _, _⟩ := C
      rcases ho.out with rfl | rfl | rfl | rfl | rfl | rfl
      all_goals clear ho
      · skip
        have hq : Aside0 (hull4 (a + c) (a + d) (b + c) (b + d) = (r, s)) := ⟨h.out⟩
        go_wp2_with fail
        (with_reducible refine (ontimeref27_corners.calls 10 6 a b c d _ _ (corners_f 0 6 a b c d _ _ _ _ ia.out ib.out ic.out id.out (exact6 ia.out ic.out) (exact6 ia.out id.out) (exact6 ib.out ic.out) (exact6 ib.out id.out))).mono ?_); rintro e w1 ⟨v0, rfl, ho, hb⟩
        replace HB := Aside0.mk (HB.out.step hb)
        obtain ⟨g0, c0, e0⟩ := Kd.R_slice ho
        subst e0
        have HV := Aside0.mk ho
        clear hb ho
        have C := HB.out.cl
        simp only [Cl, and_true] at C
        obtain ⟨_, _, _, _, _, _, _, _, _, _, _, _, _, _, _, _⟩ := C
        go_wp2_with fail
        refine (ontimeref27_hull.calls 6 g0 c0 _ r s _ (Kd.R_reads' HV.out).2.2 (Kd.R_reads' HV.out).2.1 ((hull_f4 0 _ _ _ _).trans (congrArg some hq.out))).mono ?_; rintro e w2 ⟨rfl, hb⟩
        replace HB := Aside0.mk (HB.out.step hb)
        clear hb HV
        have C := HB.out.cl
        simp only [Cl, and_true] at C
        obtain ⟨_, _, _, _, _, _, _, _, _, _, _, _, _, _, _, _⟩ := C
        go_wp2_with fail
        obtain ⟨R1, R2⟩ := HB.out.ret 2 rfl (by omega) r s
        refine bodyPost_ret (results_cell_row rfl _ _ (w.heap.size + 1 + 1) 51 #[.int .i32 r, .int .i32 s] (0, 0) _ rfl R1 Try.underlying51 rfl (by kernel_rfl)) rfl ⟨rfl, R2⟩
      · skip
        have hq : Aside0 (hull4 (a - c) (a - d) (b - c) (b - d) = (r, s)) := ⟨h.out⟩
        go_wp2_with fail
        (with_reducible refine (ontimeref27_corners.calls 10 7 a b c d _ _ (corners_f 0 7 a b c d _ _ _ _ ia.out ib.out ic.out id.out (exact7 ia.out ic.out) (exact7 ia.out id.out) (exact7 ib.out ic.out) (exact7 ib.out id.out))).mono ?_); rintro e w1 ⟨v0, rfl, ho, hb⟩
        replace HB := Aside0.mk (HB.out.step hb)
        obtain ⟨g0, c0, e0⟩ := Kd.R_slice ho
        subst e0
        have HV := Aside0.mk ho
        clear hb ho
        have C := HB.out.cl
        simp only [Cl, and_true] at C
        obtain ⟨_, _, _, _, _, _, _, _, _, _, _, _, _, _, _, _⟩ := C
        go_wp2_with fail
        refine (ontimeref27_hull.calls 6 g0 c0 _ r s _ (Kd.R_reads' HV.out).2.2 (Kd.R_reads' HV.out).2.1 ((hull_f4 0 _ _ _ _).trans (congrArg some hq.out))).mono ?_; rintro e w2 ⟨rfl, hb⟩
        replace HB := Aside0.mk (HB.out.step hb)
        clear hb HV
        have C := HB.out.cl
        simp only [Cl, and_true] at C
        obtain ⟨_, _, _, _, _, _, _, _, _, _, _, _, _, _, _, _⟩ := C
        go_wp2_with fail
        obtain ⟨R1, R2⟩ := HB.out.ret 2 rfl (by omega) r s
        refine bodyPost_ret (results_cell_row rfl _ _ (w.heap.size + 1 + 1) 51 #[.int .i32 r, .int .i32 s] (0, 0) _ rfl R1 Try.underlying51 rfl (by kernel_rfl)) rfl ⟨rfl, R2⟩
      · skip
        have hq : Aside0 (hull4 (a * c) (a * d) (b * c) (b * d) = (r, s)) := ⟨h.out⟩
        go_wp2_with fail
        (with_reducible refine (ontimeref27_corners.calls 10 8 a b c d _ _ (corners_f 0 8 a b c d _ _ _ _ ia.out ib.out ic.out id.out (exact8 ia.out ic.out) (exact8 ia.out id.out) (exact8 ib.out ic.out) (exact8 ib.out id.out))).mono ?_); rintro e w1 ⟨v0, rfl, ho, hb⟩
        replace HB := Aside0.mk (HB.out.step hb)
        obtain ⟨g0, c0, e0⟩ := Kd.R_slice ho
        subst e0
        have HV := Aside0.mk ho
        clear hb ho
        have C := HB.out.cl
        simp only [Cl, and_true] at C
        obtain ⟨_, _, _, _, _, _, _, _, _, _, _, _, _, _, _, _⟩ := C
        go_wp2_with fail
        refine (ontimeref27_hull.calls 6 g0 c0 _ r s _ (Kd.R_reads' HV.out).2.2 (Kd.R_reads' HV.out).2.1 ((hull_f4 0 _ _ _ _).trans (congrArg some hq.out))).mono ?_; rintro e w2 ⟨rfl, hb⟩
        replace HB := Aside0.mk (HB.out.step hb)
        clear hb HV
        have C := HB.out.cl
        simp only [Cl, and_true] at C
        obtain ⟨_, _, _, _, _, _, _, _, _, _, _, _, _, _, _, _⟩ := C
        go_wp2_with fail
        obtain ⟨R1, R2⟩ := HB.out.ret 2 rfl (by omega) r s
        refine bodyPost_ret (results_cell_row rfl _ _ (w.heap.size + 1 + 1) 51 #[.int .i32 r, .int .i32 s] (0, 0) _ rfl R1 Try.underlying51 rfl (by kernel_rfl)) rfl ⟨rfl, R2⟩
      · skip
        have hq : Aside0 (divv a b c d = (r, s)) := ⟨h.out⟩
        by_cases hz : c = 0 ∧ d = 0
        · skip
          obtain ⟨rfl, rfl⟩ : r = 1 ∧ s = 0 := by have k := hq.out; unfold divv at k; rw [if_pos hz] at k; exact ⟨(Prod.mk.inj k).1.symm, (Prod.mk.inj k).2.symm⟩
          have hk : ((c == 0) && (d == 0)) = true := by rw [hz.1, hz.2]; rfl
          clear hz hq h
          go_wp2_with fail
          (with_reducible refine (none_c _).mono ?_); rintro e wv4 ⟨rfl, hb⟩
          replace HB := Aside0.mk (HB.out.step hb)
          clear hb
          have C := HB.out.cl
          simp only [Cl, and_true] at C
          obtain ⟨_, _, _, _, _, _, _, _, _, _, _, _, _, _, _, _⟩ := C
          go_wp2_with fail
          obtain ⟨R1, R2⟩ := HB.out.ret 2 rfl (by omega) 1 0
          refine bodyPost_ret (results_cell_row rfl _ _ (w.heap.size + 1 + 1) 51 #[.int .i32 1, .int .i32 0] (0, 0) _ rfl R1 Try.underlying51 rfl (by kernel_rfl)) rfl ⟨rfl, R2⟩
        · skip
          have hk : ((c == 0) && (d == 0)) = false := by rw [Bool.eq_false_iff]; intro k; rw [Bool.and_eq_true, beq_iff_eq, beq_iff_eq] at k; exact hz k
          have hz' := Aside0.mk hz
          clear hz
          go_wp2_with fail
          (with_reducible refine (div5_c _ _ _ _ _ _ ia.out ib.out ic.out id.out hab.out hcd.out hz'.out hq.out _).mono ?_); rintro e wv4 ⟨rfl, hb⟩
          replace HB := Aside0.mk (HB.out.step hb)
          clear hb
          have C := HB.out.cl
          simp only [Cl, and_true] at C
          obtain ⟨_, _, _, _, _, _, _, _, _, _, _, _, _, _, _, _⟩ := C
          go_wp2_with fail
          obtain ⟨R1, R2⟩ := HB.out.ret 2 rfl (by omega) r s
          refine bodyPost_ret (results_cell_row rfl _ _ (w.heap.size + 1 + 1) 51 #[.int .i32 r, .int .i32 s] (0, 0) _ rfl R1 Try.underlying51 rfl (by kernel_rfl)) rfl ⟨rfl, R2⟩
      · skip
        have hq : Aside0 (remv a b c d = (r, s)) := ⟨h.out⟩
        by_cases hz : c = 0 ∧ d = 0
        · skip
          obtain ⟨rfl, rfl⟩ : r = 1 ∧ s = 0 := by have k := hq.out; unfold remv at k; rw [if_pos hz] at k; exact ⟨(Prod.mk.inj k).1.symm, (Prod.mk.inj k).2.symm⟩
          have hk : ((c == 0) && (d == 0)) = true := by rw [hz.1, hz.2]; rfl
          clear hz hq h
          go_wp2_with fail
          (with_reducible refine (none_c _).mono ?_); rintro e wv4 ⟨rfl, hb⟩
          replace HB := Aside0.mk (HB.out.step hb)
          clear hb
          have C := HB.out.cl
          simp only [Cl, and_true] at C
          obtain ⟨_, _, _, _, _, _, _, _, _, _, _, _, _, _, _, _⟩ := C
          go_wp2_with fail
          obtain ⟨R1, R2⟩ := HB.out.ret 2 rfl (by omega) 1 0
          refine bodyPost_ret (results_cell_row rfl _ _ (w.heap.size + 1 + 1) 51 #[.int .i32 1, .int .i32 0] (0, 0) _ rfl R1 Try.underlying51 rfl (by kernel_rfl)) rfl ⟨rfl, R2⟩
        · skip
          have hk : ((c == 0) && (d == 0)) = false := by rw [Bool.eq_false_iff]; intro k; rw [Bool.and_eq_true, beq_iff_eq, beq_iff_eq] at k; exact hz k
          have hz' := Aside0.mk hz
          clear hz
          go_wp2_with fail
          (with_reducible refine (rem_c _ _ _ _ _ _ ia.out ib.out ic.out id.out hcd.out hz'.out hq.out _).mono ?_); rintro e wv4 ⟨rfl, hb⟩
          replace HB := Aside0.mk (HB.out.step hb)
          clear hb
          have C := HB.out.cl
          simp only [Cl, and_true] at C
          obtain ⟨_, _, _, _, _, _, _, _, _, _, _, _, _, _, _, _⟩ := C
          go_wp2_with fail
          obtain ⟨R1, R2⟩ := HB.out.ret 2 rfl (by omega) r s
          refine bodyPost_ret (results_cell_row rfl _ _ (w.heap.size + 1 + 1) 51 #[.int .i32 r, .int .i32 s] (0, 0) _ rfl R1 Try.underlying51 rfl (by kernel_rfl)) rfl ⟨rfl, R2⟩
      · skip
        have hq : Aside0 (andv a b c d = (r, s)) := ⟨h.out⟩
        go_wp2_with fail
        (with_reducible refine (and5_c _ _ _ _ _ _ ia.out ib.out ic.out id.out hq.out _).mono ?_); rintro e wv4 ⟨rfl, hb⟩
        replace HB := Aside0.mk (HB.out.step hb)
        clear hb
        have C := HB.out.cl
        simp only [Cl, and_true] at C
        obtain ⟨_, _, _, _, _, _, _, _, _, _, _, _, _, _, _, _⟩ := C
        go_wp2_with fail
        obtain ⟨R1, R2⟩ := HB.out.ret 2 rfl (by omega) r s
        refine bodyPost_ret (results_cell_row rfl _ _ (w.heap.size + 1 + 1) 51 #[.int .i32 r, .int .i32 s] (0, 0) _ rfl R1 Try.underlying51 rfl (by kernel_rfl)) rfl ⟨rfl, R2⟩

set_option maxHeartbeats 4000000 in
set_option maxRecDepth 100000 in
theorem ap_g2 (op a b c d r s : Int) (ia : Aside0 (I32 a)) (ib : Aside0 (I32 b)) (ic : Aside0 (I32 c)) (id : Aside0 (I32 d)) (d1 : decide (op < 6) = false) (d2 : decide (23 < op) = false) (e1 : Aside0 (decide (b < a) = false)) (e2 : Aside0 (decide (d < c) = false)) (hab : Aside0 (a ≤ b)) (hcd : Aside0 (c ≤ d)) (s1 s2 : Bool) (hs : Aside0 (s1 = false ∨ s2 = false)) (hs1 : Aside0 ((a == b) = s1)) (hs2 : Aside0 ((c == d) = s2)) (ap : Bool) (hap : Aside0 (decide (b < c ∨ d < a) = ap)) (h : Aside0 (ivg op a b c d = (r, s))) (ho : Aside0 (op = 12 ∨ op = 13 ∨ op = 14 ∨ op = 15 ∨ op = 16 ∨ op = 17 ∨ op = 18 ∨ op = 19 ∨ op = 20 ∨ op = 21)) (w : World) : Calls Try.prog 39 #[.int .u8 op, .agg #[.int .i32 a, .int .i32 b], .agg #[.int .i32 c, .int .i32 d]] w fun e w' => e = .returned (.agg #[.int .i32 r, .int .i32 s]) ∧ Below w.heap.size w w' := by
  have hu51 := Try.underlying51
  go_enter Try.func39, Try.ntmps39
  go_upto_region 1 with (fail)
  have HB := Aside0.mk (Bx.start3 w a b c d 0 0)
  generalize World.alloc (World.alloc (World.alloc w _) _) _ = w0 at HB ⊢
  have C := HB.out.cl
  simp only [Cl, and_true] at C
  obtain ⟨_, _, _, _, _, _, _, _, _, _, _, _⟩ := C
  go_wp2_with fail
  (with_reducible refine (isE_c _ _ _ e1.out _).mono ?_); rintro e wv1 ⟨rfl, hb⟩
  replace HB := Aside0.mk (HB.out.step hb)
  clear hb
  have C := HB.out.cl
  simp only [Cl, and_true] at C
  obtain ⟨_, _, _, _, _, _, _, _, _, _, _, _⟩ := C
  go_wp2_with fail
  (with_reducible refine (isE_c _ _ _ e2.out _).mono ?_); rintro e wv2 ⟨rfl, hb⟩
  replace HB := Aside0.mk (HB.out.step hb)
  clear hb
  have C := HB.out.cl
  simp only [Cl, and_true] at C
  obtain ⟨_, _, _, _, _, _, _, _, _, _, _, _⟩ := C
  go_upto_region 5 with (fail)
  go_cut [30] (fun v wc => v = .bool false ∧ Aside0 (Bx w [(w.heap.size, a, b), (w.heap.size + 1, c, d), (w.heap.size + 1 + 1, 0, 0)] wc))
  case first =>
    cases s1 with
    | false =>
      go_wp2_with fail
      (with_reducible refine (single_c _ _ _ hs1.out _).mono ?_); rintro e wv3 ⟨rfl, hb⟩
      replace HB := Aside0.mk (HB.out.step hb)
      clear hb
      have C := HB.out.cl
      simp only [Cl, and_true] at C
      obtain ⟨_, _, _, _, _, _, _, _, _, _, _, _⟩ := C
      go_wp2_with fail
      go_meet
      case rel => exact ⟨by first | rfl | (simp; done) | (simp [*]; done), HB⟩
    | true =>
      obtain rfl : s2 = false := by simpa using hs.out
      go_wp2_with fail
      (with_reducible refine (single_c _ _ _ hs1.out _).mono ?_); rintro e wv3 ⟨rfl, hb⟩
      replace HB := Aside0.mk (HB.out.step hb)
      clear hb
      have C := HB.out.cl
      simp only [Cl, and_true] at C
      obtain ⟨_, _, _, _, _, _, _, _, _, _, _, _⟩ := C
      go_wp2_with fail
      (with_reducible refine (single_c _ _ _ hs2.out _).mono ?_); rintro e wv4 ⟨rfl, hb⟩
      replace HB := Aside0.mk (HB.out.step hb)
      clear hb
      have C := HB.out.cl
      simp only [Cl, and_true] at C
      obtain ⟨_, _, _, _, _, _, _, _, _, _, _, _⟩ := C
      go_wp2_with fail
      go_meet
      case rel => exact ⟨by first | rfl | (simp; done) | (simp [*]; done), HB⟩
  case rest =>
    clear HB
    obtain ⟨rfl, HB⟩ := hcut
    have C := HB.out.cl
    simp only [Cl, and_true] at C
    obtain ⟨_, _, _, _, _, _, _, _, _, _, _, _⟩ := C
    go_upto_region 10 with (fail)
    go_cut [9] (fun v wc => v = .bool ap ∧ Aside0 (Bx w [(w.heap.size, a, b), (w.heap.size + 1, c, d), (w.heap.size + 1 + 1, 0, 0)] wc))
    case first =>
      by_cases k1 : b < c
      · have hv : Aside0 (true = ap) := ⟨by rw [← hap.out]; exact (decide_eq_true (.inl k1)).symm⟩
        have hp : decide (b < c) = true := decide_eq_true k1
        clear k1
        go_wp2_with fail
        go_meet
        case rel => exact ⟨congrArg Value.bool (by first | rfl | exact hv.out | exact hv.out.symm), HB⟩
      · have hv : Aside0 (decide (d < a) = ap) := ⟨by rw [← hap.out]; exact decide_eq_decide.mpr (by omega)⟩
        have hp : decide (b < c) = false := decide_eq_false k1
        clear k1
        go_wp2_with fail
        go_meet
        case rel => exact ⟨congrArg Value.bool (by first | rfl | exact hv.out | exact hv.out.symm), HB⟩
    case rest =>
      clear HB
      obtain ⟨rfl, HB⟩ := hcut
      have C := HB.out.cl
      simp only [Cl, and_true] at C
      obtain ⟨_, _, _, _, _, _, _, _, _, _, _, _⟩ := C
      go_upto_region 12 with (fail)
      clear d1 d2 e1 e2 hs hs1 hs2
      have hlgz_0 := blk_lt (HB.out.bk 0 rfl)
      have hlgz_1 := blk_lt (HB.out.bk 1 rfl)
      have hlgz_2 := blk_lt (HB.out.bk 2 rfl)
      replace HB := Aside0.mk (show Bx w [(w.heap.size, a, b), (w.heap.size + 1, c, d), (w.heap.size + 1 + 1, 0, 0), (wc.heap.size, 0, 0)] _ from HB.out.box rfl 0 0)
      generalize World.alloc wc _ = wv3 at HB ⊢
      generalize wc.heap.size = gz at HB hlgz_0 hlgz_1 hlgz_2 ⊢
      have C := HB.out.cl
      simp only [Cl, and_true] at C
      obtain ⟨_, _, _, _, _, _, _, _, _, _, _, _, _, _, _, _⟩ := C
      rcases ho.out with rfl | rfl | rfl | rfl | rfl | rfl | rfl | rfl | rfl | rfl
      all_goals clear ho
      · skip
        have hq : Aside0 (orv a b c d = (r, s)) := ⟨h.out⟩
        go_wp2_with fail
        (with_reducible refine (or5_c _ _ _ _ _ _ ia.out ib.out ic.out id.out hq.out _).mono ?_); rintro e wv4 ⟨rfl, hb⟩
        replace HB := Aside0.mk (HB.out.step hb)
        clear hb
        have C := HB.out.cl
        simp only [Cl, and_true] at C
        obtain ⟨_, _, _, _, _, _, _, _, _, _, _, _, _, _, _, _⟩ := C
        go_wp2_with fail
        obtain ⟨R1, R2⟩ := HB.out.ret 2 rfl (by omega) r s
        refine bodyPost_ret (results_cell_row rfl _ _ (w.heap.size + 1 + 1) 51 #[.int .i32 r, .int .i32 s] (0, 0) _ rfl R1 Try.underlying51 rfl (by kernel_rfl)) rfl ⟨rfl, R2⟩
      · skip
        have hq : Aside0 (xorv a b c d = (r, s)) := ⟨h.out⟩
        go_wp2_with fail
        (with_reducible refine (xor5_c _ _ _ _ _ _ ia.out ib.out ic.out id.out hq.out _).mono ?_); rintro e wv4 ⟨rfl, hb⟩
        replace HB := Aside0.mk (HB.out.step hb)
        clear hb
        have C := HB.out.cl
        simp only [Cl, and_true] at C
        obtain ⟨_, _, _, _, _, _, _, _, _, _, _, _, _, _, _, _⟩ := C
        go_wp2_with fail
        obtain ⟨R1, R2⟩ := HB.out.ret 2 rfl (by omega) r s
        refine bodyPost_ret (results_cell_row rfl _ _ (w.heap.size + 1 + 1) 51 #[.int .i32 r, .int .i32 s] (0, 0) _ rfl R1 Try.underlying51 rfl (by kernel_rfl)) rfl ⟨rfl, R2⟩
      · skip
        have hq : Aside0 (leftv a b c d = (r, s)) := ⟨h.out⟩
        go_wp2_with fail
        (with_reducible refine (left5_c _ _ _ _ _ _ ia.out ib.out ic.out id.out hq.out _).mono ?_); rintro e wv4 ⟨rfl, hb⟩
        replace HB := Aside0.mk (HB.out.step hb)
        clear hb
        have C := HB.out.cl
        simp only [Cl, and_true] at C
        obtain ⟨_, _, _, _, _, _, _, _, _, _, _, _, _, _, _, _⟩ := C
        go_wp2_with fail
        obtain ⟨R1, R2⟩ := HB.out.ret 2 rfl (by omega) r s
        refine bodyPost_ret (results_cell_row rfl _ _ (w.heap.size + 1 + 1) 51 #[.int .i32 r, .int .i32 s] (0, 0) _ rfl R1 Try.underlying51 rfl (by kernel_rfl)) rfl ⟨rfl, R2⟩
      · skip
        have hq : Aside0 (rightv a b c d = (r, s)) := ⟨h.out⟩
        go_wp2_with fail
        (with_reducible refine (right5_c _ _ _ _ _ _ ia.out ib.out ic.out id.out hq.out _).mono ?_); rintro e wv4 ⟨rfl, hb⟩
        replace HB := Aside0.mk (HB.out.step hb)
        clear hb
        have C := HB.out.cl
        simp only [Cl, and_true] at C
        obtain ⟨_, _, _, _, _, _, _, _, _, _, _, _, _, _, _, _⟩ := C
        go_wp2_with fail
        obtain ⟨R1, R2⟩ := HB.out.ret 2 rfl (by omega) r s
        refine bodyPost_ret (results_cell_row rfl _ _ (w.heap.size + 1 + 1) 51 #[.int .i32 r, .int .i32 s] (0, 0) _ rfl R1 Try.underlying51 rfl (by kernel_rfl)) rfl ⟨rfl, R2⟩
      · skip
        have hq : Aside0 (truthv false ap = (r, s)) := ⟨by rw [← hap.out, ← apart_eq hab.out hcd.out]; exact h.out⟩
        go_wp2_with fail
        (with_reducible refine (truth_c _ _ _ _ hq.out _).mono ?_); rintro e wv4 ⟨rfl, hb⟩
        replace HB := Aside0.mk (HB.out.step hb)
        clear hb
        have C := HB.out.cl
        simp only [Cl, and_true] at C
        obtain ⟨_, _, _, _, _, _, _, _, _, _, _, _, _, _, _, _⟩ := C
        go_wp2_with fail
        obtain ⟨R1, R2⟩ := HB.out.ret 2 rfl (by omega) r s
        refine bodyPost_ret (results_cell_row rfl _ _ (w.heap.size + 1 + 1) 51 #[.int .i32 r, .int .i32 s] (0, 0) _ rfl R1 Try.underlying51 rfl (by kernel_rfl)) rfl ⟨rfl, R2⟩
      · skip
        have hq : Aside0 (truthv ap false = (r, s)) := ⟨by rw [← hap.out, ← apart_eq hab.out hcd.out]; exact h.out⟩
        go_wp2_with fail
        (with_reducible refine (truth_c _ _ _ _ hq.out _).mono ?_); rintro e wv4 ⟨rfl, hb⟩
        replace HB := Aside0.mk (HB.out.step hb)
        clear hb
        have C := HB.out.cl
        simp only [Cl, and_true] at C
        obtain ⟨_, _, _, _, _, _, _, _, _, _, _, _, _, _, _, _⟩ := C
        go_wp2_with fail
        obtain ⟨R1, R2⟩ := HB.out.ret 2 rfl (by omega) r s
        refine bodyPost_ret (results_cell_row rfl _ _ (w.heap.size + 1 + 1) 51 #[.int .i32 r, .int .i32 s] (0, 0) _ rfl R1 Try.underlying51 rfl (by kernel_rfl)) rfl ⟨rfl, R2⟩
      · skip
        have hq : Aside0 (truthv (decide (b < c)) (decide (d ≤ a)) = (r, s)) := ⟨h.out⟩
        go_wp2_with fail
        (with_reducible refine (truth_c _ _ _ _ hq.out _).mono ?_); rintro e wv4 ⟨rfl, hb⟩
        replace HB := Aside0.mk (HB.out.step hb)
        clear hb
        have C := HB.out.cl
        simp only [Cl, and_true] at C
        obtain ⟨_, _, _, _, _, _, _, _, _, _, _, _, _, _, _, _⟩ := C
        go_wp2_with fail
        obtain ⟨R1, R2⟩ := HB.out.ret 2 rfl (by omega) r s
        refine bodyPost_ret (results_cell_row rfl _ _ (w.heap.size + 1 + 1) 51 #[.int .i32 r, .int .i32 s] (0, 0) _ rfl R1 Try.underlying51 rfl (by kernel_rfl)) rfl ⟨rfl, R2⟩
      · skip
        have hq : Aside0 (truthv (decide (b ≤ c)) (decide (d < a)) = (r, s)) := ⟨h.out⟩
        go_wp2_with fail
        (with_reducible refine (truth_c _ _ _ _ hq.out _).mono ?_); rintro e wv4 ⟨rfl, hb⟩
        replace HB := Aside0.mk (HB.out.step hb)
        clear hb
        have C := HB.out.cl
        simp only [Cl, and_true] at C
        obtain ⟨_, _, _, _, _, _, _, _, _, _, _, _, _, _, _, _⟩ := C
        go_wp2_with fail
        obtain ⟨R1, R2⟩ := HB.out.ret 2 rfl (by omega) r s
        refine bodyPost_ret (results_cell_row rfl _ _ (w.heap.size + 1 + 1) 51 #[.int .i32 r, .int .i32 s] (0, 0) _ rfl R1 Try.underlying51 rfl (by kernel_rfl)) rfl ⟨rfl, R2⟩
      · skip
        have hq : Aside0 (truthv (decide (d < a)) (decide (b ≤ c)) = (r, s)) := ⟨h.out⟩
        go_wp2_with fail
        (with_reducible refine (truth_c _ _ _ _ hq.out _).mono ?_); rintro e wv4 ⟨rfl, hb⟩
        replace HB := Aside0.mk (HB.out.step hb)
        clear hb
        have C := HB.out.cl
        simp only [Cl, and_true] at C
        obtain ⟨_, _, _, _, _, _, _, _, _, _, _, _, _, _, _, _⟩ := C
        go_wp2_with fail
        obtain ⟨R1, R2⟩ := HB.out.ret 2 rfl (by omega) r s
        refine bodyPost_ret (results_cell_row rfl _ _ (w.heap.size + 1 + 1) 51 #[.int .i32 r, .int .i32 s] (0, 0) _ rfl R1 Try.underlying51 rfl (by kernel_rfl)) rfl ⟨rfl, R2⟩
      · skip
        have hq : Aside0 (truthv (decide (d ≤ a)) (decide (b < c)) = (r, s)) := ⟨h.out⟩
        go_wp2_with fail
        (with_reducible refine (truth_c _ _ _ _ hq.out _).mono ?_); rintro e wv4 ⟨rfl, hb⟩
        replace HB := Aside0.mk (HB.out.step hb)
        clear hb
        have C := HB.out.cl
        simp only [Cl, and_true] at C
        obtain ⟨_, _, _, _, _, _, _, _, _, _, _, _, _, _, _, _⟩ := C
        go_wp2_with fail
        obtain ⟨R1, R2⟩ := HB.out.ret 2 rfl (by omega) r s
        refine bodyPost_ret (results_cell_row rfl _ _ (w.heap.size + 1 + 1) 51 #[.int .i32 r, .int .i32 s] (0, 0) _ rfl R1 Try.underlying51 rfl (by kernel_rfl)) rfl ⟨rfl, R2⟩

set_option maxHeartbeats 4000000 in
set_option maxRecDepth 100000 in
theorem ap_g3 (op a b c d r s : Int) (ia : Aside0 (I32 a)) (ib : Aside0 (I32 b)) (ic : Aside0 (I32 c)) (id : Aside0 (I32 d)) (d1 : decide (op < 6) = false) (d2 : decide (23 < op) = false) (e1 : Aside0 (decide (b < a) = false)) (e2 : Aside0 (decide (d < c) = false)) (hab : Aside0 (a ≤ b)) (hcd : Aside0 (c ≤ d)) (s1 s2 : Bool) (hs : Aside0 (s1 = false ∨ s2 = false)) (hs1 : Aside0 ((a == b) = s1)) (hs2 : Aside0 ((c == d) = s2)) (ap : Bool) (hap : Aside0 (decide (b < c ∨ d < a) = ap)) (h : Aside0 (ivg op a b c d = (r, s))) (ho : Aside0 (op = 22 ∨ op = 23)) (w : World) : Calls Try.prog 39 #[.int .u8 op, .agg #[.int .i32 a, .int .i32 b], .agg #[.int .i32 c, .int .i32 d]] w fun e w' => e = .returned (.agg #[.int .i32 r, .int .i32 s]) ∧ Below w.heap.size w w' := by
  have hu51 := Try.underlying51
  go_enter Try.func39, Try.ntmps39
  go_upto_region 1 with (fail)
  have HB := Aside0.mk (Bx.start3 w a b c d 0 0)
  generalize World.alloc (World.alloc (World.alloc w _) _) _ = w0 at HB ⊢
  have C := HB.out.cl
  simp only [Cl, and_true] at C
  obtain ⟨_, _, _, _, _, _, _, _, _, _, _, _⟩ := C
  go_wp2_with fail
  (with_reducible refine (isE_c _ _ _ e1.out _).mono ?_); rintro e wv1 ⟨rfl, hb⟩
  replace HB := Aside0.mk (HB.out.step hb)
  clear hb
  have C := HB.out.cl
  simp only [Cl, and_true] at C
  obtain ⟨_, _, _, _, _, _, _, _, _, _, _, _⟩ := C
  go_wp2_with fail
  (with_reducible refine (isE_c _ _ _ e2.out _).mono ?_); rintro e wv2 ⟨rfl, hb⟩
  replace HB := Aside0.mk (HB.out.step hb)
  clear hb
  have C := HB.out.cl
  simp only [Cl, and_true] at C
  obtain ⟨_, _, _, _, _, _, _, _, _, _, _, _⟩ := C
  go_upto_region 5 with (fail)
  go_cut [30] (fun v wc => v = .bool false ∧ Aside0 (Bx w [(w.heap.size, a, b), (w.heap.size + 1, c, d), (w.heap.size + 1 + 1, 0, 0)] wc))
  case first =>
    cases s1 with
    | false =>
      go_wp2_with fail
      (with_reducible refine (single_c _ _ _ hs1.out _).mono ?_); rintro e wv3 ⟨rfl, hb⟩
      replace HB := Aside0.mk (HB.out.step hb)
      clear hb
      have C := HB.out.cl
      simp only [Cl, and_true] at C
      obtain ⟨_, _, _, _, _, _, _, _, _, _, _, _⟩ := C
      go_wp2_with fail
      go_meet
      case rel => exact ⟨by first | rfl | (simp; done) | (simp [*]; done), HB⟩
    | true =>
      obtain rfl : s2 = false := by simpa using hs.out
      go_wp2_with fail
      (with_reducible refine (single_c _ _ _ hs1.out _).mono ?_); rintro e wv3 ⟨rfl, hb⟩
      replace HB := Aside0.mk (HB.out.step hb)
      clear hb
      have C := HB.out.cl
      simp only [Cl, and_true] at C
      obtain ⟨_, _, _, _, _, _, _, _, _, _, _, _⟩ := C
      go_wp2_with fail
      (with_reducible refine (single_c _ _ _ hs2.out _).mono ?_); rintro e wv4 ⟨rfl, hb⟩
      replace HB := Aside0.mk (HB.out.step hb)
      clear hb
      have C := HB.out.cl
      simp only [Cl, and_true] at C
      obtain ⟨_, _, _, _, _, _, _, _, _, _, _, _⟩ := C
      go_wp2_with fail
      go_meet
      case rel => exact ⟨by first | rfl | (simp; done) | (simp [*]; done), HB⟩
  case rest =>
    clear HB
    obtain ⟨rfl, HB⟩ := hcut
    have C := HB.out.cl
    simp only [Cl, and_true] at C
    obtain ⟨_, _, _, _, _, _, _, _, _, _, _, _⟩ := C
    go_upto_region 10 with (fail)
    go_cut [9] (fun v wc => v = .bool ap ∧ Aside0 (Bx w [(w.heap.size, a, b), (w.heap.size + 1, c, d), (w.heap.size + 1 + 1, 0, 0)] wc))
    case first =>
      by_cases k1 : b < c
      · have hv : Aside0 (true = ap) := ⟨by rw [← hap.out]; exact (decide_eq_true (.inl k1)).symm⟩
        have hp : decide (b < c) = true := decide_eq_true k1
        clear k1
        go_wp2_with fail
        go_meet
        case rel => exact ⟨congrArg Value.bool (by first | rfl | exact hv.out | exact hv.out.symm), HB⟩
      · have hv : Aside0 (decide (d < a) = ap) := ⟨by rw [← hap.out]; exact decide_eq_decide.mpr (by omega)⟩
        have hp : decide (b < c) = false := decide_eq_false k1
        clear k1
        go_wp2_with fail
        go_meet
        case rel => exact ⟨congrArg Value.bool (by first | rfl | exact hv.out | exact hv.out.symm), HB⟩
    case rest =>
      clear HB
      obtain ⟨rfl, HB⟩ := hcut
      have C := HB.out.cl
      simp only [Cl, and_true] at C
      obtain ⟨_, _, _, _, _, _, _, _, _, _, _, _⟩ := C
      go_upto_region 12 with (fail)
      clear d1 d2 e1 e2 hs hs1 hs2
      have hlgz_0 := blk_lt (HB.out.bk 0 rfl)
      have hlgz_1 := blk_lt (HB.out.bk 1 rfl)
      have hlgz_2 := blk_lt (HB.out.bk 2 rfl)
      replace HB := Aside0.mk (show Bx w [(w.heap.size, a, b), (w.heap.size + 1, c, d), (w.heap.size + 1 + 1, 0, 0), (wc.heap.size, 0, 0)] _ from HB.out.box rfl 0 0)
      generalize World.alloc wc _ = wv3 at HB ⊢
      generalize wc.heap.size = gz at HB hlgz_0 hlgz_1 hlgz_2 ⊢
      have C := HB.out.cl
      simp only [Cl, and_true] at C
      obtain ⟨_, _, _, _, _, _, _, _, _, _, _, _, _, _, _, _⟩ := C
      rcases ho.out with rfl | rfl
      all_goals clear ho
      · skip
        generalize hhx : hasv a b 0 = hx
        generalize hhy : hasv c d 0 = hy
        generalize hny : ((c == 0) && (d == 0)) = ny
        generalize hnx : ((a == 0) && (b == 0)) = nx
        have hq : Aside0 (truthv (!hx && !hy) (nx || ny) = (r, s)) := ⟨by rw [← hhx, ← hhy, ← hnx, ← hny, ← none_eq, ← none_eq]; exact h.out⟩
        have hxx : Aside0 (nx = true → hx = true) := ⟨fun k => by rw [← hnx, Bool.and_eq_true, beq_iff_eq, beq_iff_eq] at k; rw [← hhx]; exact decide_eq_true (by omega)⟩
        have HX := Aside0.mk hhx
        have HY := Aside0.mk hhy
        clear hhx hhy h
        cases nx with
        | true =>
          obtain rfl : hx = true := hxx.out rfl
          clear hxx
          replace hq : Aside0 (truthv (false) (true) = (r, s)) := ⟨by simpa using hq.out⟩
          go_upto_region 44 with (fail)
          replace HB := Aside0.mk (HB.out.drew)
          refine start_ (n := 18) (S := fun w' => w'.cell? ⟨w.heap.size, 0, none⟩ = some (.int .i32 a) ∧ w'.cell? ⟨w.heap.size, 1, none⟩ = some (.int .i32 b) ∧ w'.cell? ⟨gz, 0, none⟩ = some (.int .i32 0) ∧ w'.cell? ⟨gz, 1, none⟩ = some (.int .i32 0)) (ds := [17]) #[false, false, false, false, false, false, false, false, false, false, false, false, false, false, false, false, false, false] (by kernel_rfl) rfl rfl ⟨HB.out.c0 0 rfl, HB.out.c1 0 rfl, HB.out.c0 3 rfl, HB.out.c1 3 rfl⟩ (fun hHeld => ?_)
          generalize wv3.drew = wv4 at HB hHeld ⊢
          refine take_ (i := 0) (N := some 161) (v := ?_) (a' := ?_) (bl 18 1) rfl rfl (by kernel_rfl) (fun _ _ _ h => h) (Or.inl ⟨by rfl, ?_⟩) hHeld ?_ ?_
          rotate_left
          · rintro w' ⟨s0, s1, s2, s3⟩; go_simp; with_reducible rfl
          rotate_left
          · simp only [Act.put, zA, zB, zC, i64_w, i32_w]; rfl
          refine take_ (i := 8) (N := some 169) (v := ?_) (a' := ?_) (bl 18 257) rfl rfl (by kernel_rfl) (fun _ _ _ h => h) (Or.inl ⟨by rfl, ?_⟩) hHeld ?_ ?_
          rotate_left
          · rintro w' ⟨s0, s1, s2, s3⟩; go_simp; with_reducible rfl
          rotate_left
          · simp only [Act.put, zA, zB, zC, i64_w, i32_w]; rfl
          refine take_ (i := 9) (N := some 170) (v := ?_) (a' := ?_) (bl 18 769) rfl rfl (by kernel_rfl) (fun _ _ _ h => h) (Or.inl ⟨by rfl, ?_⟩) hHeld ?_ ?_
          rotate_left
          · rintro w' ⟨s0, s1, s2, s3⟩; go_simp; with_reducible rfl
          rotate_left
          · simp only [Act.put, zA, zB, zC, i64_w, i32_w]; rfl
          refine pure_ (i := 10) (N := some 171) (v := ?_) (a' := ?_) (bl 18 1793) rfl rfl (by kernel_rfl) (fun _ _ _ h => h) (Or.inl ⟨by rfl, ?_⟩) ?_ ?_
          rotate_left
          · intro w'; go_simp; with_reducible rfl
          rotate_left
          · simp only [Act.put, zA, zB, zC, i64_w, i32_w]; rfl
          refine one_ (i := 1) (N := some 162) (bl 18 1795) rfl rfl (by kernel_rfl) (by decide) (fun K hK => ?_)
          refine goes_ Try.func76 (by kernel_rfl) rfl #[.agg #[.int .i32 a, .int .i32 b], .int .i32 0] (by rfl) rfl rfl (by (try simp only [List.map_toArray, List.map_cons, List.map_nil]); first | done | rfl) ?_
          with_reducible refine (has_c _ _ _ _ HX.out _).mono ?_
          rintro e wv5 ⟨rfl, hb⟩; refine ⟨_, rfl, ?_⟩
          replace HB := Aside0.mk (HB.out.step hb); clear hb
          refine hK.out _ _ ⟨HB.out.c0 0 rfl, HB.out.c1 0 rfl, HB.out.c0 3 rfl, HB.out.c1 3 rfl⟩ (fun hHeld => ?_)
          clear hK K
          refine norm_ (a' := ?_) ?_ ?_; rotate_left
          · show Act.put _ (some 162) _ = _; simp only [Act.put, zA, zB, zC, i64_w, i32_w]; rfl
          refine pure_ (i := 2) (N := some 163) (v := ?_) (a' := ?_) (bl 18 1799) rfl rfl (by kernel_rfl) (fun _ _ _ h => h) (Or.inl ⟨by rfl, ?_⟩) ?_ ?_
          rotate_left
          · intro w'; go_simp; with_reducible rfl
          rotate_left
          · simp only [Act.put, zA, zB, zC, i64_w, i32_w]; rfl
          refine pure_ (i := 3) (N := some 164) (v := ?_) (a' := ?_) (bl 18 1807) rfl rfl (by kernel_rfl) (fun _ _ _ h => h) (Or.inl ⟨by rfl, ?_⟩) ?_ ?_
          rotate_left
          · intro w'; go_simp; with_reducible rfl
          rotate_left
          · simp only [Act.put, zA, zB, zC, i64_w, i32_w]; rfl
          refine pure_ (i := 4) (N := some 165) (v := undef) (a' := ?_) (bl 18 1823) rfl rfl (by kernel_rfl) (fun _ _ _ h => h) (Or.inr ⟨by rfl, rfl⟩) ?_ ?_
          rotate_left
          · simp only [Act.put, zA, zB, zC, i64_w, i32_w]; rfl
          refine pure_ (i := 5) (N := some 166) (v := undef) (a' := ?_) (bl 18 1855) rfl rfl (by kernel_rfl) (fun _ _ _ h => h) (Or.inr ⟨by rfl, rfl⟩) ?_ ?_
          rotate_left
          · simp only [Act.put, zA, zB, zC, i64_w, i32_w]; rfl
          refine pure_ (i := 6) (N := some 167) (v := undef) (a' := ?_) (bl 18 1919) rfl rfl (by kernel_rfl) (fun _ _ _ h => h) (Or.inr ⟨by rfl, rfl⟩) ?_ ?_
          rotate_left
          · simp only [Act.put, zA, zB, zC, i64_w, i32_w]; rfl
          refine pure_ (i := 7) (N := some 168) (v := ?_) (a' := ?_) (bl 18 2047) rfl rfl (by kernel_rfl) (fun _ _ _ h => h) (Or.inl ⟨by rfl, ?_⟩) ?_ ?_
          rotate_left
          · intro w'; go_simp; with_reducible rfl
          rotate_left
          · simp only [Act.put, zA, zB, zC, i64_w, i32_w]; rfl
          refine pure_ (i := 11) (N := some 172) (v := ?_) (a' := ?_) (bl 18 4095) rfl rfl (by kernel_rfl) (fun _ _ _ h => h) (Or.inl ⟨by rfl, ?_⟩) ?_ ?_
          rotate_left
          · intro w'; go_simp; with_reducible rfl
          rotate_left
          · simp only [Act.put, zA, zB, zC, i64_w, i32_w]; rfl
          refine pure_ (i := 12) (N := some 173) (v := undef) (a' := ?_) (bl 18 8191) rfl rfl (by kernel_rfl) (fun _ _ _ h => h) (Or.inr ⟨by rfl, rfl⟩) ?_ ?_
          rotate_left
          · simp only [Act.put, zA, zB, zC, i64_w, i32_w]; rfl
          refine pure_ (i := 13) (N := some 174) (v := undef) (a' := ?_) (bl 18 16383) rfl rfl (by kernel_rfl) (fun _ _ _ h => h) (Or.inr ⟨by rfl, rfl⟩) ?_ ?_
          rotate_left
          · simp only [Act.put, zA, zB, zC, i64_w, i32_w]; rfl
          refine pure_ (i := 14) (N := some 175) (v := undef) (a' := ?_) (bl 18 32767) rfl rfl (by kernel_rfl) (fun _ _ _ h => h) (Or.inr ⟨by rfl, rfl⟩) ?_ ?_
          rotate_left
          · simp only [Act.put, zA, zB, zC, i64_w, i32_w]; rfl
          refine pure_ (i := 15) (N := some 176) (v := ?_) (a' := ?_) (bl 18 65535) rfl rfl (by kernel_rfl) (fun _ _ _ h => h) (Or.inl ⟨by rfl, ?_⟩) ?_ ?_
          rotate_left
          · intro w'; go_simp; with_reducible rfl
          rotate_left
          · simp only [Act.put, zA, zB, zC, i64_w, i32_w]; rfl
          refine one_ (i := 16) (N := some 177) (bl 18 131071) rfl rfl (by kernel_rfl) (by decide) (fun K hK => ?_)
          refine goes_ Try.func75 (by kernel_rfl) rfl #[.bool (false), .bool (true)] (by rfl) rfl rfl (by (try simp only [List.map_toArray, List.map_cons, List.map_nil]); first | done | rfl) ?_
          with_reducible refine (truth_c _ _ _ _ hq.out _).mono ?_
          rintro e wv6 ⟨rfl, hb⟩; refine ⟨_, rfl, ?_⟩
          replace HB := Aside0.mk (HB.out.step hb); clear hb
          refine hK.out _ _ ⟨HB.out.c0 0 rfl, HB.out.c1 0 rfl, HB.out.c0 3 rfl, HB.out.c1 3 rfl⟩ (fun hHeld => ?_)
          clear hK K
          refine norm_ (a' := ?_) ?_ ?_; rotate_left
          · show Act.put _ (some 177) _ = _; simp only [Act.put, zA, zB, zC, i64_w, i32_w]; rfl
          refine last_ (i := 17) (N := none) (bl 18 262143) rfl rfl (by kernel_rfl) (by decide) (fun K hK => ?_)
          have C := HB.out.cl
          simp only [Cl, and_true] at C
          obtain ⟨_, _, _, _, _, _, _, _, _, _, _, _, _, _, _, _⟩ := C
          refine skip_ (w1 := ?_) (by rfl) rfl ?_ ?_
          rotate_left
          · go_simp
            rfl
          refine hK.out _ _ ?_
          clear hK K
          refine done_ (by kernel_rfl) ?_
          have C := HB.out.cl
          simp only [Cl, and_true] at C
          obtain ⟨_, _, _, _, _, _, _, _, _, _, _, _, _, _, _, _⟩ := C
          go_wp2_with fail
          obtain ⟨R1, R2⟩ := HB.out.ret 2 rfl (by omega) r s
          refine bodyPost_ret (results_cell_row rfl _ _ (w.heap.size + 1 + 1) 51 #[.int .i32 r, .int .i32 s] (0, 0) _ rfl R1 Try.underlying51 rfl (by kernel_rfl)) rfl ⟨rfl, R2⟩
        | false =>
          clear hxx
          cases hx with
          | true =>
            replace hq : Aside0 (truthv (false) (ny) = (r, s)) := ⟨by simpa using hq.out⟩
            go_upto_region 44 with (fail)
            replace HB := Aside0.mk (HB.out.drew)
            refine start_ (n := 18) (S := fun w' => w'.cell? ⟨w.heap.size, 0, none⟩ = some (.int .i32 a) ∧ w'.cell? ⟨w.heap.size, 1, none⟩ = some (.int .i32 b) ∧ w'.cell? ⟨w.heap.size + 1, 0, none⟩ = some (.int .i32 c) ∧ w'.cell? ⟨w.heap.size + 1, 1, none⟩ = some (.int .i32 d) ∧ w'.cell? ⟨gz, 0, none⟩ = some (.int .i32 0) ∧ w'.cell? ⟨gz, 1, none⟩ = some (.int .i32 0)) (ds := [17]) #[false, false, false, false, false, false, false, false, false, false, false, false, false, false, false, false, false, false] (by kernel_rfl) rfl rfl ⟨HB.out.c0 0 rfl, HB.out.c1 0 rfl, HB.out.c0 1 rfl, HB.out.c1 1 rfl, HB.out.c0 3 rfl, HB.out.c1 3 rfl⟩ (fun hHeld => ?_)
            generalize wv3.drew = wv4 at HB hHeld ⊢
            refine take_ (i := 0) (N := some 161) (v := ?_) (a' := ?_) (bl 18 1) rfl rfl (by kernel_rfl) (fun _ _ _ h => h) (Or.inl ⟨by rfl, ?_⟩) hHeld ?_ ?_
            rotate_left
            · rintro w' ⟨s0, s1, s2, s3, s4, s5⟩; go_simp; with_reducible rfl
            rotate_left
            · simp only [Act.put, zA, zB, zC, i64_w, i32_w]; rfl
            refine take_ (i := 8) (N := some 169) (v := ?_) (a' := ?_) (bl 18 257) rfl rfl (by kernel_rfl) (fun _ _ _ h => h) (Or.inl ⟨by rfl, ?_⟩) hHeld ?_ ?_
            rotate_left
            · rintro w' ⟨s0, s1, s2, s3, s4, s5⟩; go_simp; with_reducible rfl
            rotate_left
            · simp only [Act.put, zA, zB, zC, i64_w, i32_w]; rfl
            refine take_ (i := 9) (N := some 170) (v := ?_) (a' := ?_) (bl 18 769) rfl rfl (by kernel_rfl) (fun _ _ _ h => h) (Or.inl ⟨by rfl, ?_⟩) hHeld ?_ ?_
            rotate_left
            · rintro w' ⟨s0, s1, s2, s3, s4, s5⟩; go_simp; with_reducible rfl
            rotate_left
            · simp only [Act.put, zA, zB, zC, i64_w, i32_w]; rfl
            refine pure_ (i := 10) (N := some 171) (v := ?_) (a' := ?_) (bl 18 1793) rfl rfl (by kernel_rfl) (fun _ _ _ h => h) (Or.inl ⟨by rfl, ?_⟩) ?_ ?_
            rotate_left
            · intro w'; go_simp; with_reducible rfl
            rotate_left
            · simp only [Act.put, zA, zB, zC, i64_w, i32_w]; rfl
            refine one_ (i := 1) (N := some 162) (bl 18 1795) rfl rfl (by kernel_rfl) (by decide) (fun K hK => ?_)
            refine goes_ Try.func76 (by kernel_rfl) rfl #[.agg #[.int .i32 a, .int .i32 b], .int .i32 0] (by rfl) rfl rfl (by (try simp only [List.map_toArray, List.map_cons, List.map_nil]); first | done | rfl) ?_
            with_reducible refine (has_c _ _ _ _ HX.out _).mono ?_
            rintro e wv5 ⟨rfl, hb⟩; refine ⟨_, rfl, ?_⟩
            replace HB := Aside0.mk (HB.out.step hb); clear hb
            refine hK.out _ _ ⟨HB.out.c0 0 rfl, HB.out.c1 0 rfl, HB.out.c0 1 rfl, HB.out.c1 1 rfl, HB.out.c0 3 rfl, HB.out.c1 3 rfl⟩ (fun hHeld => ?_)
            clear hK K
            refine norm_ (a' := ?_) ?_ ?_; rotate_left
            · show Act.put _ (some 162) _ = _; simp only [Act.put, zA, zB, zC, i64_w, i32_w]; rfl
            refine pure_ (i := 2) (N := some 163) (v := ?_) (a' := ?_) (bl 18 1799) rfl rfl (by kernel_rfl) (fun _ _ _ h => h) (Or.inl ⟨by rfl, ?_⟩) ?_ ?_
            rotate_left
            · intro w'; go_simp; with_reducible rfl
            rotate_left
            · simp only [Act.put, zA, zB, zC, i64_w, i32_w]; rfl
            refine pure_ (i := 3) (N := some 164) (v := ?_) (a' := ?_) (bl 18 1807) rfl rfl (by kernel_rfl) (fun _ _ _ h => h) (Or.inl ⟨by rfl, ?_⟩) ?_ ?_
            rotate_left
            · intro w'; go_simp; with_reducible rfl
            rotate_left
            · simp only [Act.put, zA, zB, zC, i64_w, i32_w]; rfl
            refine pure_ (i := 4) (N := some 165) (v := undef) (a' := ?_) (bl 18 1823) rfl rfl (by kernel_rfl) (fun _ _ _ h => h) (Or.inr ⟨by rfl, rfl⟩) ?_ ?_
            rotate_left
            · simp only [Act.put, zA, zB, zC, i64_w, i32_w]; rfl
            refine pure_ (i := 5) (N := some 166) (v := undef) (a' := ?_) (bl 18 1855) rfl rfl (by kernel_rfl) (fun _ _ _ h => h) (Or.inr ⟨by rfl, rfl⟩) ?_ ?_
            rotate_left
            · simp only [Act.put, zA, zB, zC, i64_w, i32_w]; rfl
            refine pure_ (i := 6) (N := some 167) (v := undef) (a' := ?_) (bl 18 1919) rfl rfl (by kernel_rfl) (fun _ _ _ h => h) (Or.inr ⟨by rfl, rfl⟩) ?_ ?_
            rotate_left
            · simp only [Act.put, zA, zB, zC, i64_w, i32_w]; rfl
            refine pure_ (i := 7) (N := some 168) (v := ?_) (a' := ?_) (bl 18 2047) rfl rfl (by kernel_rfl) (fun _ _ _ h => h) (Or.inl ⟨by rfl, ?_⟩) ?_ ?_
            rotate_left
            · intro w'; go_simp; with_reducible rfl
            rotate_left
            · simp only [Act.put, zA, zB, zC, i64_w, i32_w]; rfl
            refine pure_ (i := 11) (N := some 172) (v := ?_) (a' := ?_) (bl 18 4095) rfl rfl (by kernel_rfl) (fun _ _ _ h => h) (Or.inl ⟨by rfl, ?_⟩) ?_ ?_
            rotate_left
            · intro w'; go_simp; with_reducible rfl
            rotate_left
            · simp only [Act.put, zA, zB, zC, i64_w, i32_w]; rfl
            refine take_ (i := 12) (N := some 173) (v := ?_) (a' := ?_) (bl 18 8191) rfl rfl (by kernel_rfl) (fun _ _ _ h => h) (Or.inl ⟨by rfl, ?_⟩) hHeld ?_ ?_
            rotate_left
            · rintro w' ⟨s0, s1, s2, s3, s4, s5⟩; go_simp; with_reducible rfl
            rotate_left
            · simp only [Act.put, zA, zB, zC, i64_w, i32_w]; rfl
            refine take_ (i := 13) (N := some 174) (v := ?_) (a' := ?_) (bl 18 16383) rfl rfl (by kernel_rfl) (fun _ _ _ h => h) (Or.inl ⟨by rfl, ?_⟩) hHeld ?_ ?_
            rotate_left
            · rintro w' ⟨s0, s1, s2, s3, s4, s5⟩; go_simp; with_reducible rfl
            rotate_left
            · simp only [Act.put, zA, zB, zC, i64_w, i32_w]; rfl
            refine pure_ (i := 14) (N := some 175) (v := ?_) (a' := ?_) (bl 18 32767) rfl rfl (by kernel_rfl) (fun _ _ _ h => h) (Or.inl ⟨by rfl, ?_⟩) ?_ ?_
            rotate_left
            · intro w'; go_simp; with_reducible rfl
            rotate_left
            · simp only [Act.put, zA, zB, zC, i64_w, i32_w]; rfl
            refine pure_ (i := 15) (N := some 176) (v := ?_) (a' := ?_) (bl 18 65535) rfl rfl (by kernel_rfl) (fun _ _ _ h => h) (Or.inl ⟨by rfl, ?_⟩) ?_ ?_
            rotate_left
            · intro w'; go_simp; with_reducible rfl
            rotate_left
            · simp only [Act.put, zA, zB, zC, i64_w, i32_w]; rfl
            refine one_ (i := 16) (N := some 177) (bl 18 131071) rfl rfl (by kernel_rfl) (by decide) (fun K hK => ?_)
            refine goes_ Try.func75 (by kernel_rfl) rfl #[.bool (false), .bool (ny)] (by rfl) rfl rfl (by (try simp only [List.map_toArray, List.map_cons, List.map_nil]); first | done | rfl) ?_
            with_reducible refine (truth_c _ _ _ _ hq.out _).mono ?_
            rintro e wv6 ⟨rfl, hb⟩; refine ⟨_, rfl, ?_⟩
            replace HB := Aside0.mk (HB.out.step hb); clear hb
            refine hK.out _ _ ⟨HB.out.c0 0 rfl, HB.out.c1 0 rfl, HB.out.c0 1 rfl, HB.out.c1 1 rfl, HB.out.c0 3 rfl, HB.out.c1 3 rfl⟩ (fun hHeld => ?_)
            clear hK K
            refine norm_ (a' := ?_) ?_ ?_; rotate_left
            · show Act.put _ (some 177) _ = _; simp only [Act.put, zA, zB, zC, i64_w, i32_w]; rfl
            refine last_ (i := 17) (N := none) (bl 18 262143) rfl rfl (by kernel_rfl) (by decide) (fun K hK => ?_)
            have C := HB.out.cl
            simp only [Cl, and_true] at C
            obtain ⟨_, _, _, _, _, _, _, _, _, _, _, _, _, _, _, _⟩ := C
            refine skip_ (w1 := ?_) (by rfl) rfl ?_ ?_
            rotate_left
            · go_simp
              rfl
            refine hK.out _ _ ?_
            clear hK K
            refine done_ (by kernel_rfl) ?_
            have C := HB.out.cl
            simp only [Cl, and_true] at C
            obtain ⟨_, _, _, _, _, _, _, _, _, _, _, _, _, _, _, _⟩ := C
            go_wp2_with fail
            obtain ⟨R1, R2⟩ := HB.out.ret 2 rfl (by omega) r s
            refine bodyPost_ret (results_cell_row rfl _ _ (w.heap.size + 1 + 1) 51 #[.int .i32 r, .int .i32 s] (0, 0) _ rfl R1 Try.underlying51 rfl (by kernel_rfl)) rfl ⟨rfl, R2⟩
          | false =>
            replace hq : Aside0 (truthv (!hy) (ny) = (r, s)) := ⟨by simpa using hq.out⟩
            go_upto_region 44 with (fail)
            replace HB := Aside0.mk (HB.out.drew)
            refine start_ (n := 18) (S := fun w' => w'.cell? ⟨w.heap.size, 0, none⟩ = some (.int .i32 a) ∧ w'.cell? ⟨w.heap.size, 1, none⟩ = some (.int .i32 b) ∧ w'.cell? ⟨w.heap.size + 1, 0, none⟩ = some (.int .i32 c) ∧ w'.cell? ⟨w.heap.size + 1, 1, none⟩ = some (.int .i32 d) ∧ w'.cell? ⟨gz, 0, none⟩ = some (.int .i32 0) ∧ w'.cell? ⟨gz, 1, none⟩ = some (.int .i32 0)) (ds := [17]) #[false, false, false, false, false, false, false, false, false, false, false, false, false, false, false, false, false, false] (by kernel_rfl) rfl rfl ⟨HB.out.c0 0 rfl, HB.out.c1 0 rfl, HB.out.c0 1 rfl, HB.out.c1 1 rfl, HB.out.c0 3 rfl, HB.out.c1 3 rfl⟩ (fun hHeld => ?_)
            generalize wv3.drew = wv4 at HB hHeld ⊢
            refine take_ (i := 0) (N := some 161) (v := ?_) (a' := ?_) (bl 18 1) rfl rfl (by kernel_rfl) (fun _ _ _ h => h) (Or.inl ⟨by rfl, ?_⟩) hHeld ?_ ?_
            rotate_left
            · rintro w' ⟨s0, s1, s2, s3, s4, s5⟩; go_simp; with_reducible rfl
            rotate_left
            · simp only [Act.put, zA, zB, zC, i64_w, i32_w]; rfl
            refine take_ (i := 8) (N := some 169) (v := ?_) (a' := ?_) (bl 18 257) rfl rfl (by kernel_rfl) (fun _ _ _ h => h) (Or.inl ⟨by rfl, ?_⟩) hHeld ?_ ?_
            rotate_left
            · rintro w' ⟨s0, s1, s2, s3, s4, s5⟩; go_simp; with_reducible rfl
            rotate_left
            · simp only [Act.put, zA, zB, zC, i64_w, i32_w]; rfl
            refine take_ (i := 9) (N := some 170) (v := ?_) (a' := ?_) (bl 18 769) rfl rfl (by kernel_rfl) (fun _ _ _ h => h) (Or.inl ⟨by rfl, ?_⟩) hHeld ?_ ?_
            rotate_left
            · rintro w' ⟨s0, s1, s2, s3, s4, s5⟩; go_simp; with_reducible rfl
            rotate_left
            · simp only [Act.put, zA, zB, zC, i64_w, i32_w]; rfl
            refine pure_ (i := 10) (N := some 171) (v := ?_) (a' := ?_) (bl 18 1793) rfl rfl (by kernel_rfl) (fun _ _ _ h => h) (Or.inl ⟨by rfl, ?_⟩) ?_ ?_
            rotate_left
            · intro w'; go_simp; with_reducible rfl
            rotate_left
            · simp only [Act.put, zA, zB, zC, i64_w, i32_w]; rfl
            refine one_ (i := 1) (N := some 162) (bl 18 1795) rfl rfl (by kernel_rfl) (by decide) (fun K hK => ?_)
            refine goes_ Try.func76 (by kernel_rfl) rfl #[.agg #[.int .i32 a, .int .i32 b], .int .i32 0] (by rfl) rfl rfl (by (try simp only [List.map_toArray, List.map_cons, List.map_nil]); first | done | rfl) ?_
            with_reducible refine (has_c _ _ _ _ HX.out _).mono ?_
            rintro e wv5 ⟨rfl, hb⟩; refine ⟨_, rfl, ?_⟩
            replace HB := Aside0.mk (HB.out.step hb); clear hb
            refine hK.out _ _ ⟨HB.out.c0 0 rfl, HB.out.c1 0 rfl, HB.out.c0 1 rfl, HB.out.c1 1 rfl, HB.out.c0 3 rfl, HB.out.c1 3 rfl⟩ (fun hHeld => ?_)
            clear hK K
            refine norm_ (a' := ?_) ?_ ?_; rotate_left
            · show Act.put _ (some 162) _ = _; simp only [Act.put, zA, zB, zC, i64_w, i32_w]; rfl
            refine pure_ (i := 2) (N := some 163) (v := ?_) (a' := ?_) (bl 18 1799) rfl rfl (by kernel_rfl) (fun _ _ _ h => h) (Or.inl ⟨by rfl, ?_⟩) ?_ ?_
            rotate_left
            · intro w'; go_simp; with_reducible rfl
            rotate_left
            · simp only [Act.put, zA, zB, zC, i64_w, i32_w]; rfl
            refine pure_ (i := 3) (N := some 164) (v := ?_) (a' := ?_) (bl 18 1807) rfl rfl (by kernel_rfl) (fun _ _ _ h => h) (Or.inl ⟨by rfl, ?_⟩) ?_ ?_
            rotate_left
            · intro w'; go_simp; with_reducible rfl
            rotate_left
            · simp only [Act.put, zA, zB, zC, i64_w, i32_w]; rfl
            refine take_ (i := 4) (N := some 165) (v := ?_) (a' := ?_) (bl 18 1823) rfl rfl (by kernel_rfl) (fun _ _ _ h => h) (Or.inl ⟨by rfl, ?_⟩) hHeld ?_ ?_
            rotate_left
            · rintro w' ⟨s0, s1, s2, s3, s4, s5⟩; go_simp; with_reducible rfl
            rotate_left
            · simp only [Act.put, zA, zB, zC, i64_w, i32_w]; rfl
            refine one_ (i := 5) (N := some 166) (bl 18 1855) rfl rfl (by kernel_rfl) (by decide) (fun K hK => ?_)
            refine goes_ Try.func76 (by kernel_rfl) rfl #[.agg #[.int .i32 c, .int .i32 d], .int .i32 0] (by rfl) rfl rfl (by (try simp only [List.map_toArray, List.map_cons, List.map_nil]); first | done | rfl) ?_
            with_reducible refine (has_c _ _ _ _ HY.out _).mono ?_
            rintro e wv6 ⟨rfl, hb⟩; refine ⟨_, rfl, ?_⟩
            replace HB := Aside0.mk (HB.out.step hb); clear hb
            refine hK.out _ _ ⟨HB.out.c0 0 rfl, HB.out.c1 0 rfl, HB.out.c0 1 rfl, HB.out.c1 1 rfl, HB.out.c0 3 rfl, HB.out.c1 3 rfl⟩ (fun hHeld => ?_)
            clear hK K
            refine norm_ (a' := ?_) ?_ ?_; rotate_left
            · show Act.put _ (some 166) _ = _; simp only [Act.put, zA, zB, zC, i64_w, i32_w]; rfl
            refine pure_ (i := 6) (N := some 167) (v := ?_) (a' := ?_) (bl 18 1919) rfl rfl (by kernel_rfl) (fun _ _ _ h => h) (Or.inl ⟨by rfl, ?_⟩) ?_ ?_
            rotate_left
            · intro w'; go_simp; with_reducible rfl
            rotate_left
            · simp only [Act.put, zA, zB, zC, i64_w, i32_w]; rfl
            refine pure_ (i := 7) (N := some 168) (v := ?_) (a' := ?_) (bl 18 2047) rfl rfl (by kernel_rfl) (fun _ _ _ h => h) (Or.inl ⟨by rfl, ?_⟩) ?_ ?_
            rotate_left
            · intro w'; go_simp; with_reducible rfl
            rotate_left
            · simp only [Act.put, zA, zB, zC, i64_w, i32_w]; rfl
            refine pure_ (i := 11) (N := some 172) (v := ?_) (a' := ?_) (bl 18 4095) rfl rfl (by kernel_rfl) (fun _ _ _ h => h) (Or.inl ⟨by rfl, ?_⟩) ?_ ?_
            rotate_left
            · intro w'; go_simp; with_reducible rfl
            rotate_left
            · simp only [Act.put, zA, zB, zC, i64_w, i32_w]; rfl
            refine take_ (i := 12) (N := some 173) (v := ?_) (a' := ?_) (bl 18 8191) rfl rfl (by kernel_rfl) (fun _ _ _ h => h) (Or.inl ⟨by rfl, ?_⟩) hHeld ?_ ?_
            rotate_left
            · rintro w' ⟨s0, s1, s2, s3, s4, s5⟩; go_simp; with_reducible rfl
            rotate_left
            · simp only [Act.put, zA, zB, zC, i64_w, i32_w]; rfl
            refine take_ (i := 13) (N := some 174) (v := ?_) (a' := ?_) (bl 18 16383) rfl rfl (by kernel_rfl) (fun _ _ _ h => h) (Or.inl ⟨by rfl, ?_⟩) hHeld ?_ ?_
            rotate_left
            · rintro w' ⟨s0, s1, s2, s3, s4, s5⟩; go_simp; with_reducible rfl
            rotate_left
            · simp only [Act.put, zA, zB, zC, i64_w, i32_w]; rfl
            refine pure_ (i := 14) (N := some 175) (v := ?_) (a' := ?_) (bl 18 32767) rfl rfl (by kernel_rfl) (fun _ _ _ h => h) (Or.inl ⟨by rfl, ?_⟩) ?_ ?_
            rotate_left
            · intro w'; go_simp; with_reducible rfl
            rotate_left
            · simp only [Act.put, zA, zB, zC, i64_w, i32_w]; rfl
            refine pure_ (i := 15) (N := some 176) (v := ?_) (a' := ?_) (bl 18 65535) rfl rfl (by kernel_rfl) (fun _ _ _ h => h) (Or.inl ⟨by rfl, ?_⟩) ?_ ?_
            rotate_left
            · intro w'; go_simp; with_reducible rfl
            rotate_left
            · simp only [Act.put, zA, zB, zC, i64_w, i32_w]; rfl
            refine one_ (i := 16) (N := some 177) (bl 18 131071) rfl rfl (by kernel_rfl) (by decide) (fun K hK => ?_)
            refine goes_ Try.func75 (by kernel_rfl) rfl #[.bool (!hy), .bool (ny)] (by rfl) rfl rfl (by (try simp only [List.map_toArray, List.map_cons, List.map_nil]); first | done | rfl) ?_
            with_reducible refine (truth_c _ _ _ _ hq.out _).mono ?_
            rintro e wv7 ⟨rfl, hb⟩; refine ⟨_, rfl, ?_⟩
            replace HB := Aside0.mk (HB.out.step hb); clear hb
            refine hK.out _ _ ⟨HB.out.c0 0 rfl, HB.out.c1 0 rfl, HB.out.c0 1 rfl, HB.out.c1 1 rfl, HB.out.c0 3 rfl, HB.out.c1 3 rfl⟩ (fun hHeld => ?_)
            clear hK K
            refine norm_ (a' := ?_) ?_ ?_; rotate_left
            · show Act.put _ (some 177) _ = _; simp only [Act.put, zA, zB, zC, i64_w, i32_w]; rfl
            refine last_ (i := 17) (N := none) (bl 18 262143) rfl rfl (by kernel_rfl) (by decide) (fun K hK => ?_)
            have C := HB.out.cl
            simp only [Cl, and_true] at C
            obtain ⟨_, _, _, _, _, _, _, _, _, _, _, _, _, _, _, _⟩ := C
            refine skip_ (w1 := ?_) (by rfl) rfl ?_ ?_
            rotate_left
            · go_simp
              rfl
            refine hK.out _ _ ?_
            clear hK K
            refine done_ (by kernel_rfl) ?_
            have C := HB.out.cl
            simp only [Cl, and_true] at C
            obtain ⟨_, _, _, _, _, _, _, _, _, _, _, _, _, _, _, _⟩ := C
            go_wp2_with fail
            obtain ⟨R1, R2⟩ := HB.out.ret 2 rfl (by omega) r s
            refine bodyPost_ret (results_cell_row rfl _ _ (w.heap.size + 1 + 1) 51 #[.int .i32 r, .int .i32 s] (0, 0) _ rfl R1 Try.underlying51 rfl (by kernel_rfl)) rfl ⟨rfl, R2⟩
      · skip
        generalize hhx : hasv a b 0 = hx
        generalize hhy : hasv c d 0 = hy
        generalize hny : ((c == 0) && (d == 0)) = ny
        generalize hnx : ((a == 0) && (b == 0)) = nx
        have hq : Aside0 (truthv (!hx || !hy) (nx && ny) = (r, s)) := ⟨by rw [← hhx, ← hhy, ← hnx, ← hny, ← none_eq, ← none_eq]; exact h.out⟩
        have hxx : Aside0 (nx = true → hx = true) := ⟨fun k => by rw [← hnx, Bool.and_eq_true, beq_iff_eq, beq_iff_eq] at k; rw [← hhx]; exact decide_eq_true (by omega)⟩
        have HX := Aside0.mk hhx
        have HY := Aside0.mk hhy
        clear hhx hhy h
        cases nx with
        | true =>
          obtain rfl : hx = true := hxx.out rfl
          clear hxx
          replace hq : Aside0 (truthv (!hy) (ny) = (r, s)) := ⟨by simpa using hq.out⟩
          go_upto_region 45 with (fail)
          replace HB := Aside0.mk (HB.out.drew)
          refine start_ (n := 18) (S := fun w' => w'.cell? ⟨w.heap.size, 0, none⟩ = some (.int .i32 a) ∧ w'.cell? ⟨w.heap.size, 1, none⟩ = some (.int .i32 b) ∧ w'.cell? ⟨w.heap.size + 1, 0, none⟩ = some (.int .i32 c) ∧ w'.cell? ⟨w.heap.size + 1, 1, none⟩ = some (.int .i32 d) ∧ w'.cell? ⟨gz, 0, none⟩ = some (.int .i32 0) ∧ w'.cell? ⟨gz, 1, none⟩ = some (.int .i32 0)) (ds := [17]) #[false, false, false, false, false, false, false, false, false, false, false, false, false, false, false, false, false, false] (by kernel_rfl) rfl rfl ⟨HB.out.c0 0 rfl, HB.out.c1 0 rfl, HB.out.c0 1 rfl, HB.out.c1 1 rfl, HB.out.c0 3 rfl, HB.out.c1 3 rfl⟩ (fun hHeld => ?_)
          generalize wv3.drew = wv4 at HB hHeld ⊢
          refine take_ (i := 0) (N := some 178) (v := ?_) (a' := ?_) (bl 18 1) rfl rfl (by kernel_rfl) (fun _ _ _ h => h) (Or.inl ⟨by rfl, ?_⟩) hHeld ?_ ?_
          rotate_left
          · rintro w' ⟨s0, s1, s2, s3, s4, s5⟩; go_simp; with_reducible rfl
          rotate_left
          · simp only [Act.put, zA, zB, zC, i64_w, i32_w]; rfl
          refine take_ (i := 8) (N := some 186) (v := ?_) (a' := ?_) (bl 18 257) rfl rfl (by kernel_rfl) (fun _ _ _ h => h) (Or.inl ⟨by rfl, ?_⟩) hHeld ?_ ?_
          rotate_left
          · rintro w' ⟨s0, s1, s2, s3, s4, s5⟩; go_simp; with_reducible rfl
          rotate_left
          · simp only [Act.put, zA, zB, zC, i64_w, i32_w]; rfl
          refine take_ (i := 9) (N := some 187) (v := ?_) (a' := ?_) (bl 18 769) rfl rfl (by kernel_rfl) (fun _ _ _ h => h) (Or.inl ⟨by rfl, ?_⟩) hHeld ?_ ?_
          rotate_left
          · rintro w' ⟨s0, s1, s2, s3, s4, s5⟩; go_simp; with_reducible rfl
          rotate_left
          · simp only [Act.put, zA, zB, zC, i64_w, i32_w]; rfl
          refine pure_ (i := 10) (N := some 188) (v := ?_) (a' := ?_) (bl 18 1793) rfl rfl (by kernel_rfl) (fun _ _ _ h => h) (Or.inl ⟨by rfl, ?_⟩) ?_ ?_
          rotate_left
          · intro w'; go_simp; with_reducible rfl
          rotate_left
          · simp only [Act.put, zA, zB, zC, i64_w, i32_w]; rfl
          refine one_ (i := 1) (N := some 179) (bl 18 1795) rfl rfl (by kernel_rfl) (by decide) (fun K hK => ?_)
          refine goes_ Try.func76 (by kernel_rfl) rfl #[.agg #[.int .i32 a, .int .i32 b], .int .i32 0] (by rfl) rfl rfl (by (try simp only [List.map_toArray, List.map_cons, List.map_nil]); first | done | rfl) ?_
          with_reducible refine (has_c _ _ _ _ HX.out _).mono ?_
          rintro e wv5 ⟨rfl, hb⟩; refine ⟨_, rfl, ?_⟩
          replace HB := Aside0.mk (HB.out.step hb); clear hb
          refine hK.out _ _ ⟨HB.out.c0 0 rfl, HB.out.c1 0 rfl, HB.out.c0 1 rfl, HB.out.c1 1 rfl, HB.out.c0 3 rfl, HB.out.c1 3 rfl⟩ (fun hHeld => ?_)
          clear hK K
          refine norm_ (a' := ?_) ?_ ?_; rotate_left
          · show Act.put _ (some 179) _ = _; simp only [Act.put, zA, zB, zC, i64_w, i32_w]; rfl
          refine pure_ (i := 2) (N := some 180) (v := ?_) (a' := ?_) (bl 18 1799) rfl rfl (by kernel_rfl) (fun _ _ _ h => h) (Or.inl ⟨by rfl, ?_⟩) ?_ ?_
          rotate_left
          · intro w'; go_simp; with_reducible rfl
          rotate_left
          · simp only [Act.put, zA, zB, zC, i64_w, i32_w]; rfl
          refine pure_ (i := 3) (N := some 181) (v := ?_) (a' := ?_) (bl 18 1807) rfl rfl (by kernel_rfl) (fun _ _ _ h => h) (Or.inl ⟨by rfl, ?_⟩) ?_ ?_
          rotate_left
          · intro w'; go_simp; with_reducible rfl
          rotate_left
          · simp only [Act.put, zA, zB, zC, i64_w, i32_w]; rfl
          refine take_ (i := 4) (N := some 182) (v := ?_) (a' := ?_) (bl 18 1823) rfl rfl (by kernel_rfl) (fun _ _ _ h => h) (Or.inl ⟨by rfl, ?_⟩) hHeld ?_ ?_
          rotate_left
          · rintro w' ⟨s0, s1, s2, s3, s4, s5⟩; go_simp; with_reducible rfl
          rotate_left
          · simp only [Act.put, zA, zB, zC, i64_w, i32_w]; rfl
          refine one_ (i := 5) (N := some 183) (bl 18 1855) rfl rfl (by kernel_rfl) (by decide) (fun K hK => ?_)
          refine goes_ Try.func76 (by kernel_rfl) rfl #[.agg #[.int .i32 c, .int .i32 d], .int .i32 0] (by rfl) rfl rfl (by (try simp only [List.map_toArray, List.map_cons, List.map_nil]); first | done | rfl) ?_
          with_reducible refine (has_c _ _ _ _ HY.out _).mono ?_
          rintro e wv6 ⟨rfl, hb⟩; refine ⟨_, rfl, ?_⟩
          replace HB := Aside0.mk (HB.out.step hb); clear hb
          refine hK.out _ _ ⟨HB.out.c0 0 rfl, HB.out.c1 0 rfl, HB.out.c0 1 rfl, HB.out.c1 1 rfl, HB.out.c0 3 rfl, HB.out.c1 3 rfl⟩ (fun hHeld => ?_)
          clear hK K
          refine norm_ (a' := ?_) ?_ ?_; rotate_left
          · show Act.put _ (some 183) _ = _; simp only [Act.put, zA, zB, zC, i64_w, i32_w]; rfl
          refine pure_ (i := 6) (N := some 184) (v := ?_) (a' := ?_) (bl 18 1919) rfl rfl (by kernel_rfl) (fun _ _ _ h => h) (Or.inl ⟨by rfl, ?_⟩) ?_ ?_
          rotate_left
          · intro w'; go_simp; with_reducible rfl
          rotate_left
          · simp only [Act.put, zA, zB, zC, i64_w, i32_w]; rfl
          refine pure_ (i := 7) (N := some 185) (v := ?_) (a' := ?_) (bl 18 2047) rfl rfl (by kernel_rfl) (fun _ _ _ h => h) (Or.inl ⟨by rfl, ?_⟩) ?_ ?_
          rotate_left
          · intro w'; go_simp; with_reducible rfl
          rotate_left
          · simp only [Act.put, zA, zB, zC, i64_w, i32_w]; rfl
          refine pure_ (i := 11) (N := some 189) (v := ?_) (a' := ?_) (bl 18 4095) rfl rfl (by kernel_rfl) (fun _ _ _ h => h) (Or.inl ⟨by rfl, ?_⟩) ?_ ?_
          rotate_left
          · intro w'; go_simp; with_reducible rfl
          rotate_left
          · simp only [Act.put, zA, zB, zC, i64_w, i32_w]; rfl
          refine take_ (i := 12) (N := some 190) (v := ?_) (a' := ?_) (bl 18 8191) rfl rfl (by kernel_rfl) (fun _ _ _ h => h) (Or.inl ⟨by rfl, ?_⟩) hHeld ?_ ?_
          rotate_left
          · rintro w' ⟨s0, s1, s2, s3, s4, s5⟩; go_simp; with_reducible rfl
          rotate_left
          · simp only [Act.put, zA, zB, zC, i64_w, i32_w]; rfl
          refine take_ (i := 13) (N := some 191) (v := ?_) (a' := ?_) (bl 18 16383) rfl rfl (by kernel_rfl) (fun _ _ _ h => h) (Or.inl ⟨by rfl, ?_⟩) hHeld ?_ ?_
          rotate_left
          · rintro w' ⟨s0, s1, s2, s3, s4, s5⟩; go_simp; with_reducible rfl
          rotate_left
          · simp only [Act.put, zA, zB, zC, i64_w, i32_w]; rfl
          refine pure_ (i := 14) (N := some 192) (v := ?_) (a' := ?_) (bl 18 32767) rfl rfl (by kernel_rfl) (fun _ _ _ h => h) (Or.inl ⟨by rfl, ?_⟩) ?_ ?_
          rotate_left
          · intro w'; go_simp; with_reducible rfl
          rotate_left
          · simp only [Act.put, zA, zB, zC, i64_w, i32_w]; rfl
          refine pure_ (i := 15) (N := some 193) (v := ?_) (a' := ?_) (bl 18 65535) rfl rfl (by kernel_rfl) (fun _ _ _ h => h) (Or.inl ⟨by rfl, ?_⟩) ?_ ?_
          rotate_left
          · intro w'; go_simp; with_reducible rfl
          rotate_left
          · simp only [Act.put, zA, zB, zC, i64_w, i32_w]; rfl
          refine one_ (i := 16) (N := some 194) (bl 18 131071) rfl rfl (by kernel_rfl) (by decide) (fun K hK => ?_)
          refine goes_ Try.func75 (by kernel_rfl) rfl #[.bool (!hy), .bool (ny)] (by rfl) rfl rfl (by (try simp only [List.map_toArray, List.map_cons, List.map_nil]); first | done | rfl) ?_
          with_reducible refine (truth_c _ _ _ _ hq.out _).mono ?_
          rintro e wv7 ⟨rfl, hb⟩; refine ⟨_, rfl, ?_⟩
          replace HB := Aside0.mk (HB.out.step hb); clear hb
          refine hK.out _ _ ⟨HB.out.c0 0 rfl, HB.out.c1 0 rfl, HB.out.c0 1 rfl, HB.out.c1 1 rfl, HB.out.c0 3 rfl, HB.out.c1 3 rfl⟩ (fun hHeld => ?_)
          clear hK K
          refine norm_ (a' := ?_) ?_ ?_; rotate_left
          · show Act.put _ (some 194) _ = _; simp only [Act.put, zA, zB, zC, i64_w, i32_w]; rfl
          refine last_ (i := 17) (N := none) (bl 18 262143) rfl rfl (by kernel_rfl) (by decide) (fun K hK => ?_)
          have C := HB.out.cl
          simp only [Cl, and_true] at C
          obtain ⟨_, _, _, _, _, _, _, _, _, _, _, _, _, _, _, _⟩ := C
          refine skip_ (w1 := ?_) (by rfl) rfl ?_ ?_
          rotate_left
          · go_simp
            rfl
          refine hK.out _ _ ?_
          clear hK K
          refine done_ (by kernel_rfl) ?_
          have C := HB.out.cl
          simp only [Cl, and_true] at C
          obtain ⟨_, _, _, _, _, _, _, _, _, _, _, _, _, _, _, _⟩ := C
          go_wp2_with fail
          obtain ⟨R1, R2⟩ := HB.out.ret 2 rfl (by omega) r s
          refine bodyPost_ret (results_cell_row rfl _ _ (w.heap.size + 1 + 1) 51 #[.int .i32 r, .int .i32 s] (0, 0) _ rfl R1 Try.underlying51 rfl (by kernel_rfl)) rfl ⟨rfl, R2⟩
        | false =>
          clear hxx
          cases hx with
          | true =>
            replace hq : Aside0 (truthv (!hy) (false) = (r, s)) := ⟨by simpa using hq.out⟩
            go_upto_region 45 with (fail)
            replace HB := Aside0.mk (HB.out.drew)
            refine start_ (n := 18) (S := fun w' => w'.cell? ⟨w.heap.size, 0, none⟩ = some (.int .i32 a) ∧ w'.cell? ⟨w.heap.size, 1, none⟩ = some (.int .i32 b) ∧ w'.cell? ⟨w.heap.size + 1, 0, none⟩ = some (.int .i32 c) ∧ w'.cell? ⟨w.heap.size + 1, 1, none⟩ = some (.int .i32 d) ∧ w'.cell? ⟨gz, 0, none⟩ = some (.int .i32 0) ∧ w'.cell? ⟨gz, 1, none⟩ = some (.int .i32 0)) (ds := [17]) #[false, false, false, false, false, false, false, false, false, false, false, false, false, false, false, false, false, false] (by kernel_rfl) rfl rfl ⟨HB.out.c0 0 rfl, HB.out.c1 0 rfl, HB.out.c0 1 rfl, HB.out.c1 1 rfl, HB.out.c0 3 rfl, HB.out.c1 3 rfl⟩ (fun hHeld => ?_)
            generalize wv3.drew = wv4 at HB hHeld ⊢
            refine take_ (i := 0) (N := some 178) (v := ?_) (a' := ?_) (bl 18 1) rfl rfl (by kernel_rfl) (fun _ _ _ h => h) (Or.inl ⟨by rfl, ?_⟩) hHeld ?_ ?_
            rotate_left
            · rintro w' ⟨s0, s1, s2, s3, s4, s5⟩; go_simp; with_reducible rfl
            rotate_left
            · simp only [Act.put, zA, zB, zC, i64_w, i32_w]; rfl
            refine take_ (i := 8) (N := some 186) (v := ?_) (a' := ?_) (bl 18 257) rfl rfl (by kernel_rfl) (fun _ _ _ h => h) (Or.inl ⟨by rfl, ?_⟩) hHeld ?_ ?_
            rotate_left
            · rintro w' ⟨s0, s1, s2, s3, s4, s5⟩; go_simp; with_reducible rfl
            rotate_left
            · simp only [Act.put, zA, zB, zC, i64_w, i32_w]; rfl
            refine take_ (i := 9) (N := some 187) (v := ?_) (a' := ?_) (bl 18 769) rfl rfl (by kernel_rfl) (fun _ _ _ h => h) (Or.inl ⟨by rfl, ?_⟩) hHeld ?_ ?_
            rotate_left
            · rintro w' ⟨s0, s1, s2, s3, s4, s5⟩; go_simp; with_reducible rfl
            rotate_left
            · simp only [Act.put, zA, zB, zC, i64_w, i32_w]; rfl
            refine pure_ (i := 10) (N := some 188) (v := ?_) (a' := ?_) (bl 18 1793) rfl rfl (by kernel_rfl) (fun _ _ _ h => h) (Or.inl ⟨by rfl, ?_⟩) ?_ ?_
            rotate_left
            · intro w'; go_simp; with_reducible rfl
            rotate_left
            · simp only [Act.put, zA, zB, zC, i64_w, i32_w]; rfl
            refine one_ (i := 1) (N := some 179) (bl 18 1795) rfl rfl (by kernel_rfl) (by decide) (fun K hK => ?_)
            refine goes_ Try.func76 (by kernel_rfl) rfl #[.agg #[.int .i32 a, .int .i32 b], .int .i32 0] (by rfl) rfl rfl (by (try simp only [List.map_toArray, List.map_cons, List.map_nil]); first | done | rfl) ?_
            with_reducible refine (has_c _ _ _ _ HX.out _).mono ?_
            rintro e wv5 ⟨rfl, hb⟩; refine ⟨_, rfl, ?_⟩
            replace HB := Aside0.mk (HB.out.step hb); clear hb
            refine hK.out _ _ ⟨HB.out.c0 0 rfl, HB.out.c1 0 rfl, HB.out.c0 1 rfl, HB.out.c1 1 rfl, HB.out.c0 3 rfl, HB.out.c1 3 rfl⟩ (fun hHeld => ?_)
            clear hK K
            refine norm_ (a' := ?_) ?_ ?_; rotate_left
            · show Act.put _ (some 179) _ = _; simp only [Act.put, zA, zB, zC, i64_w, i32_w]; rfl
            refine pure_ (i := 2) (N := some 180) (v := ?_) (a' := ?_) (bl 18 1799) rfl rfl (by kernel_rfl) (fun _ _ _ h => h) (Or.inl ⟨by rfl, ?_⟩) ?_ ?_
            rotate_left
            · intro w'; go_simp; with_reducible rfl
            rotate_left
            · simp only [Act.put, zA, zB, zC, i64_w, i32_w]; rfl
            refine pure_ (i := 3) (N := some 181) (v := ?_) (a' := ?_) (bl 18 1807) rfl rfl (by kernel_rfl) (fun _ _ _ h => h) (Or.inl ⟨by rfl, ?_⟩) ?_ ?_
            rotate_left
            · intro w'; go_simp; with_reducible rfl
            rotate_left
            · simp only [Act.put, zA, zB, zC, i64_w, i32_w]; rfl
            refine take_ (i := 4) (N := some 182) (v := ?_) (a' := ?_) (bl 18 1823) rfl rfl (by kernel_rfl) (fun _ _ _ h => h) (Or.inl ⟨by rfl, ?_⟩) hHeld ?_ ?_
            rotate_left
            · rintro w' ⟨s0, s1, s2, s3, s4, s5⟩; go_simp; with_reducible rfl
            rotate_left
            · simp only [Act.put, zA, zB, zC, i64_w, i32_w]; rfl
            refine one_ (i := 5) (N := some 183) (bl 18 1855) rfl rfl (by kernel_rfl) (by decide) (fun K hK => ?_)
            refine goes_ Try.func76 (by kernel_rfl) rfl #[.agg #[.int .i32 c, .int .i32 d], .int .i32 0] (by rfl) rfl rfl (by (try simp only [List.map_toArray, List.map_cons, List.map_nil]); first | done | rfl) ?_
            with_reducible refine (has_c _ _ _ _ HY.out _).mono ?_
            rintro e wv6 ⟨rfl, hb⟩; refine ⟨_, rfl, ?_⟩
            replace HB := Aside0.mk (HB.out.step hb); clear hb
            refine hK.out _ _ ⟨HB.out.c0 0 rfl, HB.out.c1 0 rfl, HB.out.c0 1 rfl, HB.out.c1 1 rfl, HB.out.c0 3 rfl, HB.out.c1 3 rfl⟩ (fun hHeld => ?_)
            clear hK K
            refine norm_ (a' := ?_) ?_ ?_; rotate_left
            · show Act.put _ (some 183) _ = _; simp only [Act.put, zA, zB, zC, i64_w, i32_w]; rfl
            refine pure_ (i := 6) (N := some 184) (v := ?_) (a' := ?_) (bl 18 1919) rfl rfl (by kernel_rfl) (fun _ _ _ h => h) (Or.inl ⟨by rfl, ?_⟩) ?_ ?_
            rotate_left
            · intro w'; go_simp; with_reducible rfl
            rotate_left
            · simp only [Act.put, zA, zB, zC, i64_w, i32_w]; rfl
            refine pure_ (i := 7) (N := some 185) (v := ?_) (a' := ?_) (bl 18 2047) rfl rfl (by kernel_rfl) (fun _ _ _ h => h) (Or.inl ⟨by rfl, ?_⟩) ?_ ?_
            rotate_left
            · intro w'; go_simp; with_reducible rfl
            rotate_left
            · simp only [Act.put, zA, zB, zC, i64_w, i32_w]; rfl
            refine pure_ (i := 11) (N := some 189) (v := ?_) (a' := ?_) (bl 18 4095) rfl rfl (by kernel_rfl) (fun _ _ _ h => h) (Or.inl ⟨by rfl, ?_⟩) ?_ ?_
            rotate_left
            · intro w'; go_simp; with_reducible rfl
            rotate_left
            · simp only [Act.put, zA, zB, zC, i64_w, i32_w]; rfl
            refine pure_ (i := 12) (N := some 190) (v := undef) (a' := ?_) (bl 18 8191) rfl rfl (by kernel_rfl) (fun _ _ _ h => h) (Or.inr ⟨by rfl, rfl⟩) ?_ ?_
            rotate_left
            · simp only [Act.put, zA, zB, zC, i64_w, i32_w]; rfl
            refine pure_ (i := 13) (N := some 191) (v := undef) (a' := ?_) (bl 18 16383) rfl rfl (by kernel_rfl) (fun _ _ _ h => h) (Or.inr ⟨by rfl, rfl⟩) ?_ ?_
            rotate_left
            · simp only [Act.put, zA, zB, zC, i64_w, i32_w]; rfl
            refine pure_ (i := 14) (N := some 192) (v := undef) (a' := ?_) (bl 18 32767) rfl rfl (by kernel_rfl) (fun _ _ _ h => h) (Or.inr ⟨by rfl, rfl⟩) ?_ ?_
            rotate_left
            · simp only [Act.put, zA, zB, zC, i64_w, i32_w]; rfl
            refine pure_ (i := 15) (N := some 193) (v := ?_) (a' := ?_) (bl 18 65535) rfl rfl (by kernel_rfl) (fun _ _ _ h => h) (Or.inl ⟨by rfl, ?_⟩) ?_ ?_
            rotate_left
            · intro w'; go_simp; with_reducible rfl
            rotate_left
            · simp only [Act.put, zA, zB, zC, i64_w, i32_w]; rfl
            refine one_ (i := 16) (N := some 194) (bl 18 131071) rfl rfl (by kernel_rfl) (by decide) (fun K hK => ?_)
            refine goes_ Try.func75 (by kernel_rfl) rfl #[.bool (!hy), .bool (false)] (by rfl) rfl rfl (by (try simp only [List.map_toArray, List.map_cons, List.map_nil]); first | done | rfl) ?_
            with_reducible refine (truth_c _ _ _ _ hq.out _).mono ?_
            rintro e wv7 ⟨rfl, hb⟩; refine ⟨_, rfl, ?_⟩
            replace HB := Aside0.mk (HB.out.step hb); clear hb
            refine hK.out _ _ ⟨HB.out.c0 0 rfl, HB.out.c1 0 rfl, HB.out.c0 1 rfl, HB.out.c1 1 rfl, HB.out.c0 3 rfl, HB.out.c1 3 rfl⟩ (fun hHeld => ?_)
            clear hK K
            refine norm_ (a' := ?_) ?_ ?_; rotate_left
            · show Act.put _ (some 194) _ = _; simp only [Act.put, zA, zB, zC, i64_w, i32_w]; rfl
            refine last_ (i := 17) (N := none) (bl 18 262143) rfl rfl (by kernel_rfl) (by decide) (fun K hK => ?_)
            have C := HB.out.cl
            simp only [Cl, and_true] at C
            obtain ⟨_, _, _, _, _, _, _, _, _, _, _, _, _, _, _, _⟩ := C
            refine skip_ (w1 := ?_) (by rfl) rfl ?_ ?_
            rotate_left
            · go_simp
              rfl
            refine hK.out _ _ ?_
            clear hK K
            refine done_ (by kernel_rfl) ?_
            have C := HB.out.cl
            simp only [Cl, and_true] at C
            obtain ⟨_, _, _, _, _, _, _, _, _, _, _, _, _, _, _, _⟩ := C
            go_wp2_with fail
            obtain ⟨R1, R2⟩ := HB.out.ret 2 rfl (by omega) r s
            refine bodyPost_ret (results_cell_row rfl _ _ (w.heap.size + 1 + 1) 51 #[.int .i32 r, .int .i32 s] (0, 0) _ rfl R1 Try.underlying51 rfl (by kernel_rfl)) rfl ⟨rfl, R2⟩
          | false =>
            replace hq : Aside0 (truthv (true) (false) = (r, s)) := ⟨by simpa using hq.out⟩
            go_upto_region 45 with (fail)
            replace HB := Aside0.mk (HB.out.drew)
            refine start_ (n := 18) (S := fun w' => w'.cell? ⟨w.heap.size, 0, none⟩ = some (.int .i32 a) ∧ w'.cell? ⟨w.heap.size, 1, none⟩ = some (.int .i32 b) ∧ w'.cell? ⟨gz, 0, none⟩ = some (.int .i32 0) ∧ w'.cell? ⟨gz, 1, none⟩ = some (.int .i32 0)) (ds := [17]) #[false, false, false, false, false, false, false, false, false, false, false, false, false, false, false, false, false, false] (by kernel_rfl) rfl rfl ⟨HB.out.c0 0 rfl, HB.out.c1 0 rfl, HB.out.c0 3 rfl, HB.out.c1 3 rfl⟩ (fun hHeld => ?_)
            generalize wv3.drew = wv4 at HB hHeld ⊢
            refine take_ (i := 0) (N := some 178) (v := ?_) (a' := ?_) (bl 18 1) rfl rfl (by kernel_rfl) (fun _ _ _ h => h) (Or.inl ⟨by rfl, ?_⟩) hHeld ?_ ?_
            rotate_left
            · rintro w' ⟨s0, s1, s2, s3⟩; go_simp; with_reducible rfl
            rotate_left
            · simp only [Act.put, zA, zB, zC, i64_w, i32_w]; rfl
            refine take_ (i := 8) (N := some 186) (v := ?_) (a' := ?_) (bl 18 257) rfl rfl (by kernel_rfl) (fun _ _ _ h => h) (Or.inl ⟨by rfl, ?_⟩) hHeld ?_ ?_
            rotate_left
            · rintro w' ⟨s0, s1, s2, s3⟩; go_simp; with_reducible rfl
            rotate_left
            · simp only [Act.put, zA, zB, zC, i64_w, i32_w]; rfl
            refine take_ (i := 9) (N := some 187) (v := ?_) (a' := ?_) (bl 18 769) rfl rfl (by kernel_rfl) (fun _ _ _ h => h) (Or.inl ⟨by rfl, ?_⟩) hHeld ?_ ?_
            rotate_left
            · rintro w' ⟨s0, s1, s2, s3⟩; go_simp; with_reducible rfl
            rotate_left
            · simp only [Act.put, zA, zB, zC, i64_w, i32_w]; rfl
            refine pure_ (i := 10) (N := some 188) (v := ?_) (a' := ?_) (bl 18 1793) rfl rfl (by kernel_rfl) (fun _ _ _ h => h) (Or.inl ⟨by rfl, ?_⟩) ?_ ?_
            rotate_left
            · intro w'; go_simp; with_reducible rfl
            rotate_left
            · simp only [Act.put, zA, zB, zC, i64_w, i32_w]; rfl
            refine one_ (i := 1) (N := some 179) (bl 18 1795) rfl rfl (by kernel_rfl) (by decide) (fun K hK => ?_)
            refine goes_ Try.func76 (by kernel_rfl) rfl #[.agg #[.int .i32 a, .int .i32 b], .int .i32 0] (by rfl) rfl rfl (by (try simp only [List.map_toArray, List.map_cons, List.map_nil]); first | done | rfl) ?_
            with_reducible refine (has_c _ _ _ _ HX.out _).mono ?_
            rintro e wv5 ⟨rfl, hb⟩; refine ⟨_, rfl, ?_⟩
            replace HB := Aside0.mk (HB.out.step hb); clear hb
            refine hK.out _ _ ⟨HB.out.c0 0 rfl, HB.out.c1 0 rfl, HB.out.c0 3 rfl, HB.out.c1 3 rfl⟩ (fun hHeld => ?_)
            clear hK K
            refine norm_ (a' := ?_) ?_ ?_; rotate_left
            · show Act.put _ (some 179) _ = _; simp only [Act.put, zA, zB, zC, i64_w, i32_w]; rfl
            refine pure_ (i := 2) (N := some 180) (v := ?_) (a' := ?_) (bl 18 1799) rfl rfl (by kernel_rfl) (fun _ _ _ h => h) (Or.inl ⟨by rfl, ?_⟩) ?_ ?_
            rotate_left
            · intro w'; go_simp; with_reducible rfl
            rotate_left
            · simp only [Act.put, zA, zB, zC, i64_w, i32_w]; rfl
            refine pure_ (i := 3) (N := some 181) (v := ?_) (a' := ?_) (bl 18 1807) rfl rfl (by kernel_rfl) (fun _ _ _ h => h) (Or.inl ⟨by rfl, ?_⟩) ?_ ?_
            rotate_left
            · intro w'; go_simp; with_reducible rfl
            rotate_left
            · simp only [Act.put, zA, zB, zC, i64_w, i32_w]; rfl
            refine pure_ (i := 4) (N := some 182) (v := undef) (a' := ?_) (bl 18 1823) rfl rfl (by kernel_rfl) (fun _ _ _ h => h) (Or.inr ⟨by rfl, rfl⟩) ?_ ?_
            rotate_left
            · simp only [Act.put, zA, zB, zC, i64_w, i32_w]; rfl
            refine pure_ (i := 5) (N := some 183) (v := undef) (a' := ?_) (bl 18 1855) rfl rfl (by kernel_rfl) (fun _ _ _ h => h) (Or.inr ⟨by rfl, rfl⟩) ?_ ?_
            rotate_left
            · simp only [Act.put, zA, zB, zC, i64_w, i32_w]; rfl
            refine pure_ (i := 6) (N := some 184) (v := undef) (a' := ?_) (bl 18 1919) rfl rfl (by kernel_rfl) (fun _ _ _ h => h) (Or.inr ⟨by rfl, rfl⟩) ?_ ?_
            rotate_left
            · simp only [Act.put, zA, zB, zC, i64_w, i32_w]; rfl
            refine pure_ (i := 7) (N := some 185) (v := ?_) (a' := ?_) (bl 18 2047) rfl rfl (by kernel_rfl) (fun _ _ _ h => h) (Or.inl ⟨by rfl, ?_⟩) ?_ ?_
            rotate_left
            · intro w'; go_simp; with_reducible rfl
            rotate_left
            · simp only [Act.put, zA, zB, zC, i64_w, i32_w]; rfl
            refine pure_ (i := 11) (N := some 189) (v := ?_) (a' := ?_) (bl 18 4095) rfl rfl (by kernel_rfl) (fun _ _ _ h => h) (Or.inl ⟨by rfl, ?_⟩) ?_ ?_
            rotate_left
            · intro w'; go_simp; with_reducible rfl
            rotate_left
            · simp only [Act.put, zA, zB, zC, i64_w, i32_w]; rfl
            refine pure_ (i := 12) (N := some 190) (v := undef) (a' := ?_) (bl 18 8191) rfl rfl (by kernel_rfl) (fun _ _ _ h => h) (Or.inr ⟨by rfl, rfl⟩) ?_ ?_
            rotate_left
            · simp only [Act.put, zA, zB, zC, i64_w, i32_w]; rfl
            refine pure_ (i := 13) (N := some 191) (v := undef) (a' := ?_) (bl 18 16383) rfl rfl (by kernel_rfl) (fun _ _ _ h => h) (Or.inr ⟨by rfl, rfl⟩) ?_ ?_
            rotate_left
            · simp only [Act.put, zA, zB, zC, i64_w, i32_w]; rfl
            refine pure_ (i := 14) (N := some 192) (v := undef) (a' := ?_) (bl 18 32767) rfl rfl (by kernel_rfl) (fun _ _ _ h => h) (Or.inr ⟨by rfl, rfl⟩) ?_ ?_
            rotate_left
            · simp only [Act.put, zA, zB, zC, i64_w, i32_w]; rfl
            refine pure_ (i := 15) (N := some 193) (v := ?_) (a' := ?_) (bl 18 65535) rfl rfl (by kernel_rfl) (fun _ _ _ h => h) (Or.inl ⟨by rfl, ?_⟩) ?_ ?_
            rotate_left
            · intro w'; go_simp; with_reducible rfl
            rotate_left
            · simp only [Act.put, zA, zB, zC, i64_w, i32_w]; rfl
            refine one_ (i := 16) (N := some 194) (bl 18 131071) rfl rfl (by kernel_rfl) (by decide) (fun K hK => ?_)
            refine goes_ Try.func75 (by kernel_rfl) rfl #[.bool (true), .bool (false)] (by rfl) rfl rfl (by (try simp only [List.map_toArray, List.map_cons, List.map_nil]); first | done | rfl) ?_
            with_reducible refine (truth_c _ _ _ _ hq.out _).mono ?_
            rintro e wv6 ⟨rfl, hb⟩; refine ⟨_, rfl, ?_⟩
            replace HB := Aside0.mk (HB.out.step hb); clear hb
            refine hK.out _ _ ⟨HB.out.c0 0 rfl, HB.out.c1 0 rfl, HB.out.c0 3 rfl, HB.out.c1 3 rfl⟩ (fun hHeld => ?_)
            clear hK K
            refine norm_ (a' := ?_) ?_ ?_; rotate_left
            · show Act.put _ (some 194) _ = _; simp only [Act.put, zA, zB, zC, i64_w, i32_w]; rfl
            refine last_ (i := 17) (N := none) (bl 18 262143) rfl rfl (by kernel_rfl) (by decide) (fun K hK => ?_)
            have C := HB.out.cl
            simp only [Cl, and_true] at C
            obtain ⟨_, _, _, _, _, _, _, _, _, _, _, _, _, _, _, _⟩ := C
            refine skip_ (w1 := ?_) (by rfl) rfl ?_ ?_
            rotate_left
            · go_simp
              rfl
            refine hK.out _ _ ?_
            clear hK K
            refine done_ (by kernel_rfl) ?_
            have C := HB.out.cl
            simp only [Cl, and_true] at C
            obtain ⟨_, _, _, _, _, _, _, _, _, _, _, _, _, _, _, _⟩ := C
            go_wp2_with fail
            obtain ⟨R1, R2⟩ := HB.out.ret 2 rfl (by omega) r s
            refine bodyPost_ret (results_cell_row rfl _ _ (w.heap.size + 1 + 1) 51 #[.int .i32 r, .int .i32 s] (0, 0) _ rfl R1 Try.underlying51 rfl (by kernel_rfl)) rfl ⟨rfl, R2⟩

/-- What the reference's Apply answers. -/
theorem apply5_c (op a b c d r s : Int) (ia : I32 a) (ib : I32 b) (ic : I32 c) (id : I32 d) (h : iv op a b c d = (r, s)) (w : World) : Calls Try.prog 39 #[.int .u8 op, .agg #[.int .i32 a, .int .i32 b], .agg #[.int .i32 c, .int .i32 d]] w fun e w' => e = .returned (.agg #[.int .i32 r, .int .i32 s]) ∧ Below w.heap.size w w' := by
  unfold iv at h
  by_cases c1 : op < 6
  · rw [if_pos (.inl c1)] at h
    obtain ⟨rfl, rfl⟩ := Prod.mk.inj h
    exact ap_low op a b c d (decide_eq_true c1) w
  by_cases c2 : 23 < op
  · rw [if_pos (.inr c2)] at h
    obtain ⟨rfl, rfl⟩ := Prod.mk.inj h
    exact ap_high op a b c d (decide_eq_false c1) (decide_eq_true c2) w
  rw [if_neg (by omega)] at h
  by_cases c3 : b < a
  · rw [if_pos (.inl c3)] at h
    obtain ⟨rfl, rfl⟩ := Prod.mk.inj h
    exact ap_e1 op a b c d (decide_eq_false c1) (decide_eq_false c2) ⟨decide_eq_true c3⟩ w
  by_cases c4 : d < c
  · rw [if_pos (.inr c4)] at h
    obtain ⟨rfl, rfl⟩ := Prod.mk.inj h
    exact ap_e2 op a b c d (decide_eq_false c1) (decide_eq_false c2) ⟨decide_eq_false c3⟩ ⟨decide_eq_true c4⟩ w
  rw [if_neg (by omega)] at h
  by_cases c5 : a = b ∧ c = d
  · rw [if_pos c5] at h
    by_cases c6 : (wv op a c).2 = 0
    · rw [if_pos c6] at h
      obtain ⟨rfl, rfl⟩ := Prod.mk.inj h
      exact ap_s0 op a b c d _ _ (decide_eq_false c1) (decide_eq_false c2) ⟨decide_eq_false c3⟩ ⟨decide_eq_false c4⟩ ⟨by omega⟩ ⟨by omega⟩ ⟨ia⟩ ⟨ic⟩ ⟨beq_iff_eq.mpr c5.1⟩ ⟨beq_iff_eq.mpr c5.2⟩ ⟨rfl⟩ (bne_eq_false_iff_eq.mpr c6) w
    · rw [if_neg c6] at h
      obtain ⟨rfl, rfl⟩ := Prod.mk.inj h
      exact ap_s1 op a b c d _ _ (decide_eq_false c1) (decide_eq_false c2) ⟨decide_eq_false c3⟩ ⟨decide_eq_false c4⟩ ⟨by omega⟩ ⟨by omega⟩ ⟨ia⟩ ⟨ic⟩ ⟨beq_iff_eq.mpr c5.1⟩ ⟨beq_iff_eq.mpr c5.2⟩ ⟨rfl⟩ (bne_iff_ne.mpr c6) w
  rw [if_neg c5] at h
  have hs : (a == b) = false ∨ (c == d) = false := by
    by_cases k : a = b
    · exact .inr (beq_eq_false_iff_ne.mpr (fun k2 => c5 ⟨k, k2⟩))
    · exact .inl (beq_eq_false_iff_ne.mpr k)
  by_cases o1 : op ≤ 11
  · exact ap_g1 op a b c d r s ⟨ia⟩ ⟨ib⟩ ⟨ic⟩ ⟨id⟩ (decide_eq_false c1) (decide_eq_false c2) ⟨decide_eq_false c3⟩ ⟨decide_eq_false c4⟩ ⟨by omega⟩ ⟨by omega⟩ _ _ ⟨hs⟩ ⟨rfl⟩ ⟨rfl⟩ _ ⟨rfl⟩ ⟨h⟩ ⟨by omega⟩ w
  by_cases o2 : op ≤ 21
  · exact ap_g2 op a b c d r s ⟨ia⟩ ⟨ib⟩ ⟨ic⟩ ⟨id⟩ (decide_eq_false c1) (decide_eq_false c2) ⟨decide_eq_false c3⟩ ⟨decide_eq_false c4⟩ ⟨by omega⟩ ⟨by omega⟩ _ _ ⟨hs⟩ ⟨rfl⟩ ⟨rfl⟩ _ ⟨rfl⟩ ⟨h⟩ ⟨by omega⟩ w
  · exact ap_g3 op a b c d r s ⟨ia⟩ ⟨ib⟩ ⟨ic⟩ ⟨id⟩ (decide_eq_false c1) (decide_eq_false c2) ⟨decide_eq_false c3⟩ ⟨decide_eq_false c4⟩ ⟨by omega⟩ ⟨by omega⟩ _ _ ⟨hs⟩ ⟨rfl⟩ ⟨rfl⟩ _ ⟨rfl⟩ ⟨h⟩ ⟨by omega⟩ w

end Go.Proofs.Ytoalomjmmlnclaa.Ivl5
