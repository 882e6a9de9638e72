/- The contract of interval.Apply: for any operator and any two intervals of words the call returns the interval that the plain function tells; memory that existed is left as it was. -/
import Derived.Test.YtoalomjmmlnclaaIvlC
import Derived.Test.YtoalomjmmlnclaaIvlD
namespace Go.Proofs.Ytoalomjmmlnclaa.Ivl
open Go.RowKit Go.Proofs.Ytoalomjmmlnclaa.PIntervalApply Go.Proofs.YtoalomjmmlnclaaW.PrintWords Go.Proofs.YtoalomjmmlnclaaW.PrintLast
open Go.Proofs.Ytoalomjmmlnclaa.M
attribute [local go_sem] max2_int min2_int max_two min_two max_three min_three max_four min_four
set_option linter.unusedVariables false
set_option linter.unusedSimpArgs false


theorem apply_wv (k : Nat) (op x y : Int) : word_Apply.f (k + 1) op x y = some (wv op x y) := by
  unfold word_Apply.f wv
  by_cases h : op = 6
  · rw [if_pos h, if_pos h]
  rw [if_neg h, if_neg h]; clear h
  by_cases h : op = 7
  · rw [if_pos h, if_pos h]
  rw [if_neg h, if_neg h]; clear h
  by_cases h : op = 8
  · rw [if_pos h, if_pos h]
  rw [if_neg h, if_neg h]; clear h
  by_cases h : op = 9
  · subst h; by_cases h0 : y = 0 <;> simp [word_Apply.j0, h0]
  rw [if_neg h, if_neg h]
  by_cases h' : op = 10
  · subst h'; by_cases h0 : y = 0 <;> simp [word_Apply.j0, h0]
  rw [if_neg h']
  have e : (op == 10) = false := beq_eq_false_iff_ne.2 h'
  simp only [word_Apply.j0, e, count_mod]
  clear h h' e
  rw [if_neg (by decide)]
  by_cases h : op = 11
  · rw [if_pos h, if_pos h]
  rw [if_neg h, if_neg h]; clear h
  by_cases h : op = 12
  · rw [if_pos h, if_pos h]
  rw [if_neg h, if_neg h]; clear h
  by_cases h : op = 13
  · rw [if_pos h, if_pos h]
  rw [if_neg h, if_neg h]; clear h
  by_cases h : op = 14
  · rw [if_pos h, if_pos h]
  rw [if_neg h, if_neg h]; clear h
  by_cases h : op = 15
  · rw [if_pos h, if_pos h]
  rw [if_neg h, if_neg h]; clear h
  unfold word_compare.f
  by_cases h : op = 16
  · rw [if_pos h, if_pos h]; by_cases c : x = y <;> simp [word_truth.f, tr, c]
  rw [if_neg h, if_neg h]; clear h
  by_cases h : op = 17
  · rw [if_pos h, if_pos h]; by_cases c : x = y <;> simp [word_truth.f, tr, c]
  rw [if_neg h, if_neg h]; clear h
  by_cases h : op = 18
  · rw [if_pos h, if_pos h]; by_cases c : x < y <;> simp [word_truth.f, tr, c]
  rw [if_neg h, if_neg h]; clear h
  by_cases h : op = 19
  · rw [if_pos h, if_pos h]; by_cases c : x ≤ y <;> simp [word_truth.f, tr, c]
  rw [if_neg h, if_neg h]; clear h
  by_cases h : op = 20
  · rw [if_pos h, if_pos h]; by_cases c : y < x <;> simp [word_truth.f, tr, c]
  rw [if_neg h, if_neg h]; clear h
  by_cases h : op = 21
  · rw [if_pos h, if_pos h]; by_cases c : y ≤ x <;> simp [word_truth.f, tr, c]
  rw [if_neg h, if_neg h]; clear h
  by_cases h : op = 22
  · rw [if_pos h, if_pos h]; by_cases c : x = 0 <;> by_cases d : y = 0 <;> simp [word_truth.f, tr, c, d]
  rw [if_neg h, if_neg h]; clear h
  by_cases h : op = 23
  · rw [if_pos h, if_pos h]; by_cases c : x = 0 <;> by_cases d : y = 0 <;> simp [word_truth.f, tr, c, d]
  rw [if_neg h, if_neg h]; simp

theorem word_c (op x y r e : Int) (h : wv op x y = (r, e)) (w : World) :
    Calls Try.prog 19 #[.int .u8 op, .int .i32 x, .int .i32 y] w fun z w' => z = .returned (.tuple #[.int .i32 r, .int .i64 e]) ∧ Drawn0 w w' :=
  word_Apply.calls 1 op x y r e w (by rw [apply_wv 0, h])

set_option maxHeartbeats 4000000 in
set_option maxRecDepth 100000 in
theorem apply_low (op a b c d : Int) (p1 : decide (op < 6) = true) (w : World) : Calls Try.prog 38 #[.int .u8 op, .agg #[.int .i32 a, .int .i32 b], .agg #[.int .i32 c, .int .i32 d]] w fun e w' => e = .returned (.agg #[.int .i32 (-2147483648), .int .i32 2147483647]) ∧ Below w.heap.size w w' := by
  have hu38 := Try.underlying38
  go_enter Try.func38, Try.ntmps38
  go_upto_region 1 with (fail)
  have HB := Aside0.mk (Bx.start3 w a b c d 0 0)
  generalize World.alloc (World.alloc (World.alloc w _) _) _ = w0 at HB ⊢
  have C := HB.out.cl
  simp only [Cl, and_true] at C
  obtain ⟨_, _, _, _, _, _, _, _, _, _, _, _⟩ := C
  go_wp2_with fail
  (with_reducible refine (full_c _).mono ?_); rintro e w' ⟨rfl, hb⟩
  replace HB := Aside0.mk (HB.out.step hb)
  clear hb
  have C := HB.out.cl
  simp only [Cl, and_true] at C
  obtain ⟨_, _, _, _, _, _, _, _, _, _, _, _⟩ := C
  go_wp2_with fail
  obtain ⟨R1, R2⟩ := HB.out.ret 2 rfl (by omega) (-2147483648) 2147483647
  refine bodyPost_ret (results_cell_row rfl _ _ (w.heap.size + 1 + 1) 38 #[.int .i32 (-2147483648), .int .i32 2147483647] (0, 0) _ rfl R1 Try.underlying38 rfl (by kernel_rfl)) rfl ⟨rfl, R2⟩

set_option maxHeartbeats 4000000 in
set_option maxRecDepth 100000 in
theorem apply_high (op a b c d : Int) (p1 : decide (op < 6) = false) (p2 : decide (op > 23) = true) (w : World) : Calls Try.prog 38 #[.int .u8 op, .agg #[.int .i32 a, .int .i32 b], .agg #[.int .i32 c, .int .i32 d]] w fun e w' => e = .returned (.agg #[.int .i32 (-2147483648), .int .i32 2147483647]) ∧ Below w.heap.size w w' := by
  have hu38 := Try.underlying38
  go_enter Try.func38, Try.ntmps38
  go_upto_region 1 with (fail)
  have HB := Aside0.mk (Bx.start3 w a b c d 0 0)
  generalize World.alloc (World.alloc (World.alloc w _) _) _ = w0 at HB ⊢
  have C := HB.out.cl
  simp only [Cl, and_true] at C
  obtain ⟨_, _, _, _, _, _, _, _, _, _, _, _⟩ := C
  go_wp2_with fail
  (with_reducible refine (full_c _).mono ?_); rintro e w' ⟨rfl, hb⟩
  replace HB := Aside0.mk (HB.out.step hb)
  clear hb
  have C := HB.out.cl
  simp only [Cl, and_true] at C
  obtain ⟨_, _, _, _, _, _, _, _, _, _, _, _⟩ := C
  go_wp2_with fail
  obtain ⟨R1, R2⟩ := HB.out.ret 2 rfl (by omega) (-2147483648) 2147483647
  refine bodyPost_ret (results_cell_row rfl _ _ (w.heap.size + 1 + 1) 38 #[.int .i32 (-2147483648), .int .i32 2147483647] (0, 0) _ rfl R1 Try.underlying38 rfl (by kernel_rfl)) rfl ⟨rfl, R2⟩

set_option maxHeartbeats 4000000 in
set_option maxRecDepth 100000 in
theorem apply_ex (op a b c d : Int) (p1 : decide (op < 6) = false) (p2 : decide (op > 23) = false) (e : Aside0 (b < a)) (w : World) : Calls Try.prog 38 #[.int .u8 op, .agg #[.int .i32 a, .int .i32 b], .agg #[.int .i32 c, .int .i32 d]] w fun e w' => e = .returned (.agg #[.int .i32 1, .int .i32 0]) ∧ Below w.heap.size w w' := by
  have hu38 := Try.underlying38
  go_enter Try.func38, Try.ntmps38
  go_upto_region 1 with (fail)
  have HB := Aside0.mk (Bx.start3 w a b c d 0 0)
  generalize World.alloc (World.alloc (World.alloc w _) _) _ = w0 at HB ⊢
  have C := HB.out.cl
  simp only [Cl, and_true] at C
  obtain ⟨_, _, _, _, _, _, _, _, _, _, _, _⟩ := C
  go_wp2_with fail
  (with_reducible refine (isE_t a b e.out _).mono ?_); rintro e w' ⟨rfl, hb⟩
  replace HB := Aside0.mk (HB.out.step hb)
  clear hb
  have C := HB.out.cl
  simp only [Cl, and_true] at C
  obtain ⟨_, _, _, _, _, _, _, _, _, _, _, _⟩ := C
  go_wp2_with fail
  (with_reducible refine (empty_c _).mono ?_); rintro e w' ⟨rfl, hb⟩
  replace HB := Aside0.mk (HB.out.step hb)
  clear hb
  have C := HB.out.cl
  simp only [Cl, and_true] at C
  obtain ⟨_, _, _, _, _, _, _, _, _, _, _, _⟩ := C
  go_wp2_with fail
  obtain ⟨R1, R2⟩ := HB.out.ret 2 rfl (by omega) 1 0
  refine bodyPost_ret (results_cell_row rfl _ _ (w.heap.size + 1 + 1) 38 #[.int .i32 1, .int .i32 0] (0, 0) _ rfl R1 Try.underlying38 rfl (by kernel_rfl)) rfl ⟨rfl, R2⟩

set_option maxHeartbeats 4000000 in
set_option maxRecDepth 100000 in
theorem apply_ey (op a b c d : Int) (p1 : decide (op < 6) = false) (p2 : decide (op > 23) = false) (e : Aside0 (a ≤ b)) (f : Aside0 (d < c)) (w : World) : Calls Try.prog 38 #[.int .u8 op, .agg #[.int .i32 a, .int .i32 b], .agg #[.int .i32 c, .int .i32 d]] w fun e w' => e = .returned (.agg #[.int .i32 1, .int .i32 0]) ∧ Below w.heap.size w w' := by
  have hu38 := Try.underlying38
  go_enter Try.func38, Try.ntmps38
  go_upto_region 1 with (fail)
  have HB := Aside0.mk (Bx.start3 w a b c d 0 0)
  generalize World.alloc (World.alloc (World.alloc w _) _) _ = w0 at HB ⊢
  have C := HB.out.cl
  simp only [Cl, and_true] at C
  obtain ⟨_, _, _, _, _, _, _, _, _, _, _, _⟩ := C
  go_wp2_with fail
  (with_reducible refine (isE_f a b e.out _).mono ?_); rintro e w' ⟨rfl, hb⟩
  replace HB := Aside0.mk (HB.out.step hb)
  clear hb
  have C := HB.out.cl
  simp only [Cl, and_true] at C
  obtain ⟨_, _, _, _, _, _, _, _, _, _, _, _⟩ := C
  go_wp2_with fail
  (with_reducible refine (isE_t c d f.out _).mono ?_); rintro e w' ⟨rfl, hb⟩
  replace HB := Aside0.mk (HB.out.step hb)
  clear hb
  have C := HB.out.cl
  simp only [Cl, and_true] at C
  obtain ⟨_, _, _, _, _, _, _, _, _, _, _, _⟩ := C
  go_wp2_with fail
  (with_reducible refine (empty_c _).mono ?_); rintro e w' ⟨rfl, hb⟩
  replace HB := Aside0.mk (HB.out.step hb)
  clear hb
  have C := HB.out.cl
  simp only [Cl, and_true] at C
  obtain ⟨_, _, _, _, _, _, _, _, _, _, _, _⟩ := C
  go_wp2_with fail
  obtain ⟨R1, R2⟩ := HB.out.ret 2 rfl (by omega) 1 0
  refine bodyPost_ret (results_cell_row rfl _ _ (w.heap.size + 1 + 1) 38 #[.int .i32 1, .int .i32 0] (0, 0) _ rfl R1 Try.underlying38 rfl (by kernel_rfl)) rfl ⟨rfl, R2⟩

set_option maxHeartbeats 4000000 in
set_option maxRecDepth 100000 in
theorem apply_err (op a c r q : Int) (p1 : decide (op < 6) = false) (p2 : decide (op > 23) = false) (h : Aside0 (wv op a c = (r, q))) (hq : (q != 0) = true) (w : World) : Calls Try.prog 38 #[.int .u8 op, .agg #[.int .i32 a, .int .i32 a], .agg #[.int .i32 c, .int .i32 c]] w fun e w' => e = .returned (.agg #[.int .i32 1, .int .i32 0]) ∧ Below w.heap.size w w' := by
  have hu38 := Try.underlying38
  go_enter Try.func38, Try.ntmps38
  go_upto_region 1 with (fail)
  have HB := Aside0.mk (Bx.start3 w a a c c 0 0)
  generalize World.alloc (World.alloc (World.alloc w _) _) _ = w0 at HB ⊢
  have C := HB.out.cl
  simp only [Cl, and_true] at C
  obtain ⟨_, _, _, _, _, _, _, _, _, _, _, _⟩ := C
  go_wp2_with fail
  (with_reducible refine (isE_f a a (Int.le_refl _) _).mono ?_); rintro e w' ⟨rfl, hb⟩
  replace HB := Aside0.mk (HB.out.step hb)
  clear hb
  have C := HB.out.cl
  simp only [Cl, and_true] at C
  obtain ⟨_, _, _, _, _, _, _, _, _, _, _, _⟩ := C
  go_wp2_with fail
  (with_reducible refine (isE_f c c (Int.le_refl _) _).mono ?_); rintro e w' ⟨rfl, hb⟩
  replace HB := Aside0.mk (HB.out.step hb)
  clear hb
  have C := HB.out.cl
  simp only [Cl, and_true] at C
  obtain ⟨_, _, _, _, _, _, _, _, _, _, _, _⟩ := C
  go_wp2_with fail
  (with_reducible refine (word_c op a c r q h.out _).mono ?_); rintro e w' ⟨rfl, ⟨nd, rfl⟩⟩
  replace HB := Aside0.mk (HB.out.drewN nd)
  generalize World.drewN _ nd = wd at HB ⊢
  have C := HB.out.cl
  simp only [Cl, and_true] at C
  obtain ⟨_, _, _, _, _, _, _, _, _, _, _, _⟩ := C
  go_wp2_with fail
  (with_reducible refine (empty_c _).mono ?_); rintro e w' ⟨rfl, hb⟩
  replace HB := Aside0.mk (HB.out.step hb)
  clear hb
  have C := HB.out.cl
  simp only [Cl, and_true] at C
  obtain ⟨_, _, _, _, _, _, _, _, _, _, _, _⟩ := C
  go_wp2_with fail
  obtain ⟨R1, R2⟩ := HB.out.ret 2 rfl (by omega) 1 0
  refine bodyPost_ret (results_cell_row rfl _ _ (w.heap.size + 1 + 1) 38 #[.int .i32 1, .int .i32 0] (0, 0) _ rfl R1 Try.underlying38 rfl (by kernel_rfl)) rfl ⟨rfl, R2⟩

set_option maxHeartbeats 4000000 in
set_option maxRecDepth 100000 in
theorem apply_one (op a c r : Int) (p1 : decide (op < 6) = false) (p2 : decide (op > 23) = false) (h : Aside0 (wv op a c = (r, 0))) (w : World) : Calls Try.prog 38 #[.int .u8 op, .agg #[.int .i32 a, .int .i32 a], .agg #[.int .i32 c, .int .i32 c]] w fun e w' => e = .returned (.agg #[.int .i32 r, .int .i32 r]) ∧ Below w.heap.size w w' := by
  have hu38 := Try.underlying38
  go_enter Try.func38, Try.ntmps38
  go_upto_region 1 with (fail)
  have HB := Aside0.mk (Bx.start3 w a a c c 0 0)
  generalize World.alloc (World.alloc (World.alloc w _) _) _ = w0 at HB ⊢
  have C := HB.out.cl
  simp only [Cl, and_true] at C
  obtain ⟨_, _, _, _, _, _, _, _, _, _, _, _⟩ := C
  go_wp2_with fail
  (with_reducible refine (isE_f a a (Int.le_refl _) _).mono ?_); rintro e w' ⟨rfl, hb⟩
  replace HB := Aside0.mk (HB.out.step hb)
  clear hb
  have C := HB.out.cl
  simp only [Cl, and_true] at C
  obtain ⟨_, _, _, _, _, _, _, _, _, _, _, _⟩ := C
  go_wp2_with fail
  (with_reducible refine (isE_f c c (Int.le_refl _) _).mono ?_); rintro e w' ⟨rfl, hb⟩
  replace HB := Aside0.mk (HB.out.step hb)
  clear hb
  have C := HB.out.cl
  simp only [Cl, and_true] at C
  obtain ⟨_, _, _, _, _, _, _, _, _, _, _, _⟩ := C
  go_wp2_with fail
  (with_reducible refine (word_c op a c r 0 h.out _).mono ?_); rintro e w' ⟨rfl, ⟨nd, rfl⟩⟩
  replace HB := Aside0.mk (HB.out.drewN nd)
  generalize World.drewN _ nd = wd at HB ⊢
  have C := HB.out.cl
  simp only [Cl, and_true] at C
  obtain ⟨_, _, _, _, _, _, _, _, _, _, _, _⟩ := C
  go_wp2_with fail
  (with_reducible refine (of_c r _).mono ?_); rintro e w' ⟨rfl, hb⟩
  replace HB := Aside0.mk (HB.out.step hb)
  clear hb
  have C := HB.out.cl
  simp only [Cl, and_true] at C
  obtain ⟨_, _, _, _, _, _, _, _, _, _, _, _⟩ := C
  go_wp2_with fail
  obtain ⟨R1, R2⟩ := HB.out.ret 2 rfl (by omega) r r
  refine bodyPost_ret (results_cell_row rfl _ _ (w.heap.size + 1 + 1) 38 #[.int .i32 r, .int .i32 r] (0, 0) _ rfl R1 Try.underlying38 rfl (by kernel_rfl)) rfl ⟨rfl, R2⟩

set_option maxHeartbeats 4000000 in
set_option maxRecDepth 100000 in
theorem apply6_x (a b c d r s : Int) (ha : Aside0 (I32 a)) (hb0 : Aside0 (I32 b)) (hc : Aside0 (I32 c)) (hd : Aside0 (I32 d)) (e : Aside0 (a ≤ b)) (f : Aside0 (c ≤ d)) (n1 : (a == b) = false) (h : Aside0 (hull4 (a + c) (a + d) (b + c) (b + d) = (r, s))) (w : World) : Calls Try.prog 38 #[.int .u8 6, .agg #[.int .i32 a, .int .i32 b], .agg #[.int .i32 c, .int .i32 d]] w fun e w' => e = .returned (.agg #[.int .i32 r, .int .i32 s]) ∧ Below w.heap.size w w' := by
  have hu38 := Try.underlying38
  go_enter Try.func38, Try.ntmps38
  go_upto_region 1 with (fail)
  have HB := Aside0.mk (Bx.start3 w a b c d 0 0)
  generalize World.alloc (World.alloc (World.alloc w _) _) _ = w0 at HB ⊢
  have C := HB.out.cl
  simp only [Cl, and_true] at C
  obtain ⟨_, _, _, _, _, _, _, _, _, _, _, _⟩ := C
  go_wp2_with fail
  (with_reducible refine (isE_f a b e.out _).mono ?_); rintro e w' ⟨rfl, hb⟩
  replace HB := Aside0.mk (HB.out.step hb)
  clear hb
  have C := HB.out.cl
  simp only [Cl, and_true] at C
  obtain ⟨_, _, _, _, _, _, _, _, _, _, _, _⟩ := C
  go_wp2_with fail
  (with_reducible refine (isE_f c d f.out _).mono ?_); rintro e w' ⟨rfl, hb⟩
  replace HB := Aside0.mk (HB.out.step hb)
  clear hb
  have C := HB.out.cl
  simp only [Cl, and_true] at C
  obtain ⟨_, _, _, _, _, _, _, _, _, _, _, _⟩ := C
  go_wp2_with fail
  (with_reducible refine (corners54 a b c d _ _ _ _ r s ha hb0 hc hd ⟨rfl⟩ ⟨rfl⟩ ⟨rfl⟩ ⟨rfl⟩ h _).mono ?_); rintro e w' ⟨rfl, hb⟩
  replace HB := Aside0.mk (HB.out.step hb)
  clear hb
  have C := HB.out.cl
  simp only [Cl, and_true] at C
  obtain ⟨_, _, _, _, _, _, _, _, _, _, _, _⟩ := C
  go_wp2_with fail
  obtain ⟨R1, R2⟩ := HB.out.ret 2 rfl (by omega) r s
  refine bodyPost_ret (results_cell_row rfl _ _ (w.heap.size + 1 + 1) 38 #[.int .i32 r, .int .i32 s] (0, 0) _ rfl R1 Try.underlying38 rfl (by kernel_rfl)) rfl ⟨rfl, R2⟩

set_option maxHeartbeats 4000000 in
set_option maxRecDepth 100000 in
theorem apply6_y (a c d r s : Int) (ha : Aside0 (I32 a)) (hc : Aside0 (I32 c)) (hd : Aside0 (I32 d)) (f : Aside0 (c ≤ d)) (n1 : (c == d) = false) (h : Aside0 (hull4 (a + c) (a + d) (a + c) (a + d) = (r, s))) (w : World) : Calls Try.prog 38 #[.int .u8 6, .agg #[.int .i32 a, .int .i32 a], .agg #[.int .i32 c, .int .i32 d]] w fun e w' => e = .returned (.agg #[.int .i32 r, .int .i32 s]) ∧ Below w.heap.size w w' := by
  have hu38 := Try.underlying38
  go_enter Try.func38, Try.ntmps38
  go_upto_region 1 with (fail)
  have HB := Aside0.mk (Bx.start3 w a a c d 0 0)
  generalize World.alloc (World.alloc (World.alloc w _) _) _ = w0 at HB ⊢
  have C := HB.out.cl
  simp only [Cl, and_true] at C
  obtain ⟨_, _, _, _, _, _, _, _, _, _, _, _⟩ := C
  go_wp2_with fail
  (with_reducible refine (isE_f a a (Int.le_refl _) _).mono ?_); rintro e w' ⟨rfl, hb⟩
  replace HB := Aside0.mk (HB.out.step hb)
  clear hb
  have C := HB.out.cl
  simp only [Cl, and_true] at C
  obtain ⟨_, _, _, _, _, _, _, _, _, _, _, _⟩ := C
  go_wp2_with fail
  (with_reducible refine (isE_f c d f.out _).mono ?_); rintro e w' ⟨rfl, hb⟩
  replace HB := Aside0.mk (HB.out.step hb)
  clear hb
  have C := HB.out.cl
  simp only [Cl, and_true] at C
  obtain ⟨_, _, _, _, _, _, _, _, _, _, _, _⟩ := C
  go_wp2_with fail
  (with_reducible refine (corners54 a a c d _ _ _ _ r s ha ha hc hd ⟨rfl⟩ ⟨rfl⟩ ⟨rfl⟩ ⟨rfl⟩ h _).mono ?_); rintro e w' ⟨rfl, hb⟩
  replace HB := Aside0.mk (HB.out.step hb)
  clear hb
  have C := HB.out.cl
  simp only [Cl, and_true] at C
  obtain ⟨_, _, _, _, _, _, _, _, _, _, _, _⟩ := C
  go_wp2_with fail
  obtain ⟨R1, R2⟩ := HB.out.ret 2 rfl (by omega) r s
  refine bodyPost_ret (results_cell_row rfl _ _ (w.heap.size + 1 + 1) 38 #[.int .i32 r, .int .i32 s] (0, 0) _ rfl R1 Try.underlying38 rfl (by kernel_rfl)) rfl ⟨rfl, R2⟩

set_option maxHeartbeats 4000000 in
set_option maxRecDepth 100000 in
theorem apply7_x (a b c d r s : Int) (ha : Aside0 (I32 a)) (hb0 : Aside0 (I32 b)) (hc : Aside0 (I32 c)) (hd : Aside0 (I32 d)) (e : Aside0 (a ≤ b)) (f : Aside0 (c ≤ d)) (n1 : (a == b) = false) (h : Aside0 (hull4 (a - c) (a - d) (b - c) (b - d) = (r, s))) (w : World) : Calls Try.prog 38 #[.int .u8 7, .agg #[.int .i32 a, .int .i32 b], .agg #[.int .i32 c, .int .i32 d]] w fun e w' => e = .returned (.agg #[.int .i32 r, .int .i32 s]) ∧ Below w.heap.size w w' := by
  have hu38 := Try.underlying38
  go_enter Try.func38, Try.ntmps38
  go_upto_region 1 with (fail)
  have HB := Aside0.mk (Bx.start3 w a b c d 0 0)
  generalize World.alloc (World.alloc (World.alloc w _) _) _ = w0 at HB ⊢
  have C := HB.out.cl
  simp only [Cl, and_true] at C
  obtain ⟨_, _, _, _, _, _, _, _, _, _, _, _⟩ := C
  go_wp2_with fail
  (with_reducible refine (isE_f a b e.out _).mono ?_); rintro e w' ⟨rfl, hb⟩
  replace HB := Aside0.mk (HB.out.step hb)
  clear hb
  have C := HB.out.cl
  simp only [Cl, and_true] at C
  obtain ⟨_, _, _, _, _, _, _, _, _, _, _, _⟩ := C
  go_wp2_with fail
  (with_reducible refine (isE_f c d f.out _).mono ?_); rintro e w' ⟨rfl, hb⟩
  replace HB := Aside0.mk (HB.out.step hb)
  clear hb
  have C := HB.out.cl
  simp only [Cl, and_true] at C
  obtain ⟨_, _, _, _, _, _, _, _, _, _, _, _⟩ := C
  go_wp2_with fail
  (with_reducible refine (corners55 a b c d _ _ _ _ r s ha hb0 hc hd ⟨rfl⟩ ⟨rfl⟩ ⟨rfl⟩ ⟨rfl⟩ h _).mono ?_); rintro e w' ⟨rfl, hb⟩
  replace HB := Aside0.mk (HB.out.step hb)
  clear hb
  have C := HB.out.cl
  simp only [Cl, and_true] at C
  obtain ⟨_, _, _, _, _, _, _, _, _, _, _, _⟩ := C
  go_wp2_with fail
  obtain ⟨R1, R2⟩ := HB.out.ret 2 rfl (by omega) r s
  refine bodyPost_ret (results_cell_row rfl _ _ (w.heap.size + 1 + 1) 38 #[.int .i32 r, .int .i32 s] (0, 0) _ rfl R1 Try.underlying38 rfl (by kernel_rfl)) rfl ⟨rfl, R2⟩

set_option maxHeartbeats 4000000 in
set_option maxRecDepth 100000 in
theorem apply7_y (a c d r s : Int) (ha : Aside0 (I32 a)) (hc : Aside0 (I32 c)) (hd : Aside0 (I32 d)) (f : Aside0 (c ≤ d)) (n1 : (c == d) = false) (h : Aside0 (hull4 (a - c) (a - d) (a - c) (a - d) = (r, s))) (w : World) : Calls Try.prog 38 #[.int .u8 7, .agg #[.int .i32 a, .int .i32 a], .agg #[.int .i32 c, .int .i32 d]] w fun e w' => e = .returned (.agg #[.int .i32 r, .int .i32 s]) ∧ Below w.heap.size w w' := by
  have hu38 := Try.underlying38
  go_enter Try.func38, Try.ntmps38
  go_upto_region 1 with (fail)
  have HB := Aside0.mk (Bx.start3 w a a c d 0 0)
  generalize World.alloc (World.alloc (World.alloc w _) _) _ = w0 at HB ⊢
  have C := HB.out.cl
  simp only [Cl, and_true] at C
  obtain ⟨_, _, _, _, _, _, _, _, _, _, _, _⟩ := C
  go_wp2_with fail
  (with_reducible refine (isE_f a a (Int.le_refl _) _).mono ?_); rintro e w' ⟨rfl, hb⟩
  replace HB := Aside0.mk (HB.out.step hb)
  clear hb
  have C := HB.out.cl
  simp only [Cl, and_true] at C
  obtain ⟨_, _, _, _, _, _, _, _, _, _, _, _⟩ := C
  go_wp2_with fail
  (with_reducible refine (isE_f c d f.out _).mono ?_); rintro e w' ⟨rfl, hb⟩
  replace HB := Aside0.mk (HB.out.step hb)
  clear hb
  have C := HB.out.cl
  simp only [Cl, and_true] at C
  obtain ⟨_, _, _, _, _, _, _, _, _, _, _, _⟩ := C
  go_wp2_with fail
  (with_reducible refine (corners55 a a c d _ _ _ _ r s ha ha hc hd ⟨rfl⟩ ⟨rfl⟩ ⟨rfl⟩ ⟨rfl⟩ h _).mono ?_); rintro e w' ⟨rfl, hb⟩
  replace HB := Aside0.mk (HB.out.step hb)
  clear hb
  have C := HB.out.cl
  simp only [Cl, and_true] at C
  obtain ⟨_, _, _, _, _, _, _, _, _, _, _, _⟩ := C
  go_wp2_with fail
  obtain ⟨R1, R2⟩ := HB.out.ret 2 rfl (by omega) r s
  refine bodyPost_ret (results_cell_row rfl _ _ (w.heap.size + 1 + 1) 38 #[.int .i32 r, .int .i32 s] (0, 0) _ rfl R1 Try.underlying38 rfl (by kernel_rfl)) rfl ⟨rfl, R2⟩

set_option maxHeartbeats 4000000 in
set_option maxRecDepth 100000 in
theorem apply8_x (a b c d r s : Int) (ha : Aside0 (I32 a)) (hb0 : Aside0 (I32 b)) (hc : Aside0 (I32 c)) (hd : Aside0 (I32 d)) (e : Aside0 (a ≤ b)) (f : Aside0 (c ≤ d)) (n1 : (a == b) = false) (h : Aside0 (hull4 (a * c) (a * d) (b * c) (b * d) = (r, s))) (w : World) : Calls Try.prog 38 #[.int .u8 8, .agg #[.int .i32 a, .int .i32 b], .agg #[.int .i32 c, .int .i32 d]] w fun e w' => e = .returned (.agg #[.int .i32 r, .int .i32 s]) ∧ Below w.heap.size w w' := by
  have hu38 := Try.underlying38
  go_enter Try.func38, Try.ntmps38
  go_upto_region 1 with (fail)
  have HB := Aside0.mk (Bx.start3 w a b c d 0 0)
  generalize World.alloc (World.alloc (World.alloc w _) _) _ = w0 at HB ⊢
  have C := HB.out.cl
  simp only [Cl, and_true] at C
  obtain ⟨_, _, _, _, _, _, _, _, _, _, _, _⟩ := C
  go_wp2_with fail
  (with_reducible refine (isE_f a b e.out _).mono ?_); rintro e w' ⟨rfl, hb⟩
  replace HB := Aside0.mk (HB.out.step hb)
  clear hb
  have C := HB.out.cl
  simp only [Cl, and_true] at C
  obtain ⟨_, _, _, _, _, _, _, _, _, _, _, _⟩ := C
  go_wp2_with fail
  (with_reducible refine (isE_f c d f.out _).mono ?_); rintro e w' ⟨rfl, hb⟩
  replace HB := Aside0.mk (HB.out.step hb)
  clear hb
  have C := HB.out.cl
  simp only [Cl, and_true] at C
  obtain ⟨_, _, _, _, _, _, _, _, _, _, _, _⟩ := C
  go_wp2_with fail
  (with_reducible refine (corners56 a b c d _ _ _ _ r s ha hb0 hc hd ⟨rfl⟩ ⟨rfl⟩ ⟨rfl⟩ ⟨rfl⟩ h _).mono ?_); rintro e w' ⟨rfl, hb⟩
  replace HB := Aside0.mk (HB.out.step hb)
  clear hb
  have C := HB.out.cl
  simp only [Cl, and_true] at C
  obtain ⟨_, _, _, _, _, _, _, _, _, _, _, _⟩ := C
  go_wp2_with fail
  obtain ⟨R1, R2⟩ := HB.out.ret 2 rfl (by omega) r s
  refine bodyPost_ret (results_cell_row rfl _ _ (w.heap.size + 1 + 1) 38 #[.int .i32 r, .int .i32 s] (0, 0) _ rfl R1 Try.underlying38 rfl (by kernel_rfl)) rfl ⟨rfl, R2⟩

set_option maxHeartbeats 4000000 in
set_option maxRecDepth 100000 in
theorem apply8_y (a c d r s : Int) (ha : Aside0 (I32 a)) (hc : Aside0 (I32 c)) (hd : Aside0 (I32 d)) (f : Aside0 (c ≤ d)) (n1 : (c == d) = false) (h : Aside0 (hull4 (a * c) (a * d) (a * c) (a * d) = (r, s))) (w : World) : Calls Try.prog 38 #[.int .u8 8, .agg #[.int .i32 a, .int .i32 a], .agg #[.int .i32 c, .int .i32 d]] w fun e w' => e = .returned (.agg #[.int .i32 r, .int .i32 s]) ∧ Below w.heap.size w w' := by
  have hu38 := Try.underlying38
  go_enter Try.func38, Try.ntmps38
  go_upto_region 1 with (fail)
  have HB := Aside0.mk (Bx.start3 w a a c d 0 0)
  generalize World.alloc (World.alloc (World.alloc w _) _) _ = w0 at HB ⊢
  have C := HB.out.cl
  simp only [Cl, and_true] at C
  obtain ⟨_, _, _, _, _, _, _, _, _, _, _, _⟩ := C
  go_wp2_with fail
  (with_reducible refine (isE_f a a (Int.le_refl _) _).mono ?_); rintro e w' ⟨rfl, hb⟩
  replace HB := Aside0.mk (HB.out.step hb)
  clear hb
  have C := HB.out.cl
  simp only [Cl, and_true] at C
  obtain ⟨_, _, _, _, _, _, _, _, _, _, _, _⟩ := C
  go_wp2_with fail
  (with_reducible refine (isE_f c d f.out _).mono ?_); rintro e w' ⟨rfl, hb⟩
  replace HB := Aside0.mk (HB.out.step hb)
  clear hb
  have C := HB.out.cl
  simp only [Cl, and_true] at C
  obtain ⟨_, _, _, _, _, _, _, _, _, _, _, _⟩ := C
  go_wp2_with fail
  (with_reducible refine (corners56 a a c d _ _ _ _ r s ha ha hc hd ⟨rfl⟩ ⟨rfl⟩ ⟨rfl⟩ ⟨rfl⟩ h _).mono ?_); rintro e w' ⟨rfl, hb⟩
  replace HB := Aside0.mk (HB.out.step hb)
  clear hb
  have C := HB.out.cl
  simp only [Cl, and_true] at C
  obtain ⟨_, _, _, _, _, _, _, _, _, _, _, _⟩ := C
  go_wp2_with fail
  obtain ⟨R1, R2⟩ := HB.out.ret 2 rfl (by omega) r s
  refine bodyPost_ret (results_cell_row rfl _ _ (w.heap.size + 1 + 1) 38 #[.int .i32 r, .int .i32 s] (0, 0) _ rfl R1 Try.underlying38 rfl (by kernel_rfl)) rfl ⟨rfl, R2⟩

set_option maxHeartbeats 4000000 in
set_option maxRecDepth 100000 in
theorem apply9_x (a b c d r s : Int) (ha : Aside0 (I32 a)) (hb0 : Aside0 (I32 b)) (hc : Aside0 (I32 c)) (hd : Aside0 (I32 d)) (e : Aside0 (a ≤ b)) (f : Aside0 (c ≤ d)) (n1 : (a == b) = false) (h : Aside0 (divv a b c d = (r, s))) (w : World) : Calls Try.prog 38 #[.int .u8 9, .agg #[.int .i32 a, .int .i32 b], .agg #[.int .i32 c, .int .i32 d]] w fun e w' => e = .returned (.agg #[.int .i32 r, .int .i32 s]) ∧ Below w.heap.size w w' := by
  have hu38 := Try.underlying38
  go_enter Try.func38, Try.ntmps38
  go_upto_region 1 with (fail)
  have HB := Aside0.mk (Bx.start3 w a b c d 0 0)
  generalize World.alloc (World.alloc (World.alloc w _) _) _ = w0 at HB ⊢
  have C := HB.out.cl
  simp only [Cl, and_true] at C
  obtain ⟨_, _, _, _, _, _, _, _, _, _, _, _⟩ := C
  go_wp2_with fail
  (with_reducible refine (isE_f a b e.out _).mono ?_); rintro e w' ⟨rfl, hb⟩
  replace HB := Aside0.mk (HB.out.step hb)
  clear hb
  have C := HB.out.cl
  simp only [Cl, and_true] at C
  obtain ⟨_, _, _, _, _, _, _, _, _, _, _, _⟩ := C
  go_wp2_with fail
  (with_reducible refine (isE_f c d f.out _).mono ?_); rintro e w' ⟨rfl, hb⟩
  replace HB := Aside0.mk (HB.out.step hb)
  clear hb
  have C := HB.out.cl
  simp only [Cl, and_true] at C
  obtain ⟨_, _, _, _, _, _, _, _, _, _, _, _⟩ := C
  go_wp2_with fail
  (with_reducible refine (divide_c a b c d r s ha.out hb0.out hc.out hd.out h.out _).mono ?_); rintro e w' ⟨rfl, hb⟩
  replace HB := Aside0.mk (HB.out.step hb)
  clear hb
  have C := HB.out.cl
  simp only [Cl, and_true] at C
  obtain ⟨_, _, _, _, _, _, _, _, _, _, _, _⟩ := C
  go_wp2_with fail
  obtain ⟨R1, R2⟩ := HB.out.ret 2 rfl (by omega) r s
  refine bodyPost_ret (results_cell_row rfl _ _ (w.heap.size + 1 + 1) 38 #[.int .i32 r, .int .i32 s] (0, 0) _ rfl R1 Try.underlying38 rfl (by kernel_rfl)) rfl ⟨rfl, R2⟩

set_option maxHeartbeats 4000000 in
set_option maxRecDepth 100000 in
theorem apply9_y (a c d r s : Int) (ha : Aside0 (I32 a)) (hc : Aside0 (I32 c)) (hd : Aside0 (I32 d)) (f : Aside0 (c ≤ d)) (n1 : (c == d) = false) (h : Aside0 (divv a a c d = (r, s))) (w : World) : Calls Try.prog 38 #[.int .u8 9, .agg #[.int .i32 a, .int .i32 a], .agg #[.int .i32 c, .int .i32 d]] w fun e w' => e = .returned (.agg #[.int .i32 r, .int .i32 s]) ∧ Below w.heap.size w w' := by
  have hu38 := Try.underlying38
  go_enter Try.func38, Try.ntmps38
  go_upto_region 1 with (fail)
  have HB := Aside0.mk (Bx.start3 w a a c d 0 0)
  generalize World.alloc (World.alloc (World.alloc w _) _) _ = w0 at HB ⊢
  have C := HB.out.cl
  simp only [Cl, and_true] at C
  obtain ⟨_, _, _, _, _, _, _, _, _, _, _, _⟩ := C
  go_wp2_with fail
  (with_reducible refine (isE_f a a (Int.le_refl _) _).mono ?_); rintro e w' ⟨rfl, hb⟩
  replace HB := Aside0.mk (HB.out.step hb)
  clear hb
  have C := HB.out.cl
  simp only [Cl, and_true] at C
  obtain ⟨_, _, _, _, _, _, _, _, _, _, _, _⟩ := C
  go_wp2_with fail
  (with_reducible refine (isE_f c d f.out _).mono ?_); rintro e w' ⟨rfl, hb⟩
  replace HB := Aside0.mk (HB.out.step hb)
  clear hb
  have C := HB.out.cl
  simp only [Cl, and_true] at C
  obtain ⟨_, _, _, _, _, _, _, _, _, _, _, _⟩ := C
  go_wp2_with fail
  (with_reducible refine (divide_c a a c d r s ha.out ha.out hc.out hd.out h.out _).mono ?_); rintro e w' ⟨rfl, hb⟩
  replace HB := Aside0.mk (HB.out.step hb)
  clear hb
  have C := HB.out.cl
  simp only [Cl, and_true] at C
  obtain ⟨_, _, _, _, _, _, _, _, _, _, _, _⟩ := C
  go_wp2_with fail
  obtain ⟨R1, R2⟩ := HB.out.ret 2 rfl (by omega) r s
  refine bodyPost_ret (results_cell_row rfl _ _ (w.heap.size + 1 + 1) 38 #[.int .i32 r, .int .i32 s] (0, 0) _ rfl R1 Try.underlying38 rfl (by kernel_rfl)) rfl ⟨rfl, R2⟩

set_option maxHeartbeats 4000000 in
set_option maxRecDepth 100000 in
theorem apply10_x (a b c d r s : Int) (ha : Aside0 (I32 a)) (hb0 : Aside0 (I32 b)) (hc : Aside0 (I32 c)) (hd : Aside0 (I32 d)) (e : Aside0 (a ≤ b)) (f : Aside0 (c ≤ d)) (n1 : (a == b) = false) (h : Aside0 (remv a b c d = (r, s))) (w : World) : Calls Try.prog 38 #[.int .u8 10, .agg #[.int .i32 a, .int .i32 b], .agg #[.int .i32 c, .int .i32 d]] w fun e w' => e = .returned (.agg #[.int .i32 r, .int .i32 s]) ∧ Below w.heap.size w w' := by
  have hu38 := Try.underlying38
  go_enter Try.func38, Try.ntmps38
  go_upto_region 1 with (fail)
  have HB := Aside0.mk (Bx.start3 w a b c d 0 0)
  generalize World.alloc (World.alloc (World.alloc w _) _) _ = w0 at HB ⊢
  have C := HB.out.cl
  simp only [Cl, and_true] at C
  obtain ⟨_, _, _, _, _, _, _, _, _, _, _, _⟩ := C
  go_wp2_with fail
  (with_reducible refine (isE_f a b e.out _).mono ?_); rintro e w' ⟨rfl, hb⟩
  replace HB := Aside0.mk (HB.out.step hb)
  clear hb
  have C := HB.out.cl
  simp only [Cl, and_true] at C
  obtain ⟨_, _, _, _, _, _, _, _, _, _, _, _⟩ := C
  go_wp2_with fail
  (with_reducible refine (isE_f c d f.out _).mono ?_); rintro e w' ⟨rfl, hb⟩
  replace HB := Aside0.mk (HB.out.step hb)
  clear hb
  have C := HB.out.cl
  simp only [Cl, and_true] at C
  obtain ⟨_, _, _, _, _, _, _, _, _, _, _, _⟩ := C
  go_wp2_with fail
  (with_reducible refine (rem_c a b c d r s ha.out hb0.out hc.out hd.out h.out _).mono ?_); rintro e w' ⟨rfl, hb⟩
  replace HB := Aside0.mk (HB.out.step hb)
  clear hb
  have C := HB.out.cl
  simp only [Cl, and_true] at C
  obtain ⟨_, _, _, _, _, _, _, _, _, _, _, _⟩ := C
  go_wp2_with fail
  obtain ⟨R1, R2⟩ := HB.out.ret 2 rfl (by omega) r s
  refine bodyPost_ret (results_cell_row rfl _ _ (w.heap.size + 1 + 1) 38 #[.int .i32 r, .int .i32 s] (0, 0) _ rfl R1 Try.underlying38 rfl (by kernel_rfl)) rfl ⟨rfl, R2⟩

set_option maxHeartbeats 4000000 in
set_option maxRecDepth 100000 in
theorem apply10_y (a c d r s : Int) (ha : Aside0 (I32 a)) (hc : Aside0 (I32 c)) (hd : Aside0 (I32 d)) (f : Aside0 (c ≤ d)) (n1 : (c == d) = false) (h : Aside0 (remv a a c d = (r, s))) (w : World) : Calls Try.prog 38 #[.int .u8 10, .agg #[.int .i32 a, .int .i32 a], .agg #[.int .i32 c, .int .i32 d]] w fun e w' => e = .returned (.agg #[.int .i32 r, .int .i32 s]) ∧ Below w.heap.size w w' := by
  have hu38 := Try.underlying38
  go_enter Try.func38, Try.ntmps38
  go_upto_region 1 with (fail)
  have HB := Aside0.mk (Bx.start3 w a a c d 0 0)
  generalize World.alloc (World.alloc (World.alloc w _) _) _ = w0 at HB ⊢
  have C := HB.out.cl
  simp only [Cl, and_true] at C
  obtain ⟨_, _, _, _, _, _, _, _, _, _, _, _⟩ := C
  go_wp2_with fail
  (with_reducible refine (isE_f a a (Int.le_refl _) _).mono ?_); rintro e w' ⟨rfl, hb⟩
  replace HB := Aside0.mk (HB.out.step hb)
  clear hb
  have C := HB.out.cl
  simp only [Cl, and_true] at C
  obtain ⟨_, _, _, _, _, _, _, _, _, _, _, _⟩ := C
  go_wp2_with fail
  (with_reducible refine (isE_f c d f.out _).mono ?_); rintro e w' ⟨rfl, hb⟩
  replace HB := Aside0.mk (HB.out.step hb)
  clear hb
  have C := HB.out.cl
  simp only [Cl, and_true] at C
  obtain ⟨_, _, _, _, _, _, _, _, _, _, _, _⟩ := C
  go_wp2_with fail
  (with_reducible refine (rem_c a a c d r s ha.out ha.out hc.out hd.out h.out _).mono ?_); rintro e w' ⟨rfl, hb⟩
  replace HB := Aside0.mk (HB.out.step hb)
  clear hb
  have C := HB.out.cl
  simp only [Cl, and_true] at C
  obtain ⟨_, _, _, _, _, _, _, _, _, _, _, _⟩ := C
  go_wp2_with fail
  obtain ⟨R1, R2⟩ := HB.out.ret 2 rfl (by omega) r s
  refine bodyPost_ret (results_cell_row rfl _ _ (w.heap.size + 1 + 1) 38 #[.int .i32 r, .int .i32 s] (0, 0) _ rfl R1 Try.underlying38 rfl (by kernel_rfl)) rfl ⟨rfl, R2⟩

set_option maxHeartbeats 4000000 in
set_option maxRecDepth 100000 in
theorem apply11_x (a b c d r s : Int) (ha : Aside0 (I32 a)) (hb0 : Aside0 (I32 b)) (hc : Aside0 (I32 c)) (hd : Aside0 (I32 d)) (e : Aside0 (a ≤ b)) (f : Aside0 (c ≤ d)) (n1 : (a == b) = false) (h : Aside0 (andv a b c d = (r, s))) (w : World) : Calls Try.prog 38 #[.int .u8 11, .agg #[.int .i32 a, .int .i32 b], .agg #[.int .i32 c, .int .i32 d]] w fun e w' => e = .returned (.agg #[.int .i32 r, .int .i32 s]) ∧ Below w.heap.size w w' := by
  have hu38 := Try.underlying38
  go_enter Try.func38, Try.ntmps38
  go_upto_region 1 with (fail)
  have HB := Aside0.mk (Bx.start3 w a b c d 0 0)
  generalize World.alloc (World.alloc (World.alloc w _) _) _ = w0 at HB ⊢
  have C := HB.out.cl
  simp only [Cl, and_true] at C
  obtain ⟨_, _, _, _, _, _, _, _, _, _, _, _⟩ := C
  go_wp2_with fail
  (with_reducible refine (isE_f a b e.out _).mono ?_); rintro e w' ⟨rfl, hb⟩
  replace HB := Aside0.mk (HB.out.step hb)
  clear hb
  have C := HB.out.cl
  simp only [Cl, and_true] at C
  obtain ⟨_, _, _, _, _, _, _, _, _, _, _, _⟩ := C
  go_wp2_with fail
  (with_reducible refine (isE_f c d f.out _).mono ?_); rintro e w' ⟨rfl, hb⟩
  replace HB := Aside0.mk (HB.out.step hb)
  clear hb
  have C := HB.out.cl
  simp only [Cl, and_true] at C
  obtain ⟨_, _, _, _, _, _, _, _, _, _, _, _⟩ := C
  go_wp2_with fail
  (with_reducible refine (and_c a b c d r s h.out _).mono ?_); rintro e w' ⟨rfl, hb⟩
  replace HB := Aside0.mk (HB.out.step hb)
  clear hb
  have C := HB.out.cl
  simp only [Cl, and_true] at C
  obtain ⟨_, _, _, _, _, _, _, _, _, _, _, _⟩ := C
  go_wp2_with fail
  obtain ⟨R1, R2⟩ := HB.out.ret 2 rfl (by omega) r s
  refine bodyPost_ret (results_cell_row rfl _ _ (w.heap.size + 1 + 1) 38 #[.int .i32 r, .int .i32 s] (0, 0) _ rfl R1 Try.underlying38 rfl (by kernel_rfl)) rfl ⟨rfl, R2⟩

set_option maxHeartbeats 4000000 in
set_option maxRecDepth 100000 in
theorem apply11_y (a c d r s : Int) (ha : Aside0 (I32 a)) (hc : Aside0 (I32 c)) (hd : Aside0 (I32 d)) (f : Aside0 (c ≤ d)) (n1 : (c == d) = false) (h : Aside0 (andv a a c d = (r, s))) (w : World) : Calls Try.prog 38 #[.int .u8 11, .agg #[.int .i32 a, .int .i32 a], .agg #[.int .i32 c, .int .i32 d]] w fun e w' => e = .returned (.agg #[.int .i32 r, .int .i32 s]) ∧ Below w.heap.size w w' := by
  have hu38 := Try.underlying38
  go_enter Try.func38, Try.ntmps38
  go_upto_region 1 with (fail)
  have HB := Aside0.mk (Bx.start3 w a a c d 0 0)
  generalize World.alloc (World.alloc (World.alloc w _) _) _ = w0 at HB ⊢
  have C := HB.out.cl
  simp only [Cl, and_true] at C
  obtain ⟨_, _, _, _, _, _, _, _, _, _, _, _⟩ := C
  go_wp2_with fail
  (with_reducible refine (isE_f a a (Int.le_refl _) _).mono ?_); rintro e w' ⟨rfl, hb⟩
  replace HB := Aside0.mk (HB.out.step hb)
  clear hb
  have C := HB.out.cl
  simp only [Cl, and_true] at C
  obtain ⟨_, _, _, _, _, _, _, _, _, _, _, _⟩ := C
  go_wp2_with fail
  (with_reducible refine (isE_f c d f.out _).mono ?_); rintro e w' ⟨rfl, hb⟩
  replace HB := Aside0.mk (HB.out.step hb)
  clear hb
  have C := HB.out.cl
  simp only [Cl, and_true] at C
  obtain ⟨_, _, _, _, _, _, _, _, _, _, _, _⟩ := C
  go_wp2_with fail
  (with_reducible refine (and_c a a c d r s h.out _).mono ?_); rintro e w' ⟨rfl, hb⟩
  replace HB := Aside0.mk (HB.out.step hb)
  clear hb
  have C := HB.out.cl
  simp only [Cl, and_true] at C
  obtain ⟨_, _, _, _, _, _, _, _, _, _, _, _⟩ := C
  go_wp2_with fail
  obtain ⟨R1, R2⟩ := HB.out.ret 2 rfl (by omega) r s
  refine bodyPost_ret (results_cell_row rfl _ _ (w.heap.size + 1 + 1) 38 #[.int .i32 r, .int .i32 s] (0, 0) _ rfl R1 Try.underlying38 rfl (by kernel_rfl)) rfl ⟨rfl, R2⟩

set_option maxHeartbeats 4000000 in
set_option maxRecDepth 100000 in
theorem apply12_x (a b c d r s : Int) (ha : Aside0 (I32 a)) (hb0 : Aside0 (I32 b)) (hc : Aside0 (I32 c)) (hd : Aside0 (I32 d)) (e : Aside0 (a ≤ b)) (f : Aside0 (c ≤ d)) (n1 : (a == b) = false) (h : Aside0 (orv a b c d = (r, s))) (w : World) : Calls Try.prog 38 #[.int .u8 12, .agg #[.int .i32 a, .int .i32 b], .agg #[.int .i32 c, .int .i32 d]] w fun e w' => e = .returned (.agg #[.int .i32 r, .int .i32 s]) ∧ Below w.heap.size w w' := by
  have hu38 := Try.underlying38
  go_enter Try.func38, Try.ntmps38
  go_upto_region 1 with (fail)
  have HB := Aside0.mk (Bx.start3 w a b c d 0 0)
  generalize World.alloc (World.alloc (World.alloc w _) _) _ = w0 at HB ⊢
  have C := HB.out.cl
  simp only [Cl, and_true] at C
  obtain ⟨_, _, _, _, _, _, _, _, _, _, _, _⟩ := C
  go_wp2_with fail
  (with_reducible refine (isE_f a b e.out _).mono ?_); rintro e w' ⟨rfl, hb⟩
  replace HB := Aside0.mk (HB.out.step hb)
  clear hb
  have C := HB.out.cl
  simp only [Cl, and_true] at C
  obtain ⟨_, _, _, _, _, _, _, _, _, _, _, _⟩ := C
  go_wp2_with fail
  (with_reducible refine (isE_f c d f.out _).mono ?_); rintro e w' ⟨rfl, hb⟩
  replace HB := Aside0.mk (HB.out.step hb)
  clear hb
  have C := HB.out.cl
  simp only [Cl, and_true] at C
  obtain ⟨_, _, _, _, _, _, _, _, _, _, _, _⟩ := C
  go_wp2_with fail
  (with_reducible refine (or_c a b c d r s hb0.out hd.out h.out _).mono ?_); rintro e w' ⟨rfl, hb⟩
  replace HB := Aside0.mk (HB.out.step hb)
  clear hb
  have C := HB.out.cl
  simp only [Cl, and_true] at C
  obtain ⟨_, _, _, _, _, _, _, _, _, _, _, _⟩ := C
  go_wp2_with fail
  obtain ⟨R1, R2⟩ := HB.out.ret 2 rfl (by omega) r s
  refine bodyPost_ret (results_cell_row rfl _ _ (w.heap.size + 1 + 1) 38 #[.int .i32 r, .int .i32 s] (0, 0) _ rfl R1 Try.underlying38 rfl (by kernel_rfl)) rfl ⟨rfl, R2⟩

set_option maxHeartbeats 4000000 in
set_option maxRecDepth 100000 in
theorem apply12_y (a c d r s : Int) (ha : Aside0 (I32 a)) (hc : Aside0 (I32 c)) (hd : Aside0 (I32 d)) (f : Aside0 (c ≤ d)) (n1 : (c == d) = false) (h : Aside0 (orv a a c d = (r, s))) (w : World) : Calls Try.prog 38 #[.int .u8 12, .agg #[.int .i32 a, .int .i32 a], .agg #[.int .i32 c, .int .i32 d]] w fun e w' => e = .returned (.agg #[.int .i32 r, .int .i32 s]) ∧ Below w.heap.size w w' := by
  have hu38 := Try.underlying38
  go_enter Try.func38, Try.ntmps38
  go_upto_region 1 with (fail)
  have HB := Aside0.mk (Bx.start3 w a a c d 0 0)
  generalize World.alloc (World.alloc (World.alloc w _) _) _ = w0 at HB ⊢
  have C := HB.out.cl
  simp only [Cl, and_true] at C
  obtain ⟨_, _, _, _, _, _, _, _, _, _, _, _⟩ := C
  go_wp2_with fail
  (with_reducible refine (isE_f a a (Int.le_refl _) _).mono ?_); rintro e w' ⟨rfl, hb⟩
  replace HB := Aside0.mk (HB.out.step hb)
  clear hb
  have C := HB.out.cl
  simp only [Cl, and_true] at C
  obtain ⟨_, _, _, _, _, _, _, _, _, _, _, _⟩ := C
  go_wp2_with fail
  (with_reducible refine (isE_f c d f.out _).mono ?_); rintro e w' ⟨rfl, hb⟩
  replace HB := Aside0.mk (HB.out.step hb)
  clear hb
  have C := HB.out.cl
  simp only [Cl, and_true] at C
  obtain ⟨_, _, _, _, _, _, _, _, _, _, _, _⟩ := C
  go_wp2_with fail
  (with_reducible refine (or_c a a c d r s ha.out hd.out h.out _).mono ?_); rintro e w' ⟨rfl, hb⟩
  replace HB := Aside0.mk (HB.out.step hb)
  clear hb
  have C := HB.out.cl
  simp only [Cl, and_true] at C
  obtain ⟨_, _, _, _, _, _, _, _, _, _, _, _⟩ := C
  go_wp2_with fail
  obtain ⟨R1, R2⟩ := HB.out.ret 2 rfl (by omega) r s
  refine bodyPost_ret (results_cell_row rfl _ _ (w.heap.size + 1 + 1) 38 #[.int .i32 r, .int .i32 s] (0, 0) _ rfl R1 Try.underlying38 rfl (by kernel_rfl)) rfl ⟨rfl, R2⟩

set_option maxHeartbeats 4000000 in
set_option maxRecDepth 100000 in
theorem apply13_x (a b c d r s : Int) (ha : Aside0 (I32 a)) (hb0 : Aside0 (I32 b)) (hc : Aside0 (I32 c)) (hd : Aside0 (I32 d)) (e : Aside0 (a ≤ b)) (f : Aside0 (c ≤ d)) (n1 : (a == b) = false) (h : Aside0 (xorv a b c d = (r, s))) (w : World) : Calls Try.prog 38 #[.int .u8 13, .agg #[.int .i32 a, .int .i32 b], .agg #[.int .i32 c, .int .i32 d]] w fun e w' => e = .returned (.agg #[.int .i32 r, .int .i32 s]) ∧ Below w.heap.size w w' := by
  have hu38 := Try.underlying38
  go_enter Try.func38, Try.ntmps38
  go_upto_region 1 with (fail)
  have HB := Aside0.mk (Bx.start3 w a b c d 0 0)
  generalize World.alloc (World.alloc (World.alloc w _) _) _ = w0 at HB ⊢
  have C := HB.out.cl
  simp only [Cl, and_true] at C
  obtain ⟨_, _, _, _, _, _, _, _, _, _, _, _⟩ := C
  go_wp2_with fail
  (with_reducible refine (isE_f a b e.out _).mono ?_); rintro e w' ⟨rfl, hb⟩
  replace HB := Aside0.mk (HB.out.step hb)
  clear hb
  have C := HB.out.cl
  simp only [Cl, and_true] at C
  obtain ⟨_, _, _, _, _, _, _, _, _, _, _, _⟩ := C
  go_wp2_with fail
  (with_reducible refine (isE_f c d f.out _).mono ?_); rintro e w' ⟨rfl, hb⟩
  replace HB := Aside0.mk (HB.out.step hb)
  clear hb
  have C := HB.out.cl
  simp only [Cl, and_true] at C
  obtain ⟨_, _, _, _, _, _, _, _, _, _, _, _⟩ := C
  go_wp2_with fail
  (with_reducible refine (xor_c a b c d r s hb0.out hd.out h.out _).mono ?_); rintro e w' ⟨rfl, hb⟩
  replace HB := Aside0.mk (HB.out.step hb)
  clear hb
  have C := HB.out.cl
  simp only [Cl, and_true] at C
  obtain ⟨_, _, _, _, _, _, _, _, _, _, _, _⟩ := C
  go_wp2_with fail
  obtain ⟨R1, R2⟩ := HB.out.ret 2 rfl (by omega) r s
  refine bodyPost_ret (results_cell_row rfl _ _ (w.heap.size + 1 + 1) 38 #[.int .i32 r, .int .i32 s] (0, 0) _ rfl R1 Try.underlying38 rfl (by kernel_rfl)) rfl ⟨rfl, R2⟩

set_option maxHeartbeats 4000000 in
set_option maxRecDepth 100000 in
theorem apply13_y (a c d r s : Int) (ha : Aside0 (I32 a)) (hc : Aside0 (I32 c)) (hd : Aside0 (I32 d)) (f : Aside0 (c ≤ d)) (n1 : (c == d) = false) (h : Aside0 (xorv a a c d = (r, s))) (w : World) : Calls Try.prog 38 #[.int .u8 13, .agg #[.int .i32 a, .int .i32 a], .agg #[.int .i32 c, .int .i32 d]] w fun e w' => e = .returned (.agg #[.int .i32 r, .int .i32 s]) ∧ Below w.heap.size w w' := by
  have hu38 := Try.underlying38
  go_enter Try.func38, Try.ntmps38
  go_upto_region 1 with (fail)
  have HB := Aside0.mk (Bx.start3 w a a c d 0 0)
  generalize World.alloc (World.alloc (World.alloc w _) _) _ = w0 at HB ⊢
  have C := HB.out.cl
  simp only [Cl, and_true] at C
  obtain ⟨_, _, _, _, _, _, _, _, _, _, _, _⟩ := C
  go_wp2_with fail
  (with_reducible refine (isE_f a a (Int.le_refl _) _).mono ?_); rintro e w' ⟨rfl, hb⟩
  replace HB := Aside0.mk (HB.out.step hb)
  clear hb
  have C := HB.out.cl
  simp only [Cl, and_true] at C
  obtain ⟨_, _, _, _, _, _, _, _, _, _, _, _⟩ := C
  go_wp2_with fail
  (with_reducible refine (isE_f c d f.out _).mono ?_); rintro e w' ⟨rfl, hb⟩
  replace HB := Aside0.mk (HB.out.step hb)
  clear hb
  have C := HB.out.cl
  simp only [Cl, and_true] at C
  obtain ⟨_, _, _, _, _, _, _, _, _, _, _, _⟩ := C
  go_wp2_with fail
  (with_reducible refine (xor_c a a c d r s ha.out hd.out h.out _).mono ?_); rintro e w' ⟨rfl, hb⟩
  replace HB := Aside0.mk (HB.out.step hb)
  clear hb
  have C := HB.out.cl
  simp only [Cl, and_true] at C
  obtain ⟨_, _, _, _, _, _, _, _, _, _, _, _⟩ := C
  go_wp2_with fail
  obtain ⟨R1, R2⟩ := HB.out.ret 2 rfl (by omega) r s
  refine bodyPost_ret (results_cell_row rfl _ _ (w.heap.size + 1 + 1) 38 #[.int .i32 r, .int .i32 s] (0, 0) _ rfl R1 Try.underlying38 rfl (by kernel_rfl)) rfl ⟨rfl, R2⟩

set_option maxHeartbeats 4000000 in
set_option maxRecDepth 100000 in
theorem apply14_x (a b c d r s : Int) (ha : Aside0 (I32 a)) (hb0 : Aside0 (I32 b)) (hc : Aside0 (I32 c)) (hd : Aside0 (I32 d)) (e : Aside0 (a ≤ b)) (f : Aside0 (c ≤ d)) (n1 : (a == b) = false) (h : Aside0 (leftv a b c d = (r, s))) (w : World) : Calls Try.prog 38 #[.int .u8 14, .agg #[.int .i32 a, .int .i32 b], .agg #[.int .i32 c, .int .i32 d]] w fun e w' => e = .returned (.agg #[.int .i32 r, .int .i32 s]) ∧ Below w.heap.size w w' := by
  have hu38 := Try.underlying38
  go_enter Try.func38, Try.ntmps38
  go_upto_region 1 with (fail)
  have HB := Aside0.mk (Bx.start3 w a b c d 0 0)
  generalize World.alloc (World.alloc (World.alloc w _) _) _ = w0 at HB ⊢
  have C := HB.out.cl
  simp only [Cl, and_true] at C
  obtain ⟨_, _, _, _, _, _, _, _, _, _, _, _⟩ := C
  go_wp2_with fail
  (with_reducible refine (isE_f a b e.out _).mono ?_); rintro e w' ⟨rfl, hb⟩
  replace HB := Aside0.mk (HB.out.step hb)
  clear hb
  have C := HB.out.cl
  simp only [Cl, and_true] at C
  obtain ⟨_, _, _, _, _, _, _, _, _, _, _, _⟩ := C
  go_wp2_with fail
  (with_reducible refine (isE_f c d f.out _).mono ?_); rintro e w' ⟨rfl, hb⟩
  replace HB := Aside0.mk (HB.out.step hb)
  clear hb
  have C := HB.out.cl
  simp only [Cl, and_true] at C
  obtain ⟨_, _, _, _, _, _, _, _, _, _, _, _⟩ := C
  go_wp2_with fail
  (with_reducible refine (left_c a b c d r s ha.out hb0.out h.out _).mono ?_); rintro e w' ⟨rfl, hb⟩
  replace HB := Aside0.mk (HB.out.step hb)
  clear hb
  have C := HB.out.cl
  simp only [Cl, and_true] at C
  obtain ⟨_, _, _, _, _, _, _, _, _, _, _, _⟩ := C
  go_wp2_with fail
  obtain ⟨R1, R2⟩ := HB.out.ret 2 rfl (by omega) r s
  refine bodyPost_ret (results_cell_row rfl _ _ (w.heap.size + 1 + 1) 38 #[.int .i32 r, .int .i32 s] (0, 0) _ rfl R1 Try.underlying38 rfl (by kernel_rfl)) rfl ⟨rfl, R2⟩

set_option maxHeartbeats 4000000 in
set_option maxRecDepth 100000 in
theorem apply14_y (a c d r s : Int) (ha : Aside0 (I32 a)) (hc : Aside0 (I32 c)) (hd : Aside0 (I32 d)) (f : Aside0 (c ≤ d)) (n1 : (c == d) = false) (h : Aside0 (leftv a a c d = (r, s))) (w : World) : Calls Try.prog 38 #[.int .u8 14, .agg #[.int .i32 a, .int .i32 a], .agg #[.int .i32 c, .int .i32 d]] w fun e w' => e = .returned (.agg #[.int .i32 r, .int .i32 s]) ∧ Below w.heap.size w w' := by
  have hu38 := Try.underlying38
  go_enter Try.func38, Try.ntmps38
  go_upto_region 1 with (fail)
  have HB := Aside0.mk (Bx.start3 w a a c d 0 0)
  generalize World.alloc (World.alloc (World.alloc w _) _) _ = w0 at HB ⊢
  have C := HB.out.cl
  simp only [Cl, and_true] at C
  obtain ⟨_, _, _, _, _, _, _, _, _, _, _, _⟩ := C
  go_wp2_with fail
  (with_reducible refine (isE_f a a (Int.le_refl _) _).mono ?_); rintro e w' ⟨rfl, hb⟩
  replace HB := Aside0.mk (HB.out.step hb)
  clear hb
  have C := HB.out.cl
  simp only [Cl, and_true] at C
  obtain ⟨_, _, _, _, _, _, _, _, _, _, _, _⟩ := C
  go_wp2_with fail
  (with_reducible refine (isE_f c d f.out _).mono ?_); rintro e w' ⟨rfl, hb⟩
  replace HB := Aside0.mk (HB.out.step hb)
  clear hb
  have C := HB.out.cl
  simp only [Cl, and_true] at C
  obtain ⟨_, _, _, _, _, _, _, _, _, _, _, _⟩ := C
  go_wp2_with fail
  (with_reducible refine (left_c a a c d r s ha.out ha.out h.out _).mono ?_); rintro e w' ⟨rfl, hb⟩
  replace HB := Aside0.mk (HB.out.step hb)
  clear hb
  have C := HB.out.cl
  simp only [Cl, and_true] at C
  obtain ⟨_, _, _, _, _, _, _, _, _, _, _, _⟩ := C
  go_wp2_with fail
  obtain ⟨R1, R2⟩ := HB.out.ret 2 rfl (by omega) r s
  refine bodyPost_ret (results_cell_row rfl _ _ (w.heap.size + 1 + 1) 38 #[.int .i32 r, .int .i32 s] (0, 0) _ rfl R1 Try.underlying38 rfl (by kernel_rfl)) rfl ⟨rfl, R2⟩

set_option maxHeartbeats 4000000 in
set_option maxRecDepth 100000 in
theorem apply15_x (a b c d r s : Int) (ha : Aside0 (I32 a)) (hb0 : Aside0 (I32 b)) (hc : Aside0 (I32 c)) (hd : Aside0 (I32 d)) (e : Aside0 (a ≤ b)) (f : Aside0 (c ≤ d)) (n1 : (a == b) = false) (h : Aside0 (rightv a b c d = (r, s))) (w : World) : Calls Try.prog 38 #[.int .u8 15, .agg #[.int .i32 a, .int .i32 b], .agg #[.int .i32 c, .int .i32 d]] w fun e w' => e = .returned (.agg #[.int .i32 r, .int .i32 s]) ∧ Below w.heap.size w w' := by
  have hu38 := Try.underlying38
  go_enter Try.func38, Try.ntmps38
  go_upto_region 1 with (fail)
  have HB := Aside0.mk (Bx.start3 w a b c d 0 0)
  generalize World.alloc (World.alloc (World.alloc w _) _) _ = w0 at HB ⊢
  have C := HB.out.cl
  simp only [Cl, and_true] at C
  obtain ⟨_, _, _, _, _, _, _, _, _, _, _, _⟩ := C
  go_wp2_with fail
  (with_reducible refine (isE_f a b e.out _).mono ?_); rintro e w' ⟨rfl, hb⟩
  replace HB := Aside0.mk (HB.out.step hb)
  clear hb
  have C := HB.out.cl
  simp only [Cl, and_true] at C
  obtain ⟨_, _, _, _, _, _, _, _, _, _, _, _⟩ := C
  go_wp2_with fail
  (with_reducible refine (isE_f c d f.out _).mono ?_); rintro e w' ⟨rfl, hb⟩
  replace HB := Aside0.mk (HB.out.step hb)
  clear hb
  have C := HB.out.cl
  simp only [Cl, and_true] at C
  obtain ⟨_, _, _, _, _, _, _, _, _, _, _, _⟩ := C
  go_wp2_with fail
  (with_reducible refine (right_c a b c d r s h.out _).mono ?_); rintro e w' ⟨rfl, hb⟩
  replace HB := Aside0.mk (HB.out.step hb)
  clear hb
  have C := HB.out.cl
  simp only [Cl, and_true] at C
  obtain ⟨_, _, _, _, _, _, _, _, _, _, _, _⟩ := C
  go_wp2_with fail
  obtain ⟨R1, R2⟩ := HB.out.ret 2 rfl (by omega) r s
  refine bodyPost_ret (results_cell_row rfl _ _ (w.heap.size + 1 + 1) 38 #[.int .i32 r, .int .i32 s] (0, 0) _ rfl R1 Try.underlying38 rfl (by kernel_rfl)) rfl ⟨rfl, R2⟩

set_option maxHeartbeats 4000000 in
set_option maxRecDepth 100000 in
theorem apply15_y (a c d r s : Int) (ha : Aside0 (I32 a)) (hc : Aside0 (I32 c)) (hd : Aside0 (I32 d)) (f : Aside0 (c ≤ d)) (n1 : (c == d) = false) (h : Aside0 (rightv a a c d = (r, s))) (w : World) : Calls Try.prog 38 #[.int .u8 15, .agg #[.int .i32 a, .int .i32 a], .agg #[.int .i32 c, .int .i32 d]] w fun e w' => e = .returned (.agg #[.int .i32 r, .int .i32 s]) ∧ Below w.heap.size w w' := by
  have hu38 := Try.underlying38
  go_enter Try.func38, Try.ntmps38
  go_upto_region 1 with (fail)
  have HB := Aside0.mk (Bx.start3 w a a c d 0 0)
  generalize World.alloc (World.alloc (World.alloc w _) _) _ = w0 at HB ⊢
  have C := HB.out.cl
  simp only [Cl, and_true] at C
  obtain ⟨_, _, _, _, _, _, _, _, _, _, _, _⟩ := C
  go_wp2_with fail
  (with_reducible refine (isE_f a a (Int.le_refl _) _).mono ?_); rintro e w' ⟨rfl, hb⟩
  replace HB := Aside0.mk (HB.out.step hb)
  clear hb
  have C := HB.out.cl
  simp only [Cl, and_true] at C
  obtain ⟨_, _, _, _, _, _, _, _, _, _, _, _⟩ := C
  go_wp2_with fail
  (with_reducible refine (isE_f c d f.out _).mono ?_); rintro e w' ⟨rfl, hb⟩
  replace HB := Aside0.mk (HB.out.step hb)
  clear hb
  have C := HB.out.cl
  simp only [Cl, and_true] at C
  obtain ⟨_, _, _, _, _, _, _, _, _, _, _, _⟩ := C
  go_wp2_with fail
  (with_reducible refine (right_c a a c d r s h.out _).mono ?_); rintro e w' ⟨rfl, hb⟩
  replace HB := Aside0.mk (HB.out.step hb)
  clear hb
  have C := HB.out.cl
  simp only [Cl, and_true] at C
  obtain ⟨_, _, _, _, _, _, _, _, _, _, _, _⟩ := C
  go_wp2_with fail
  obtain ⟨R1, R2⟩ := HB.out.ret 2 rfl (by omega) r s
  refine bodyPost_ret (results_cell_row rfl _ _ (w.heap.size + 1 + 1) 38 #[.int .i32 r, .int .i32 s] (0, 0) _ rfl R1 Try.underlying38 rfl (by kernel_rfl)) rfl ⟨rfl, R2⟩

set_option maxHeartbeats 4000000 in
set_option maxRecDepth 100000 in
theorem applyd_x (op a b c d r s : Int) (p1 : decide (op < 6) = false) (p2 : decide (op > 23) = false) (m6 : (op == 6) = false) (m7 : (op == 7) = false) (m8 : (op == 8) = false) (m9 : (op == 9) = false) (m10 : (op == 10) = false) (m11 : (op == 11) = false) (m12 : (op == 12) = false) (m13 : (op == 13) = false) (m14 : (op == 14) = false) (m15 : (op == 15) = false) (l1 : Aside0 (16 ≤ op)) (l2 : Aside0 (op ≤ 23)) (e : Aside0 (a ≤ b)) (f : Aside0 (c ≤ d)) (n1 : (a == b) = false) (h : Aside0 (decv op a b c d = (r, s))) (w : World) : Calls Try.prog 38 #[.int .u8 op, .agg #[.int .i32 a, .int .i32 b], .agg #[.int .i32 c, .int .i32 d]] w fun e w' => e = .returned (.agg #[.int .i32 r, .int .i32 s]) ∧ Below w.heap.size w w' := by
  have hu38 := Try.underlying38
  go_enter Try.func38, Try.ntmps38
  go_upto_region 1 with (fail)
  have HB := Aside0.mk (Bx.start3 w a b c d 0 0)
  generalize World.alloc (World.alloc (World.alloc w _) _) _ = w0 at HB ⊢
  have C := HB.out.cl
  simp only [Cl, and_true] at C
  obtain ⟨_, _, _, _, _, _, _, _, _, _, _, _⟩ := C
  go_wp2_with fail
  (with_reducible refine (isE_f a b e.out _).mono ?_); rintro e w' ⟨rfl, hb⟩
  replace HB := Aside0.mk (HB.out.step hb)
  clear hb
  have C := HB.out.cl
  simp only [Cl, and_true] at C
  obtain ⟨_, _, _, _, _, _, _, _, _, _, _, _⟩ := C
  go_wp2_with fail
  (with_reducible refine (isE_f c d f.out _).mono ?_); rintro e w' ⟨rfl, hb⟩
  replace HB := Aside0.mk (HB.out.step hb)
  clear hb
  have C := HB.out.cl
  simp only [Cl, and_true] at C
  obtain ⟨_, _, _, _, _, _, _, _, _, _, _, _⟩ := C
  go_wp2_with fail
  (with_reducible refine (decide_c op a b c d r s l1.out l2.out h.out _).mono ?_); rintro e w' ⟨rfl, hb⟩
  replace HB := Aside0.mk (HB.out.step hb)
  clear hb
  have C := HB.out.cl
  simp only [Cl, and_true] at C
  obtain ⟨_, _, _, _, _, _, _, _, _, _, _, _⟩ := C
  go_wp2_with fail
  obtain ⟨R1, R2⟩ := HB.out.ret 2 rfl (by omega) r s
  refine bodyPost_ret (results_cell_row rfl _ _ (w.heap.size + 1 + 1) 38 #[.int .i32 r, .int .i32 s] (0, 0) _ rfl R1 Try.underlying38 rfl (by kernel_rfl)) rfl ⟨rfl, R2⟩

set_option maxHeartbeats 4000000 in
set_option maxRecDepth 100000 in
theorem applyd_y (op a c d r s : Int) (p1 : decide (op < 6) = false) (p2 : decide (op > 23) = false) (m6 : (op == 6) = false) (m7 : (op == 7) = false) (m8 : (op == 8) = false) (m9 : (op == 9) = false) (m10 : (op == 10) = false) (m11 : (op == 11) = false) (m12 : (op == 12) = false) (m13 : (op == 13) = false) (m14 : (op == 14) = false) (m15 : (op == 15) = false) (l1 : Aside0 (16 ≤ op)) (l2 : Aside0 (op ≤ 23)) (f : Aside0 (c ≤ d)) (n1 : (c == d) = false) (h : Aside0 (decv op a a c d = (r, s))) (w : World) : Calls Try.prog 38 #[.int .u8 op, .agg #[.int .i32 a, .int .i32 a], .agg #[.int .i32 c, .int .i32 d]] w fun e w' => e = .returned (.agg #[.int .i32 r, .int .i32 s]) ∧ Below w.heap.size w w' := by
  have hu38 := Try.underlying38
  go_enter Try.func38, Try.ntmps38
  go_upto_region 1 with (fail)
  have HB := Aside0.mk (Bx.start3 w a a c d 0 0)
  generalize World.alloc (World.alloc (World.alloc w _) _) _ = w0 at HB ⊢
  have C := HB.out.cl
  simp only [Cl, and_true] at C
  obtain ⟨_, _, _, _, _, _, _, _, _, _, _, _⟩ := C
  go_wp2_with fail
  (with_reducible refine (isE_f a a (Int.le_refl _) _).mono ?_); rintro e w' ⟨rfl, hb⟩
  replace HB := Aside0.mk (HB.out.step hb)
  clear hb
  have C := HB.out.cl
  simp only [Cl, and_true] at C
  obtain ⟨_, _, _, _, _, _, _, _, _, _, _, _⟩ := C
  go_wp2_with fail
  (with_reducible refine (isE_f c d f.out _).mono ?_); rintro e w' ⟨rfl, hb⟩
  replace HB := Aside0.mk (HB.out.step hb)
  clear hb
  have C := HB.out.cl
  simp only [Cl, and_true] at C
  obtain ⟨_, _, _, _, _, _, _, _, _, _, _, _⟩ := C
  go_wp2_with fail
  (with_reducible refine (decide_c op a a c d r s l1.out l2.out h.out _).mono ?_); rintro e w' ⟨rfl, hb⟩
  replace HB := Aside0.mk (HB.out.step hb)
  clear hb
  have C := HB.out.cl
  simp only [Cl, and_true] at C
  obtain ⟨_, _, _, _, _, _, _, _, _, _, _, _⟩ := C
  go_wp2_with fail
  obtain ⟨R1, R2⟩ := HB.out.ret 2 rfl (by omega) r s
  refine bodyPost_ret (results_cell_row rfl _ _ (w.heap.size + 1 + 1) 38 #[.int .i32 r, .int .i32 s] (0, 0) _ rfl R1 Try.underlying38 rfl (by kernel_rfl)) rfl ⟨rfl, R2⟩

theorem apply_c (op a b c d r s : Int) (ha : I32 a) (hb : I32 b) (hc : I32 c) (hd : I32 d) (h : iv op a b c d = (r, s)) (w : World) : Calls Try.prog 38 #[.int .u8 op, .agg #[.int .i32 a, .int .i32 b], .agg #[.int .i32 c, .int .i32 d]] w fun e w' => e = .returned (.agg #[.int .i32 r, .int .i32 s]) ∧ Below w.heap.size w w' := by
  unfold iv at h
  by_cases p1 : op < 6
  · rw [if_pos (.inl p1)] at h
    obtain ⟨rfl, rfl⟩ := Prod.mk.inj h
    exact apply_low op a b c d (decide_eq_true p1) w
  by_cases p2 : 23 < op
  · rw [if_pos (.inr p2)] at h
    obtain ⟨rfl, rfl⟩ := Prod.mk.inj h
    exact apply_high op a b c d (decide_eq_false p1) (decide_eq_true p2) w
  rw [if_neg (by omega)] at h
  have q1 : decide (op < 6) = false := decide_eq_false p1
  have q2 : decide (op > 23) = false := decide_eq_false p2
  by_cases e : b < a
  · rw [if_pos (.inl e)] at h
    obtain ⟨rfl, rfl⟩ := Prod.mk.inj h
    exact apply_ex op a b c d q1 q2 ⟨e⟩ w
  by_cases f : d < c
  · rw [if_pos (.inr f)] at h
    obtain ⟨rfl, rfl⟩ := Prod.mk.inj h
    exact apply_ey op a b c d q1 q2 ⟨by omega⟩ ⟨f⟩ w
  rw [if_neg (by omega)] at h
  have e' : a ≤ b := by omega
  have f' : c ≤ d := by omega
  have nf : ∀ {x y : Int}, x ≠ y → (x == y) = false := fun h => beq_eq_false_iff_ne.2 h
  by_cases s1 : a = b
  · subst s1
    by_cases s2 : c = d
    · subst s2
      rw [if_pos ⟨rfl, rfl⟩] at h
      obtain ⟨v, q, hv⟩ : ∃ v q, wv op a c = (v, q) := ⟨_, _, rfl⟩
      rw [hv] at h
      by_cases hq : q = 0
      · subst hq
        rw [if_pos rfl] at h
        obtain ⟨rfl, rfl⟩ := Prod.mk.inj h
        exact apply_one op a c v q1 q2 ⟨hv⟩ w
      · rw [if_neg hq] at h
        obtain ⟨rfl, rfl⟩ := Prod.mk.inj h
        exact apply_err op a c v q q1 q2 ⟨hv⟩ (bne_iff_ne.2 hq) w
    rw [if_neg (fun x => s2 x.2)] at h
    by_cases o6 : op = 6
    · rw [if_pos o6] at h; subst o6
      exact apply6_y a c d r s ⟨ha⟩ ⟨hc⟩ ⟨hd⟩ ⟨f'⟩ (nf s2) ⟨h⟩ w
    rw [if_neg o6] at h
    by_cases o7 : op = 7
    · rw [if_pos o7] at h; subst o7
      exact apply7_y a c d r s ⟨ha⟩ ⟨hc⟩ ⟨hd⟩ ⟨f'⟩ (nf s2) ⟨h⟩ w
    rw [if_neg o7] at h
    by_cases o8 : op = 8
    · rw [if_pos o8] at h; subst o8
      exact apply8_y a c d r s ⟨ha⟩ ⟨hc⟩ ⟨hd⟩ ⟨f'⟩ (nf s2) ⟨h⟩ w
    rw [if_neg o8] at h
    by_cases o9 : op = 9
    · rw [if_pos o9] at h; subst o9
      exact apply9_y a c d r s ⟨ha⟩ ⟨hc⟩ ⟨hd⟩ ⟨f'⟩ (nf s2) ⟨h⟩ w
    rw [if_neg o9] at h
    by_cases o10 : op = 10
    · rw [if_pos o10] at h; subst o10
      exact apply10_y a c d r s ⟨ha⟩ ⟨hc⟩ ⟨hd⟩ ⟨f'⟩ (nf s2) ⟨h⟩ w
    rw [if_neg o10] at h
    by_cases o11 : op = 11
    · rw [if_pos o11] at h; subst o11
      exact apply11_y a c d r s ⟨ha⟩ ⟨hc⟩ ⟨hd⟩ ⟨f'⟩ (nf s2) ⟨h⟩ w
    rw [if_neg o11] at h
    by_cases o12 : op = 12
    · rw [if_pos o12] at h; subst o12
      exact apply12_y a c d r s ⟨ha⟩ ⟨hc⟩ ⟨hd⟩ ⟨f'⟩ (nf s2) ⟨h⟩ w
    rw [if_neg o12] at h
    by_cases o13 : op = 13
    · rw [if_pos o13] at h; subst o13
      exact apply13_y a c d r s ⟨ha⟩ ⟨hc⟩ ⟨hd⟩ ⟨f'⟩ (nf s2) ⟨h⟩ w
    rw [if_neg o13] at h
    by_cases o14 : op = 14
    · rw [if_pos o14] at h; subst o14
      exact apply14_y a c d r s ⟨ha⟩ ⟨hc⟩ ⟨hd⟩ ⟨f'⟩ (nf s2) ⟨h⟩ w
    rw [if_neg o14] at h
    by_cases o15 : op = 15
    · rw [if_pos o15] at h; subst o15
      exact apply15_y a c d r s ⟨ha⟩ ⟨hc⟩ ⟨hd⟩ ⟨f'⟩ (nf s2) ⟨h⟩ w
    rw [if_neg o15] at h
    exact applyd_y op a c d r s q1 q2 (nf o6) (nf o7) (nf o8) (nf o9) (nf o10) (nf o11) (nf o12) (nf o13) (nf o14) (nf o15) ⟨by omega⟩ ⟨by omega⟩ ⟨f'⟩ (nf s2) ⟨h⟩ w
  rw [if_neg (fun x => s1 x.1)] at h
  by_cases o6 : op = 6
  · rw [if_pos o6] at h; subst o6
    exact apply6_x a b c d r s ⟨ha⟩ ⟨hb⟩ ⟨hc⟩ ⟨hd⟩ ⟨e'⟩ ⟨f'⟩ (nf s1) ⟨h⟩ w
  rw [if_neg o6] at h
  by_cases o7 : op = 7
  · rw [if_pos o7] at h; subst o7
    exact apply7_x a b c d r s ⟨ha⟩ ⟨hb⟩ ⟨hc⟩ ⟨hd⟩ ⟨e'⟩ ⟨f'⟩ (nf s1) ⟨h⟩ w
  rw [if_neg o7] at h
  by_cases o8 : op = 8
  · rw [if_pos o8] at h; subst o8
    exact apply8_x a b c d r s ⟨ha⟩ ⟨hb⟩ ⟨hc⟩ ⟨hd⟩ ⟨e'⟩ ⟨f'⟩ (nf s1) ⟨h⟩ w
  rw [if_neg o8] at h
  by_cases o9 : op = 9
  · rw [if_pos o9] at h; subst o9
    exact apply9_x a b c d r s ⟨ha⟩ ⟨hb⟩ ⟨hc⟩ ⟨hd⟩ ⟨e'⟩ ⟨f'⟩ (nf s1) ⟨h⟩ w
  rw [if_neg o9] at h
  by_cases o10 : op = 10
  · rw [if_pos o10] at h; subst o10
    exact apply10_x a b c d r s ⟨ha⟩ ⟨hb⟩ ⟨hc⟩ ⟨hd⟩ ⟨e'⟩ ⟨f'⟩ (nf s1) ⟨h⟩ w
  rw [if_neg o10] at h
  by_cases o11 : op = 11
  · rw [if_pos o11] at h; subst o11
    exact apply11_x a b c d r s ⟨ha⟩ ⟨hb⟩ ⟨hc⟩ ⟨hd⟩ ⟨e'⟩ ⟨f'⟩ (nf s1) ⟨h⟩ w
  rw [if_neg o11] at h
  by_cases o12 : op = 12
  · rw [if_pos o12] at h; subst o12
    exact apply12_x a b c d r s ⟨ha⟩ ⟨hb⟩ ⟨hc⟩ ⟨hd⟩ ⟨e'⟩ ⟨f'⟩ (nf s1) ⟨h⟩ w
  rw [if_neg o12] at h
  by_cases o13 : op = 13
  · rw [if_pos o13] at h; subst o13
    exact apply13_x a b c d r s ⟨ha⟩ ⟨hb⟩ ⟨hc⟩ ⟨hd⟩ ⟨e'⟩ ⟨f'⟩ (nf s1) ⟨h⟩ w
  rw [if_neg o13] at h
  by_cases o14 : op = 14
  · rw [if_pos o14] at h; subst o14
    exact apply14_x a b c d r s ⟨ha⟩ ⟨hb⟩ ⟨hc⟩ ⟨hd⟩ ⟨e'⟩ ⟨f'⟩ (nf s1) ⟨h⟩ w
  rw [if_neg o14] at h
  by_cases o15 : op = 15
  · rw [if_pos o15] at h; subst o15
    exact apply15_x a b c d r s ⟨ha⟩ ⟨hb⟩ ⟨hc⟩ ⟨hd⟩ ⟨e'⟩ ⟨f'⟩ (nf s1) ⟨h⟩ w
  rw [if_neg o15] at h
  exact applyd_x op a b c d r s q1 q2 (nf o6) (nf o7) (nf o8) (nf o9) (nf o10) (nf o11) (nf o12) (nf o13) (nf o14) (nf o15) ⟨by omega⟩ ⟨by omega⟩ ⟨e'⟩ ⟨f'⟩ (nf s1) ⟨h⟩ w

end Go.Proofs.Ytoalomjmmlnclaa.Ivl

