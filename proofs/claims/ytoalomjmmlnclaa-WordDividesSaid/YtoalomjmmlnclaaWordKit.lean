/- What the program's word functions answer, each as a contract of its call: Apply, op, awake, neg and not, in the words of one plain function; the two closures of the chapter's laws, too. -/
import Derived.Test.YtoalomjmmlnclaaPWordRingx1
import Derived.Test.YtoalomjmmlnclaaMath
namespace Go.Proofs.Ytoalomjmmlnclaa.WordKit
open Go.RowKit Go.Proofs.Ytoalomjmmlnclaa.PWordRing Go.Proofs.YtoalomjmmlnclaaW.PrintWords Go.Proofs.YtoalomjmmlnclaaW.PrintLast Go.Proofs.YtoalomjmmlnclaaW.PrintMore
open Go.Proofs.Ytoalomjmmlnclaa.M
attribute [local go_sem] max2_int min2_int max_two min_two
set_option linter.unusedVariables false
set_option linter.unusedSimpArgs false

theorem awake_true (k : Nat) : ontimelaw03_awake.f (k + 1) = some true := at_rounds (g := ontimelaw03_awake.f) ontimelaw03_awake.mono (k := 1) (by omega) (by decide +kernel)

theorem apply_wv (k : Nat) (op x y : Int) : word_Apply.f (k + 1) op x y = some (wv op x y) := by
  unfold word_Apply.f wv
  by_cases h : op = 6
  · rw [if_pos h, if_pos h]
  rw [if_neg h, if_neg h]; clear h
  by_cases h : op = 7
  · rw [if_pos h, if_pos h]
  rw [if_neg h, if_neg h]; clear h
  by_cases h : op = 8
  · rw [if_pos h, if_pos h]
  rw [if_neg h, if_neg h]; clear h
  by_cases h : op = 9
  · subst h; by_cases h0 : y = 0 <;> simp [word_Apply.j0, h0]
  rw [if_neg h, if_neg h]
  by_cases h' : op = 10
  · subst h'; by_cases h0 : y = 0 <;> simp [word_Apply.j0, h0]
  rw [if_neg h']
  have e : (op == 10) = false := beq_eq_false_iff_ne.2 h'
  simp only [word_Apply.j0, e, count_mod]
  clear h h' e
  rw [if_neg (by decide)]
  by_cases h : op = 11
  · rw [if_pos h, if_pos h]
  rw [if_neg h, if_neg h]; clear h
  by_cases h : op = 12
  · rw [if_pos h, if_pos h]
  rw [if_neg h, if_neg h]; clear h
  by_cases h : op = 13
  · rw [if_pos h, if_pos h]
  rw [if_neg h, if_neg h]; clear h
  by_cases h : op = 14
  · rw [if_pos h, if_pos h]
  rw [if_neg h, if_neg h]; clear h
  by_cases h : op = 15
  · rw [if_pos h, if_pos h]
  rw [if_neg h, if_neg h]; clear h
  unfold word_compare.f
  by_cases h : op = 16
  · rw [if_pos h, if_pos h]; by_cases c : x = y <;> simp [word_truth.f, tr, c]
  rw [if_neg h, if_neg h]; clear h
  by_cases h : op = 17
  · rw [if_pos h, if_pos h]; by_cases c : x = y <;> simp [word_truth.f, tr, c]
  rw [if_neg h, if_neg h]; clear h
  by_cases h : op = 18
  · rw [if_pos h, if_pos h]; by_cases c : x < y <;> simp [word_truth.f, tr, c]
  rw [if_neg h, if_neg h]; clear h
  by_cases h : op = 19
  · rw [if_pos h, if_pos h]; by_cases c : x ≤ y <;> simp [word_truth.f, tr, c]
  rw [if_neg h, if_neg h]; clear h
  by_cases h : op = 20
  · rw [if_pos h, if_pos h]; by_cases c : y < x <;> simp [word_truth.f, tr, c]
  rw [if_neg h, if_neg h]; clear h
  by_cases h : op = 21
  · rw [if_pos h, if_pos h]; by_cases c : y ≤ x <;> simp [word_truth.f, tr, c]
  rw [if_neg h, if_neg h]; clear h
  by_cases h : op = 22
  · rw [if_pos h, if_pos h]; by_cases c : x = 0 <;> by_cases d : y = 0 <;> simp [word_truth.f, tr, c, d]
  rw [if_neg h, if_neg h]; clear h
  by_cases h : op = 23
  · rw [if_pos h, if_pos h]; by_cases c : x = 0 <;> by_cases d : y = 0 <;> simp [word_truth.f, tr, c, d]
  rw [if_neg h, if_neg h]; simp

theorem apply_c (op x y r e : Int) (h : wv op x y = (r, e)) (w : World) :
    Calls Try.prog 19 #[.int .u8 op, .int .i32 x, .int .i32 y] w fun z w' => z = .returned (.tuple #[.int .i32 r, .int .i64 e]) ∧ Drawn0 w w' :=
  word_Apply.calls 1 op x y r e w (by rw [apply_wv 0, h])
theorem op_c (op x y r : Int) (h : (wv op x y).1 = r) (w : World) :
    Calls Try.prog 22 #[.int .u8 op, .int .i32 x, .int .i32 y] w fun z w' => z = .returned (.int .i32 r) ∧ Drawn0 w w' :=
  ontimelaw03_op.calls 1 op x y r w (by unfold ontimelaw03_op.f; rw [apply_wv 0, ← h]; rfl)
theorem awake_c (w : World) : Calls Try.prog 21 #[] w fun z w' => z = .returned (.bool true) ∧ Drawn0 w w' :=
  ontimelaw03_awake.calls 1 true w (awake_true 0)
theorem neg_c (x r : Int) (h : wrap32 (-x) = r) (w : World) : Calls Try.prog 34 #[.int .i32 x] w fun z w' => z = .returned (.int .i32 r) ∧ Drawn0 w w' :=
  ontimelaw03_neg.calls x r w (by rw [← h]; rfl)
theorem unary_c (op x r e : Int) (h : word_Unary.f op x = some (r, e)) (w : World) :
    Calls Try.prog 24 #[.int .u8 op, .int .i32 x] w fun z w' => z = .returned (.tuple #[.int .i32 r, .int .i64 e]) ∧ Drawn0 w w' := word_Unary.calls op x r e w h

/-- The logical negation. -/
def notv (x : Int) : Int := tr (decide (x = 0))
set_option maxHeartbeats 800000 in
theorem not_c (x r : Int) (h : notv x = r) (w : World) : Calls Try.prog 37 #[.int .i32 x] w fun z w' => z = .returned (.int .i32 r) ∧ Drawn0 w w' := by
  have A := Aside0.mk (show word_Unary.f 5 x = some (r, 0) by rw [← h]; by_cases c : x = 0 <;> simp [word_Unary.f, word_truth.f, notv, tr, c])
  clear h
  go_enter Try.func37, Try.ntmps37
  go_wp2_with (go_at_call 24; (with_reducible refine (unary_c 5 x r 0 A.out _).mono ?_); rintro e w' ⟨rfl, ⟨nd, rfl⟩⟩)
  go_ret
  exact ⟨by first | rfl | (simp; done) | (simp [*]; done), by repeat (first | exact Drawn0.refl _ | apply Drawn0.step)⟩

end Go.Proofs.Ytoalomjmmlnclaa.WordKit
