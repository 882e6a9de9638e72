/- The pure side of 'WordOrder': of less, equal and greater exactly one is told, the other comparisons are their negations, and less is transitive. -/
import Derived.Test.YtoalomjmmlnclaaPWordOrderx2
import Derived.Test.YtoalomjmmlnclaaMath
namespace Go.Proofs.Ytoalomjmmlnclaa.Pure
open Go.RowKit Go.Proofs.Ytoalomjmmlnclaa.PWordOrder Go.Proofs.YtoalomjmmlnclaaW.PrintWords Go.Proofs.YtoalomjmmlnclaaW.PrintLast Go.Proofs.YtoalomjmmlnclaaW.PrintMore
open Go.Proofs.Ytoalomjmmlnclaa.M
namespace WordOrderAid

theorem awake_true (k : Nat) : ontimelaw03_awake.f (k + 1) = some true := at_rounds (g := ontimelaw03_awake.f) ontimelaw03_awake.mono (k := 1) (by omega) (by decide +kernel)

theorem apply_wv (k : Nat) (op x y : Int) : word_Apply.f (k + 1) op x y = some (wv op x y) := by
  unfold word_Apply.f wv
  by_cases h : op = 6
  · rw [if_pos h, if_pos h]
  rw [if_neg h, if_neg h]; clear h
  by_cases h : op = 7
  · rw [if_pos h, if_pos h]
  rw [if_neg h, if_neg h]; clear h
  by_cases h : op = 8
  · rw [if_pos h, if_pos h]
  rw [if_neg h, if_neg h]; clear h
  by_cases h : op = 9
  · subst h; by_cases h0 : y = 0 <;> simp [word_Apply.j0, h0]
  rw [if_neg h, if_neg h]
  by_cases h' : op = 10
  · subst h'; by_cases h0 : y = 0 <;> simp [word_Apply.j0, h0]
  rw [if_neg h']
  have e : (op == 10) = false := beq_eq_false_iff_ne.2 h'
  simp only [word_Apply.j0, e, count_mod]
  clear h h' e
  rw [if_neg (by decide)]
  by_cases h : op = 11
  · rw [if_pos h, if_pos h]
  rw [if_neg h, if_neg h]; clear h
  by_cases h : op = 12
  · rw [if_pos h, if_pos h]
  rw [if_neg h, if_neg h]; clear h
  by_cases h : op = 13
  · rw [if_pos h, if_pos h]
  rw [if_neg h, if_neg h]; clear h
  by_cases h : op = 14
  · rw [if_pos h, if_pos h]
  rw [if_neg h, if_neg h]; clear h
  by_cases h : op = 15
  · rw [if_pos h, if_pos h]
  rw [if_neg h, if_neg h]; clear h
  unfold word_compare.f
  by_cases h : op = 16
  · rw [if_pos h, if_pos h]; by_cases c : x = y <;> simp [word_truth.f, tr, c]
  rw [if_neg h, if_neg h]; clear h
  by_cases h : op = 17
  · rw [if_pos h, if_pos h]; by_cases c : x = y <;> simp [word_truth.f, tr, c]
  rw [if_neg h, if_neg h]; clear h
  by_cases h : op = 18
  · rw [if_pos h, if_pos h]; by_cases c : x < y <;> simp [word_truth.f, tr, c]
  rw [if_neg h, if_neg h]; clear h
  by_cases h : op = 19
  · rw [if_pos h, if_pos h]; by_cases c : x ≤ y <;> simp [word_truth.f, tr, c]
  rw [if_neg h, if_neg h]; clear h
  by_cases h : op = 20
  · rw [if_pos h, if_pos h]; by_cases c : y < x <;> simp [word_truth.f, tr, c]
  rw [if_neg h, if_neg h]; clear h
  by_cases h : op = 21
  · rw [if_pos h, if_pos h]; by_cases c : y ≤ x <;> simp [word_truth.f, tr, c]
  rw [if_neg h, if_neg h]; clear h
  by_cases h : op = 22
  · rw [if_pos h, if_pos h]; by_cases c : x = 0 <;> by_cases d : y = 0 <;> simp [word_truth.f, tr, c, d]
  rw [if_neg h, if_neg h]; clear h
  by_cases h : op = 23
  · rw [if_pos h, if_pos h]; by_cases c : x = 0 <;> by_cases d : y = 0 <;> simp [word_truth.f, tr, c, d]
  rw [if_neg h, if_neg h]; simp

theorem op_wv (k : Nat) (op x y : Int) : ontimelaw03_op.f (k + 1) op x y = some (wv op x y).1 := by unfold ontimelaw03_op.f; rw [apply_wv]; rfl
theorem not_tr (b : Bool) : ontimelaw03_not.f (tr b) = some (tr (!b)) := by cases b <;> rfl

end WordOrderAid
open WordOrderAid

theorem WordOrder : ontimelaw03_WordOrder.Pure := by
  intro x y z _ _ _
  refine ⟨2, ?_⟩
  unfold ontimelaw03_WordOrder.f
  simp only [ontimelaw03_WordOrder.j0, awake_true, op_wv, Option.bind_some, if_true]
  simp only [wv, Int.reduceEq, if_false, if_true]
  rcases Int.lt_trichotomy x y with h | h | h
  · have h1 : ¬ x = y := by omega
    have h2 : ¬ y < x := by omega
    have h3 : x ≤ y := by omega
    have h4 : ¬ y ≤ x := by omega
    by_cases c : y < z
    · have h5 : x < z := by omega
      simp [h, h1, h2, h3, h4, c, h5, tr, wrap32, ontimelaw03_not.f, word_Unary.f, word_truth.f]
    · simp [h, h1, h2, h3, h4, c, tr, wrap32, ontimelaw03_not.f, word_Unary.f, word_truth.f]
  · subst h
    simp [tr, wrap32, ontimelaw03_not.f, word_Unary.f, word_truth.f]
  · have h1 : ¬ x = y := by omega
    have h2 : ¬ x < y := by omega
    have h3 : ¬ x ≤ y := by omega
    have h4 : y ≤ x := by omega
    simp [h, h1, h2, h3, h4, tr, wrap32, ontimelaw03_not.f, word_Unary.f, word_truth.f]

end Go.Proofs.Ytoalomjmmlnclaa.Pure
