/- The plain law of widening: it holds both intervals, and changes an interval at most three times. -/
import Derived.Test.YtoalomjmmlnclaaIvlSpec
namespace Go.Proofs.Ytoalomjmmlnclaa.M
/-- How often an interval may still change. -/
def pot (a b : Int) : Nat := if b < a then 3 else (if a = -2147483648 then 0 else 1) + (if b = 2147483647 then 0 else 1)
theorem pot_le (a b : Int) : pot a b ≤ 3 := by unfold pot; split <;> (try split) <;> (try split) <;> omega
theorem widen_pot {a b c d z1 z2 : Int} (ha : I32 a) (hb : I32 b) (hc : I32 c) (hd : I32 d) (h : widenv a b c d = (z1, z2)) :
    pot z1 z2 + (if within z1 z2 a b = true then 0 else 1) ≤ pot a b ∧ within a b z1 z2 = true ∧ within c d z1 z2 = true ∧ I32 z1 ∧ I32 z2 := by
  unfold I32 at ha hb hc hd
  unfold I32
  unfold widenv joinv at h
  by_cases x : b < a <;> by_cases y : d < c
  · rw [if_pos (.inl x), if_pos ⟨x, y⟩] at h
    obtain ⟨rfl, rfl⟩ := Prod.mk.inj h
    unfold pot within; simp only [x, y, true_or, decide_true, if_true]; simp
  · rw [if_pos (.inl x), if_neg (by omega), if_pos x] at h
    obtain ⟨rfl, rfl⟩ := Prod.mk.inj h
    have w : within c d a b = false := decide_eq_false (by omega)
    rw [w]
    refine ⟨?_, decide_eq_true (by omega), decide_eq_true (by omega), by omega, by omega⟩
    unfold pot; rw [if_neg y, if_pos x]; split <;> split <;> simp
  · rw [if_pos (.inr y), if_neg (by omega), if_neg x, if_pos y] at h
    obtain ⟨rfl, rfl⟩ := Prod.mk.inj h
    have w : within a b a b = true := decide_eq_true (by omega)
    rw [w]
    exact ⟨Nat.le_refl _, rfl, decide_eq_true (by omega), by omega, by omega⟩
  · rw [if_neg (by omega)] at h
    obtain ⟨rfl, rfl⟩ := Prod.mk.inj h
    refine ⟨?_, decide_eq_true (by split <;> split <;> omega), decide_eq_true (by split <;> split <;> omega), by split <;> omega, by split <;> omega⟩
    by_cases p : c < a <;> by_cases q : b < d <;> simp only [p, q, if_true, if_false]
    · have w : within (-2147483648) 2147483647 a b = false := decide_eq_false (by omega)
      rw [w]; unfold pot; rw [if_neg (by omega), if_neg x, if_neg (show ¬ a = -2147483648 by omega), if_neg (show ¬ b = 2147483647 by omega)]; simp
    · have w : within (-2147483648) b a b = false := decide_eq_false (by omega)
      rw [w]; unfold pot; rw [if_neg (by omega), if_neg x, if_neg (show ¬ a = -2147483648 by omega)]; simp; omega
    · have w : within a 2147483647 a b = false := decide_eq_false (by omega)
      rw [w]; unfold pot; rw [if_neg (by omega), if_neg x, if_neg (show ¬ b = 2147483647 by omega)]; simp
    · have w : within a b a b = true := decide_eq_true (by omega)
      rw [w]; exact Nat.le_refl _
end Go.Proofs.Ytoalomjmmlnclaa.M
