/- The plain law of interval operators, fourth part: the bounds of a sum, difference, product, or quotient that is not full are values of members. -/
import Derived.Test.YtoalomjmmlnclaaIvlSound2
namespace Go.Proofs.Ytoalomjmmlnclaa.M
open Go.RowKit

theorem hull4_hit {p q r s : Int} {z : Int × Int} (h : hull4 p q r s = z) (hz : z ≠ fullv) : (I32 z.1 ∧ (z.1 = p ∨ z.1 = q ∨ z.1 = r ∨ z.1 = s)) ∧ (I32 z.2 ∧ (z.2 = p ∨ z.2 = q ∨ z.2 = r ∨ z.2 = s)) := by
  subst h
  unfold hull4 clip at hz ⊢
  by_cases c : min (min (min p q) r) s < -2147483648 ∨ 2147483647 < max (max (max p q) r) s
  · rw [if_pos c] at hz; exact absurd rfl hz
  · rw [if_neg c]; unfold I32; simp only; omega
/-- A bound is hit by a corner, or by a corner with a divisor next to 0. -/
def Hits (op a b c d v : Int) : Prop := ∃ p q, (p = a ∨ p = b) ∧ Cand c d q ∧ wv op p q = (v, 0)
theorem hits4 {op a b c d v : Int} (f : Int → Int → Int) (hf : ∀ p q, I32 (f p q) → wv op p q = (f p q, 0)) (hv : I32 v) (h : v = f a c ∨ v = f a d ∨ v = f b c ∨ v = f b d) : Hits op a b c d v := by
  rcases h with rfl | rfl | rfl | rfl
  · exact ⟨a, c, .inl rfl, .inl rfl, hf _ _ hv⟩
  · exact ⟨a, d, .inl rfl, .inr (.inl rfl), hf _ _ hv⟩
  · exact ⟨b, c, .inr rfl, .inl rfl, hf _ _ hv⟩
  · exact ⟨b, d, .inr rfl, .inr (.inl rfl), hf _ _ hv⟩
theorem wrap_id {x : Int} (h : I32 x) : wrap32 x = x := by unfold I32 at h; unfold wrap32; omega
set_option maxHeartbeats 2000000 in
/-- THE BOUNDS ARE VALUES OF MEMBERS. -/
theorem iv_tight {op a b c d : Int} (h6 : 6 ≤ op) (h9 : op ≤ 9) (ha : I32 a) (hb : I32 b) (hc : I32 c) (hd : I32 d) (e1 : a ≤ b) (e2 : c ≤ d) (hf : iv op a b c d ≠ fullv) (hn : (iv op a b c d).1 ≤ (iv op a b c d).2) :
    Hits op a b c d (iv op a b c d).1 ∧ Hits op a b c d (iv op a b c d).2 := by
  have hs : iv op a b c d = if a = b ∧ c = d then (if (wv op a c).2 = 0 then ((wv op a c).1, (wv op a c).1) else (1, 0)) else if op = 6 then hull4 (a + c) (a + d) (b + c) (b + d) else if op = 7 then hull4 (a - c) (a - d) (b - c) (b - d) else if op = 8 then hull4 (a * c) (a * d) (b * c) (b * d) else divv a b c d := by
    unfold iv
    rw [if_neg (show ¬ (op < 6 ∨ 23 < op) by omega), if_neg (show ¬ (b < a ∨ d < c) by omega)]
    by_cases s : a = b ∧ c = d
    · rw [if_pos s, if_pos s]
    rw [if_neg s, if_neg s]
    by_cases p : op = 6
    · rw [if_pos p, if_pos p]
    rw [if_neg p, if_neg p]
    by_cases p : op = 7
    · rw [if_pos p, if_pos p]
    rw [if_neg p, if_neg p]
    by_cases p : op = 8
    · rw [if_pos p, if_pos p]
    rw [if_neg p, if_neg p, if_pos (show op = 9 by omega)]
  rw [hs] at hf hn ⊢
  by_cases s : a = b ∧ c = d
  · rw [if_pos s] at hf hn ⊢
    by_cases w : (wv op a c).2 = 0
    · rw [if_pos w]
      have : Hits op a b c d (wv op a c).1 := ⟨a, c, .inl rfl, .inl rfl, by rw [← w]⟩
      exact ⟨this, this⟩
    · rw [if_neg w] at hn; exact absurd hn (by decide)
  rw [if_neg s] at hf hn ⊢
  by_cases p : op = 6
  · subst p
    rw [if_pos rfl] at hf hn ⊢
    obtain ⟨⟨i1, k1⟩, ⟨i2, k2⟩⟩ := hull4_hit rfl hf
    have hw : ∀ p q : Int, I32 (p + q) → wv 6 p q = (p + q, 0) := by intro p q h; unfold wv; rw [if_pos rfl, wrap_id h]
    exact ⟨hits4 (fun p q => p + q) hw i1 k1, hits4 (fun p q => p + q) hw i2 k2⟩
  rw [if_neg p] at hf hn ⊢
  by_cases p : op = 7
  · subst p
    rw [if_pos rfl] at hf hn ⊢
    obtain ⟨⟨i1, k1⟩, ⟨i2, k2⟩⟩ := hull4_hit rfl hf
    have hw : ∀ p q : Int, I32 (p - q) → wv 7 p q = (p - q, 0) := by intro p q h; unfold wv; rw [if_neg (by omega), if_pos rfl, wrap_id h]
    exact ⟨hits4 (fun p q => p - q) hw i1 k1, hits4 (fun p q => p - q) hw i2 k2⟩
  rw [if_neg p] at hf hn ⊢
  by_cases p : op = 8
  · subst p
    rw [if_pos rfl] at hf hn ⊢
    obtain ⟨⟨i1, k1⟩, ⟨i2, k2⟩⟩ := hull4_hit rfl hf
    have hw : ∀ p q : Int, I32 (p * q) → wv 8 p q = (p * q, 0) := by intro p q h; unfold wv; rw [if_neg (by omega), if_neg (by omega), if_pos rfl, wrap_id h]
    exact ⟨hits4 (fun p q => p * q) hw i1 k1, hits4 (fun p q => p * q) hw i2 k2⟩
  rw [if_neg p] at hf hn ⊢
  have p9 : op = 9 := by omega
  subst p9
  by_cases hz : c = 0 ∧ d = 0
  · exfalso; unfold divv at hn; rw [if_pos hz] at hn; exact absurd hn (by decide)
  by_cases hfu : (a ≤ -2147483648 ∧ -2147483648 ≤ b) ∧ (c ≤ -1 ∧ -1 ≤ d)
  · exfalso; apply hf; unfold divv; rw [if_neg hz, if_pos hfu]
  obtain ⟨lo, hi, q1, _, _, ⟨p, q, hp, g1, g2, g3, g4, rfl⟩, ⟨p', q', hp', g1', g2', g3', g4', rfl⟩⟩ := div_main ha hb hc hd e1 e2 hz hfu
  rw [q1]
  have hw : ∀ {p q : Int}, (p = a ∨ p = b) → c ≤ q → q ≤ d → q ≠ 0 → wv 9 p q = (p.tdiv q, 0) := by
    intro p q hp h1 h2 h3
    have hpi : I32 p := by rcases hp with rfl | rfl <;> assumption
    unfold wv; rw [if_neg (by omega), if_neg (by omega), if_neg (by omega), if_pos rfl, if_neg h3]
    unfold I32 at ha hb
    rw [wrap_id (div_i32 hpi (by rintro ⟨rfl, rfl⟩; omega))]
  exact ⟨⟨p, q, hp, g1, hw hp g2 g3 g4⟩, ⟨p', q', hp', g1', hw hp' g2' g3' g4'⟩⟩

end Go.Proofs.Ytoalomjmmlnclaa.M
