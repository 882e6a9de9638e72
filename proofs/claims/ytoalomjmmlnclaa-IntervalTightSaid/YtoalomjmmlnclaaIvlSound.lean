/- The plain law of interval operators, first part: the result contains the value for all pairs of members for which the operator is defined. -/
import Derived.Test.YtoalomjmmlnclaaIvlSpec
namespace Go.Proofs.Ytoalomjmmlnclaa.M
open Go.RowKit

/-! ### exact values between the corners -/
theorem mul_mid {l x h : Int} (t : Int) (h1 : l ≤ x) (h2 : x ≤ h) : (l * t ≤ x * t ∧ x * t ≤ h * t) ∨ (h * t ≤ x * t ∧ x * t ≤ l * t) := by
  rcases Int.le_total 0 t with h0 | h0
  · exact .inl ⟨Int.mul_le_mul_of_nonneg_right h1 h0, Int.mul_le_mul_of_nonneg_right h2 h0⟩
  · exact .inr ⟨Int.mul_le_mul_of_nonpos_right h2 h0, Int.mul_le_mul_of_nonpos_right h1 h0⟩
theorem mul_corner {a b c d p q : Int} (h1 : a ≤ p) (h2 : p ≤ b) (h3 : c ≤ q) (h4 : q ≤ d) :
    min (min (min (a * c) (a * d)) (b * c)) (b * d) ≤ p * q ∧ p * q ≤ max (max (max (a * c) (a * d)) (b * c)) (b * d) := by
  have k1 := mul_mid q h1 h2
  have k2 := mul_mid a h3 h4
  have k3 := mul_mid b h3 h4
  rw [Int.mul_comm c a, Int.mul_comm q a, Int.mul_comm d a] at k2
  rw [Int.mul_comm c b, Int.mul_comm q b, Int.mul_comm d b] at k3
  omega
/-- Go's quotient as a quotient of sizes. -/
theorem tdiv_size (p q : Int) : ((0 ≤ p ∧ 0 < q) ∨ (p < 0 ∧ q < 0) → p.tdiv q = ((p.natAbs / q.natAbs : Nat) : Int)) ∧ ((0 ≤ p ∧ q < 0) ∨ (p < 0 ∧ 0 < q) → p.tdiv q = -((p.natAbs / q.natAbs : Nat) : Int)) := by
  have pos : ∀ a b : Int, 0 ≤ a → 0 < b → a.tdiv b = ((a.natAbs / b.natAbs : Nat) : Int) := by
    intro a b ha hb
    obtain ⟨m, rfl⟩ := Int.eq_ofNat_of_zero_le ha
    obtain ⟨n, rfl⟩ := Int.eq_ofNat_of_zero_le (Int.le_of_lt hb)
    rw [Int.tdiv_eq_ediv_of_nonneg (by omega)]
    simp
  constructor
  · rintro (⟨h1, h2⟩ | ⟨h1, h2⟩)
    · exact pos p q h1 h2
    · have := pos (-p) (-q) (by omega) (by omega)
      rw [Int.neg_tdiv_neg] at this
      rw [this, Int.natAbs_neg, Int.natAbs_neg]
  · rintro (⟨h1, h2⟩ | ⟨h1, h2⟩)
    · have := pos p (-q) h1 (by omega)
      rw [Int.tdiv_neg, Int.natAbs_neg] at this
      omega
    · have := pos (-p) q (by omega) h2
      rw [Int.neg_tdiv, Int.natAbs_neg] at this
      omega
/-- For a fixed divisor. -/
theorem tdiv_mid_num {a p b : Int} (q : Int) (h0 : q ≠ 0) (h1 : a ≤ p) (h2 : p ≤ b) : (a.tdiv q ≤ p.tdiv q ∧ p.tdiv q ≤ b.tdiv q) ∨ (b.tdiv q ≤ p.tdiv q ∧ p.tdiv q ≤ a.tdiv q) := by
  rcases Int.lt_or_gt_of_ne h0 with h | h
  · right
    have k1 := Int.tdiv_le_tdiv (c := -q) (by omega) h1
    have k2 := Int.tdiv_le_tdiv (c := -q) (by omega) h2
    rw [Int.tdiv_neg, Int.tdiv_neg] at k1 k2
    omega
  · exact .inl ⟨Int.tdiv_le_tdiv h h1, Int.tdiv_le_tdiv h h2⟩
/-- For a fixed dividend, and divisors of one sign. -/
theorem tdiv_mid_den {c q d : Int} (p : Int) (hs : 0 < c ∨ d < 0) (h1 : c ≤ q) (h2 : q ≤ d) : (p.tdiv c ≤ p.tdiv q ∧ p.tdiv q ≤ p.tdiv d) ∨ (p.tdiv d ≤ p.tdiv q ∧ p.tdiv q ≤ p.tdiv c) := by
  have s1 := tdiv_size p c
  have s2 := tdiv_size p q
  have s3 := tdiv_size p d
  rcases hs with h | h
  · have k1 : p.natAbs / q.natAbs ≤ p.natAbs / c.natAbs := Nat.div_le_div_left (by omega) (by omega)
    have k2 : p.natAbs / d.natAbs ≤ p.natAbs / q.natAbs := Nat.div_le_div_left (by omega) (by omega)
    generalize p.natAbs / q.natAbs = x at *
    generalize p.natAbs / c.natAbs = y at *
    generalize p.natAbs / d.natAbs = z at *
    by_cases hp : 0 ≤ p
    · have e1 := s1.1 (by omega); have e2 := s2.1 (by omega); have e3 := s3.1 (by omega); omega
    · have e1 := s1.2 (by omega); have e2 := s2.2 (by omega); have e3 := s3.2 (by omega); omega
  · have k1 : p.natAbs / c.natAbs ≤ p.natAbs / q.natAbs := Nat.div_le_div_left (by omega) (by omega)
    have k2 : p.natAbs / q.natAbs ≤ p.natAbs / d.natAbs := Nat.div_le_div_left (by omega) (by omega)
    generalize p.natAbs / q.natAbs = x at *
    generalize p.natAbs / c.natAbs = y at *
    generalize p.natAbs / d.natAbs = z at *
    by_cases hp : 0 ≤ p
    · have e1 := s1.2 (by omega); have e2 := s2.2 (by omega); have e3 := s3.2 (by omega); omega
    · have e1 := s1.1 (by omega); have e2 := s2.1 (by omega); have e3 := s3.1 (by omega); omega
theorem tdiv_corner {a b c d p q : Int} (hs : 0 < c ∨ d < 0) (h1 : a ≤ p) (h2 : p ≤ b) (h3 : c ≤ q) (h4 : q ≤ d) :
    min (min (min (a.tdiv c) (a.tdiv d)) (b.tdiv c)) (b.tdiv d) ≤ p.tdiv q ∧ p.tdiv q ≤ max (max (max (a.tdiv c) (a.tdiv d)) (b.tdiv c)) (b.tdiv d) := by
  have k1 := tdiv_mid_num q (by omega) h1 h2
  have k2 := tdiv_mid_den a hs h3 h4
  have k3 := tdiv_mid_den b hs h3 h4
  omega

/-- What a hull says of a number between the corners. -/
def In (p : Int × Int) (v : Int) : Prop := p.1 ≤ v ∧ v ≤ p.2
theorem In_full {v : Int} (h : I32 v) : In fullv v := h
theorem In_clip {lo hi v : Int} (h1 : lo ≤ v) (h2 : v ≤ hi) : In (clip lo hi) (wrap32 v) ∧ (clip lo hi ≠ fullv → wrap32 v = v) := by
  unfold clip
  split
  · exact ⟨I32_wrap v, fun h => absurd rfl h⟩
  · have e : wrap32 v = v := w32 (by unfold I32; omega)
    rw [e]; exact ⟨⟨h1, h2⟩, fun _ => rfl⟩

/-! ### quotients -/
/-- The two parts of the divisors, where the result is not told at once. -/
theorem div_i32 {p q : Int} (hp : I32 p) (h : ¬ (p = -2147483648 ∧ q = -1)) : I32 (p.tdiv q) := by
  have hb := tdiv_bound p q
  unfold I32 at *
  by_cases e : p.tdiv q = 2147483648
  · exfalso
    have hp' : p.natAbs = 2147483648 := by omega
    by_cases h2 : 2 ≤ q.natAbs
    · have h3 : (p.tdiv q).natAbs = p.natAbs / q.natAbs := Int.natAbs_tdiv p q
      have h4 : p.natAbs / q.natAbs ≤ p.natAbs / 2 := Nat.div_le_div_left h2 (by decide)
      omega
    · have hq : q = 0 ∨ q = 1 ∨ q = -1 := by omega
      rcases hq with rfl | rfl | rfl
      · rw [Int.tdiv_zero] at e; omega
      · rw [Int.tdiv_one] at e; omega
      · exact h ⟨by omega, rfl⟩
  · omega
theorem clip_words {lo hi : Int} (h1 : -2147483648 ≤ lo) (h2 : hi ≤ 2147483647) : clip lo hi = (lo, hi) := by unfold clip; rw [if_neg (by omega)]

theorem part_val {a b u v : Int} (ha : I32 a) (hb : I32 b) (hab : a ≤ b) (huv : u ≤ v) (hs : 0 < u ∨ v < 0) (nf : ¬ (a ≤ -2147483648 ∧ u ≤ -1 ∧ -1 ≤ v)) :
    ∃ x y, hull4 (a.tdiv u) (a.tdiv v) (b.tdiv u) (b.tdiv v) = (x, y) ∧ x ≤ y ∧ (∀ p q, a ≤ p → p ≤ b → u ≤ q → q ≤ v → x ≤ p.tdiv q ∧ p.tdiv q ≤ y) ∧
      (∃ p q, (p = a ∨ p = b) ∧ (q = u ∨ q = v) ∧ x = p.tdiv q) ∧ (∃ p q, (p = a ∨ p = b) ∧ (q = u ∨ q = v) ∧ y = p.tdiv q) := by
  have ok : ∀ p q, (p = a ∨ p = b) → (q = u ∨ q = v) → I32 (p.tdiv q) := by
    intro p q hp hq
    refine div_i32 (by rcases hp with rfl | rfl <;> assumption) ?_
    rintro ⟨rfl, rfl⟩
    exact nf ⟨by unfold I32 at ha; omega, by omega, by omega⟩
  have k1 := ok a u (.inl rfl) (.inl rfl)
  have k2 := ok a v (.inl rfl) (.inr rfl)
  have k3 := ok b u (.inr rfl) (.inl rfl)
  have k4 := ok b v (.inr rfl) (.inr rfl)
  unfold I32 at k1 k2 k3 k4
  refine ⟨_, _, ?_, ?_, fun p q h1 h2 h3 h4 => tdiv_corner hs h1 h2 h3 h4, ?_, ?_⟩
  · unfold hull4; exact clip_words (by omega) (by omega)
  · omega
  · have h : ∀ A B C D : Int, min (min (min A B) C) D = A ∨ min (min (min A B) C) D = B ∨ min (min (min A B) C) D = C ∨ min (min (min A B) C) D = D := by intro A B C D; omega
    rcases h (a.tdiv u) (a.tdiv v) (b.tdiv u) (b.tdiv v) with h | h | h | h <;> rw [h]
    · exact ⟨a, u, .inl rfl, .inl rfl, rfl⟩
    · exact ⟨a, v, .inl rfl, .inr rfl, rfl⟩
    · exact ⟨b, u, .inr rfl, .inl rfl, rfl⟩
    · exact ⟨b, v, .inr rfl, .inr rfl, rfl⟩
  · have h : ∀ A B C D : Int, max (max (max A B) C) D = A ∨ max (max (max A B) C) D = B ∨ max (max (max A B) C) D = C ∨ max (max (max A B) C) D = D := by intro A B C D; omega
    rcases h (a.tdiv u) (a.tdiv v) (b.tdiv u) (b.tdiv v) with h | h | h | h <;> rw [h]
    · exact ⟨a, u, .inl rfl, .inl rfl, rfl⟩
    · exact ⟨a, v, .inl rfl, .inr rfl, rfl⟩
    · exact ⟨b, u, .inr rfl, .inl rfl, rfl⟩
    · exact ⟨b, v, .inr rfl, .inr rfl, rfl⟩
theorem join_empty {x y : Int} (h : x ≤ y) : joinv 1 0 x y = (x, y) := by
  unfold joinv; rw [if_neg (by omega), if_pos (by decide)]
theorem join_two {x y z w : Int} (h : x ≤ y) (h' : z ≤ w) : joinv x y z w = (min x z, max y w) := by
  unfold joinv; rw [if_neg (by omega), if_neg (by omega), if_neg (by omega)]
/-- A divisor among those that the law of tightness looks at. -/
def Cand (c d q : Int) : Prop := q = c ∨ q = d ∨ q = clampv c d (-1) ∨ q = clampv c d 1
theorem div_main {a b c d : Int} (ha : I32 a) (hb : I32 b) (hc : I32 c) (hd : I32 d) (hab : a ≤ b) (hcd : c ≤ d) (hz : ¬ (c = 0 ∧ d = 0)) (hf : ¬ ((a ≤ -2147483648 ∧ -2147483648 ≤ b) ∧ (c ≤ -1 ∧ -1 ≤ d))) :
    ∃ lo hi, divv a b c d = (lo, hi) ∧ lo ≤ hi ∧ (∀ p q, a ≤ p → p ≤ b → c ≤ q → q ≤ d → q ≠ 0 → lo ≤ p.tdiv q ∧ p.tdiv q ≤ hi) ∧
      (∃ p q, (p = a ∨ p = b) ∧ Cand c d q ∧ c ≤ q ∧ q ≤ d ∧ q ≠ 0 ∧ lo = p.tdiv q) ∧ (∃ p q, (p = a ∨ p = b) ∧ Cand c d q ∧ c ≤ q ∧ q ≤ d ∧ q ≠ 0 ∧ hi = p.tdiv q) := by
  have hc' := hc
  have hd' := hd
  have ha' := ha
  unfold I32 at hc' hd' ha'
  have low : c ≤ -1 → meetv c d (-2147483648) (-1) = (c, min d (-1)) := by
    intro h; unfold meetv; rw [if_neg (by omega)]; congr 1; omega
  have nolow : ¬ c ≤ -1 → meetv c d (-2147483648) (-1) = (1, 0) := by
    intro h; unfold meetv; rw [if_pos (by omega)]
  have high : 1 ≤ d → meetv c d 1 2147483647 = (max c 1, d) := by
    intro h; unfold meetv; rw [if_neg (by omega)]; congr 1; omega
  have nohigh : ¬ 1 ≤ d → meetv c d 1 2147483647 = (1, 0) := by
    intro h; unfold meetv; rw [if_pos (by omega)]
  have un : divv a b c d = partv a b (meetv c d 1 2147483647).1 (meetv c d 1 2147483647).2 (partv a b (meetv c d (-2147483648) (-1)).1 (meetv c d (-2147483648) (-1)).2 (1, 0)) := by
    unfold divv; rw [if_neg hz, if_neg hf]
  have cl : c ≤ -1 → min d (-1) = clampv c d (-1) := by intro h; unfold clampv; omega
  have ch : 1 ≤ d → max c 1 = clampv c d 1 := by intro h; unfold clampv; omega
  have pe : ∀ o, partv a b 1 0 o = o := fun o => by unfold partv; rw [if_pos (by decide)]
  have pn : ∀ {u v x y : Int} (o : Int × Int), u ≤ v → hull4 (a.tdiv u) (a.tdiv v) (b.tdiv u) (b.tdiv v) = (x, y) → partv a b u v o = joinv o.1 o.2 x y := by
    intro u v x y o h e; unfold partv; rw [if_neg (by omega), e]
  by_cases n : c ≤ -1
  · obtain ⟨x1, y1, e1, l1, m1, ⟨p1, q1, hp1, hq1, hx1⟩, ⟨r1, s1, hr1, hs1, hy1⟩⟩ := part_val ha hb hab (show c ≤ min d (-1) by omega) (.inr (by omega)) (by omega)
    have cand1 : ∀ q, q = c ∨ q = min d (-1) → Cand c d q ∧ c ≤ q ∧ q ≤ d ∧ q ≠ 0 := by
      rintro q (rfl | rfl)
      · exact ⟨.inl rfl, by omega, by omega, by omega⟩
      · exact ⟨.inr (.inr (.inl (cl n))), by omega, by omega, by omega⟩
    by_cases m : 1 ≤ d
    · obtain ⟨x2, y2, e2, l2, m2, ⟨p2, q2, hp2, hq2, hx2⟩, ⟨r2, s2, hr2, hs2, hy2⟩⟩ := part_val ha hb hab (show max c 1 ≤ d by omega) (.inl (by omega)) (by omega)
      have cand2 : ∀ q, q = max c 1 ∨ q = d → Cand c d q ∧ c ≤ q ∧ q ≤ d ∧ q ≠ 0 := by
        rintro q (rfl | rfl)
        · exact ⟨.inr (.inr (.inr (ch m))), by omega, by omega, by omega⟩
        · exact ⟨.inr (.inl rfl), by omega, by omega, by omega⟩
      refine ⟨min x1 x2, max y1 y2, ?_, by omega, ?_, ?_, ?_⟩
      · rw [un, low n, high m]
        simp only
        rw [pn (1, 0) (by omega) e1, join_empty l1, pn (x1, y1) (by omega) e2]
        exact join_two l1 l2
      · intro p q h1 h2 h3 h4 h5
        by_cases hq : q < 0
        · have := m1 p q h1 h2 h3 (by omega); omega
        · have := m2 p q h1 h2 (by omega) h4; omega
      · rcases Int.le_total x1 x2 with h | h
        · have k := cand1 q1 hq1
          exact ⟨p1, q1, hp1, k.1, k.2.1, k.2.2.1, k.2.2.2, by omega⟩
        · have k := cand2 q2 hq2
          exact ⟨p2, q2, hp2, k.1, k.2.1, k.2.2.1, k.2.2.2, by omega⟩
      · rcases Int.le_total y1 y2 with h | h
        · have k := cand2 s2 hs2
          exact ⟨r2, s2, hr2, k.1, k.2.1, k.2.2.1, k.2.2.2, by omega⟩
        · have k := cand1 s1 hs1
          exact ⟨r1, s1, hr1, k.1, k.2.1, k.2.2.1, k.2.2.2, by omega⟩
    · refine ⟨x1, y1, ?_, l1, ?_, ?_, ?_⟩
      · rw [un, low n, nohigh m]
        simp only
        rw [pn (1, 0) (by omega) e1, join_empty l1, pe]
      · intro p q h1 h2 h3 h4 h5
        exact m1 p q h1 h2 h3 (by omega)
      · have k := cand1 q1 hq1
        exact ⟨p1, q1, hp1, k.1, k.2.1, k.2.2.1, k.2.2.2, hx1⟩
      · have k := cand1 s1 hs1
        exact ⟨r1, s1, hr1, k.1, k.2.1, k.2.2.1, k.2.2.2, hy1⟩
  · have m : 1 ≤ d := by omega
    obtain ⟨x2, y2, e2, l2, m2, ⟨p2, q2, hp2, hq2, hx2⟩, ⟨r2, s2, hr2, hs2, hy2⟩⟩ := part_val ha hb hab (show max c 1 ≤ d by omega) (.inl (by omega)) (by omega)
    have cand2 : ∀ q, q = max c 1 ∨ q = d → Cand c d q ∧ c ≤ q ∧ q ≤ d ∧ q ≠ 0 := by
      rintro q (rfl | rfl)
      · exact ⟨.inr (.inr (.inr (ch m))), by omega, by omega, by omega⟩
      · exact ⟨.inr (.inl rfl), by omega, by omega, by omega⟩
    refine ⟨x2, y2, ?_, l2, ?_, ?_, ?_⟩
    · rw [un, nolow n, high m]
      simp only
      rw [pe, pn (1, 0) (by omega) e2, join_empty l2]
    · intro p q h1 h2 h3 h4 h5
      exact m2 p q h1 h2 (by omega) h4
    · have k := cand2 q2 hq2
      exact ⟨p2, q2, hp2, k.1, k.2.1, k.2.2.1, k.2.2.2, hx2⟩
    · have k := cand2 s2 hs2
      exact ⟨r2, s2, hr2, k.1, k.2.1, k.2.2.1, k.2.2.2, hy2⟩

end Go.Proofs.Ytoalomjmmlnclaa.M
