/- The plain law of interval operators, third part: larger operands have larger results. -/
import Derived.Test.YtoalomjmmlnclaaIvlSound2
namespace Go.Proofs.Ytoalomjmmlnclaa.M
open Go.RowKit

/-- The one lies in the other, as Within tells it. -/
def Sub (p q : Int × Int) : Prop := p.2 < p.1 ∨ (q.1 ≤ q.2 ∧ q.1 ≤ p.1 ∧ p.2 ≤ q.2)
theorem Sub_within {p q : Int × Int} (h : Sub p q) : within p.1 p.2 q.1 q.2 = true := decide_eq_true h
theorem Sub_empty (q : Int × Int) : Sub (1, 0) q := .inl (by decide)
theorem Sub_full {p : Int × Int} (h : J32 p) : Sub p fullv := by
  unfold J32 I32 at h; unfold Sub fullv; simp only; omega
theorem Sub_refl (p : Int × Int) : Sub p p := by unfold Sub; omega
theorem Sub_one {v : Int} {q : Int × Int} (h : In q v) : Sub (v, v) q := by unfold In at h; unfold Sub; simp only; omega
theorem Sub_clip {l h l' h' : Int} (h0 : l ≤ h) (h1 : l' ≤ l) (h2 : h ≤ h') : Sub (clip l h) (clip l' h') := by
  unfold clip
  by_cases c : l' < -2147483648 ∨ 2147483647 < h'
  · rw [if_pos c]
    split
    · exact Sub_refl _
    · exact Sub_full (by unfold J32 I32; simp only; omega)
  · rw [if_neg c, if_neg (by omega)]
    unfold Sub; simp only; omega
theorem wv_i32 {op x y : Int} (hx : I32 x) (hy : I32 y) : I32 (wv op x y).1 := by
  have t : ∀ b, I32 (tr b) := by intro b; cases b <;> (unfold I32 tr; decide)
  have z : I32 0 := by unfold I32; decide
  have m : y ≠ 0 → I32 (x.tmod y) := by
    intro h; have k := tmod_size x y h; unfold I32 at *; omega
  have r : I32 (x / 2 ^ (y % 32).toNat) := by
    have hr := pow_range (y % 32) (by omega) (by omega)
    have k := shr_bound x _ hr.1
    unfold I32 at *
    generalize x / 2 ^ (y % 32).toNat = r at *
    omega
  have s : ∀ {c : Prop} [Decidable c] {p q : Int × Int}, I32 p.1 → I32 q.1 → I32 (if c then p else q).1 := by
    intro c _ p q hp hq; split <;> assumption
  unfold wv
  refine s (I32_wrap _) (s (I32_wrap _) (s (I32_wrap _) (s (s z (I32_wrap _)) (s ?_ (s ?_ (s ?_ (s ?_ (s (I32_wrap _) (s r (s (t _) (s (t _) (s (t _) (s (t _) (s (t _) (s (t _) (s (t _) (s (t _) z)))))))))))))))))
  · by_cases h : y = 0
    · rw [if_pos h]; exact z
    · rw [if_neg h]; exact m h
  · rw [and_bv]; exact I32_toInt _
  · rw [or_bv]; exact I32_toInt _
  · rw [xor_bv]; exact I32_toInt _
theorem J32_iv {op a b c d : Int} (ha : I32 a) (hb : I32 b) (hc : I32 c) (hd : I32 d) : J32 (iv op a b c d) := by
  have ha' := ha
  have hb' := hb
  have hc' := hc
  have hd' := hd
  unfold I32 at ha' hb' hc' hd'
  have pr : ∀ {x y : Int}, -2147483648 ≤ x → x ≤ 2147483647 → -2147483648 ≤ y → y ≤ 2147483647 → J32 (x, y) := by
    intro x y h1 h2 h3 h4; unfold J32 I32; simp only; omega
  have tr2 : ∀ A N, J32 (truthv A N) := by intro A N; cases A <;> cases N <;> exact pr (by decide) (by decide) (by decide) (by decide)
  unfold iv
  by_cases o : op < 6 ∨ 23 < op
  · rw [if_pos o]; exact J32_full
  rw [if_neg o]
  by_cases e : b < a ∨ d < c
  · rw [if_pos e]; exact J32_empty
  rw [if_neg e]
  by_cases s : a = b ∧ c = d
  · rw [if_pos s]
    split
    · rename_i hq
      obtain ⟨rfl, rfl⟩ := s
      have w : I32 (wv op a c).1 := wv_i32 ha hc
      exact ⟨w, w⟩
    · exact J32_empty
  rw [if_neg s]
  repeat' split
  all_goals first | exact J32_hull4 _ _ _ _ | skip
  · by_cases hz : c = 0 ∧ d = 0
    · unfold divv; rw [if_pos hz]; exact J32_empty
    by_cases hf : (a ≤ -2147483648 ∧ -2147483648 ≤ b) ∧ (c ≤ -1 ∧ -1 ≤ d)
    · unfold divv; rw [if_neg hz, if_pos hf]; exact J32_full
    · obtain ⟨lo, hi, e1, _, _, ⟨p, q, hp, _, h1, h2, h3, rfl⟩, ⟨p', q', hp', _, h1', h2', h3', rfl⟩⟩ := div_main ha hb hc hd (by omega) (by omega) hz hf
      rw [e1]
      have hpi : I32 p := by rcases hp with rfl | rfl <;> assumption
      have hpi' : I32 p' := by rcases hp' with rfl | rfl <;> assumption
      exact ⟨div_i32 hpi (by rintro ⟨rfl, rfl⟩; omega), div_i32 hpi' (by rintro ⟨rfl, rfl⟩; omega)⟩
  · unfold remv
    split
    · exact J32_empty
    · apply pr <;> (split <;> omega)
  · unfold andv; repeat' split
    · exact pr (by omega) (by omega) (by omega) (by omega)
    · exact pr (by omega) (by omega) (by omega) (by omega)
    · exact pr (by omega) (by omega) (by omega) (by omega)
    · exact J32_full
  · unfold orv; repeat' split
    · have k := mask_bound (m := max b d) (by omega) (by unfold I32; omega)
      exact pr (by omega) (by omega) (by omega) (by omega)
    · exact pr (by omega) (by omega) (by omega) (by omega)
    · exact J32_full
  · unfold xorv; repeat' split
    · have k := mask_bound (m := max b d) (by omega) (by unfold I32; omega)
      exact pr (by omega) (by omega) (by omega) (by omega)
    · exact J32_full
  · unfold leftv; repeat' split
    · exact J32_hull2 _ _
    · exact J32_full
  · unfold rightv; repeat' split
    · have hr := pow_range (c % 32) (by omega) (by omega)
      have k1 := shr_bound a _ hr.1
      have k2 := shr_bound b _ hr.1
      generalize a / 2 ^ (c % 32).toNat = x at *
      generalize b / 2 ^ (c % 32).toNat = y at *
      exact pr (by omega) (by omega) (by omega) (by omega)
    all_goals exact pr (by omega) (by omega) (by omega) (by omega)
  · have s : ∀ {c : Prop} [Decidable c] {p q : Int × Int}, J32 p → J32 q → J32 (if c then p else q) := by
      intro c _ p q hp hq; split <;> assumption
    unfold decv
    exact s (tr2 _ _) (s (tr2 _ _) (s (tr2 _ _) (s (tr2 _ _) (s (tr2 _ _) (s (tr2 _ _) (s (tr2 _ _) (s (tr2 _ _) J32_full)))))))

/-! ### larger operands -/
theorem Sub_truth {A N A' N' : Bool} (h1 : A' = true → A = true) (h2 : N' = true → N = true) (h3 : ¬ (A = true ∧ N = true)) : Sub (truthv A N) (truthv A' N') := by
  cases A <;> cases N <;> cases A' <;> cases N' <;> simp_all [truthv, Sub]

/-- LARGER OPERANDS HAVE LARGER RESULTS. -/
theorem iv_mono {op a b c d a' b' c' d' : Int} (ha : I32 a) (hb : I32 b) (hc : I32 c) (hd : I32 d) (ka : I32 a') (kb : I32 b') (kc : I32 c') (kd : I32 d')
    (hx : Sub (a, b) (a', b')) (hy : Sub (c, d) (c', d')) : Sub (iv op a b c d) (iv op a' b' c' d') := by
  by_cases o : op < 6 ∨ 23 < op
  · unfold iv; rw [if_pos o, if_pos o]; exact Sub_refl _
  by_cases e : b < a ∨ d < c
  · have : iv op a b c d = (1, 0) := by unfold iv; rw [if_neg o, if_pos e]
    rw [this]; exact Sub_empty _
  have hx' : a' ≤ a ∧ b ≤ b' := by unfold Sub at hx; simp only at hx; omega
  have hy' : c' ≤ c ∧ d ≤ d' := by unfold Sub at hy; simp only at hy; omega
  have e1 : a ≤ b := by omega
  have e2 : c ≤ d := by omega
  by_cases s : a = b ∧ c = d
  · obtain ⟨rfl, rfl⟩ := s
    have hs : iv op a a c c = if (wv op a c).2 = 0 then ((wv op a c).1, (wv op a c).1) else (1, 0) := by
      unfold iv; rw [if_neg o, if_neg e, if_pos ⟨rfl, rfl⟩]
    rw [hs]
    split
    · rename_i hq
      exact Sub_one (iv_sound (by omega) (by omega) ka kb kc kd hx'.1 hx'.2 hy'.1 hy'.2 (show wv op a c = ((wv op a c).1, 0) by rw [← hq]))
    · exact Sub_empty _
  have s' : ¬ (a' = b' ∧ c' = d') := by omega
  have J := J32_iv (op := op) ha hb hc hd
  have ha' := ha
  have hb' := hb
  have hc' := hc
  have hd' := hd
  have ka' := ka
  have kb' := kb
  have kc' := kc
  have kd' := kd
  unfold I32 at ha' hb' hc' hd' ka' kb' kc' kd'
  unfold iv at J ⊢
  rw [if_neg o, if_neg e, if_neg s] at J
  rw [if_neg o, if_neg e, if_neg s, if_neg o, if_neg (show ¬ (b' < a' ∨ d' < c') by omega), if_neg s']
  by_cases p : op = 6
  · rw [if_pos p, if_pos p]; exact Sub_clip (by omega) (by omega) (by omega)
  rw [if_neg p] at J; rw [if_neg p, if_neg p]
  by_cases p : op = 7
  · rw [if_pos p, if_pos p]; exact Sub_clip (by omega) (by omega) (by omega)
  rw [if_neg p] at J; rw [if_neg p, if_neg p]
  by_cases p : op = 8
  · rw [if_pos p, if_pos p]
    have k1 := mul_corner (p := a) (q := c) hx'.1 (show a ≤ b' by omega) hy'.1 (show c ≤ d' by omega)
    have k2 := mul_corner (p := a) (q := d) hx'.1 (show a ≤ b' by omega) (show c' ≤ d by omega) hy'.2
    have k3 := mul_corner (p := b) (q := c) (show a' ≤ b by omega) hx'.2 hy'.1 (show c ≤ d' by omega)
    have k4 := mul_corner (p := b) (q := d) (show a' ≤ b by omega) hx'.2 (show c' ≤ d by omega) hy'.2
    exact Sub_clip (by omega) (by omega) (by omega)
  rw [if_neg p] at J; rw [if_neg p, if_neg p]
  by_cases p : op = 9
  · rw [if_pos p] at J; rw [if_pos p, if_pos p]
    by_cases hz : c = 0 ∧ d = 0
    · have : divv a b c d = (1, 0) := by unfold divv; rw [if_pos hz]
      rw [this]; exact Sub_empty _
    have hz' : ¬ (c' = 0 ∧ d' = 0) := by omega
    by_cases hf : (a' ≤ -2147483648 ∧ -2147483648 ≤ b') ∧ (c' ≤ -1 ∧ -1 ≤ d')
    · have : divv a' b' c' d' = fullv := by unfold divv; rw [if_neg hz', if_pos hf]
      rw [this]; exact Sub_full J
    · have hf' : ¬ ((a ≤ -2147483648 ∧ -2147483648 ≤ b) ∧ (c ≤ -1 ∧ -1 ≤ d)) := by omega
      obtain ⟨lo, hi, q1, l1, _, ⟨p1, r1, g1, _, g2, g3, g4, rfl⟩, ⟨p2, r2, f1, _, f2, f3, f4, rfl⟩⟩ := div_main ha hb hc hd e1 e2 hz hf'
      obtain ⟨lo', hi', q2, l2, m2, _, _⟩ := div_main ka kb kc kd (by omega) (by omega) hz' hf
      rw [q1, q2]
      have w1 := m2 p1 r1 (by rcases g1 with rfl | rfl <;> omega) (by rcases g1 with rfl | rfl <;> omega) (by omega) (by omega) g4
      have w2 := m2 p2 r2 (by rcases f1 with rfl | rfl <;> omega) (by rcases f1 with rfl | rfl <;> omega) (by omega) (by omega) f4
      unfold Sub; simp only; omega
  rw [if_neg p] at J; rw [if_neg p, if_neg p]
  by_cases p : op = 10
  · rw [if_pos p, if_pos p]
    unfold remv
    by_cases hz : c = 0 ∧ d = 0
    · rw [if_pos hz]; exact Sub_empty _
    rw [if_neg hz, if_neg (show ¬ (c' = 0 ∧ d' = 0) by omega)]
    have hm : max (max (max (-c) c) (-d)) d ≤ max (max (max (-c') c') (-d')) d' := by omega
    have hm0 : 1 ≤ max (max (max (-c) c) (-d)) d := by omega
    generalize max (max (max (-c) c) (-d)) d = m at *
    generalize max (max (max (-c') c') (-d')) d' = m' at *
    unfold Sub
    simp only
    by_cases x1 : 0 ≤ a <;> by_cases x2 : 0 ≤ a' <;> by_cases y1 : b ≤ 0 <;> by_cases y2 : b' ≤ 0 <;> simp only [x1, x2, y1, y2, if_true, if_false] <;> omega
  rw [if_neg p] at J; rw [if_neg p, if_neg p]
  by_cases p : op = 11
  · rw [if_pos p] at J; rw [if_pos p, if_pos p]
    unfold andv at J ⊢
    by_cases x1 : 0 ≤ a' <;> by_cases y1 : 0 ≤ c'
    · rw [if_pos (show 0 ≤ a ∧ 0 ≤ c by omega), if_pos (show 0 ≤ a' ∧ 0 ≤ c' by omega)]
      unfold Sub; simp only; omega
    · rw [if_neg (show ¬ (0 ≤ a' ∧ 0 ≤ c') by omega), if_pos x1]
      by_cases y2 : 0 ≤ c
      · rw [if_pos (show 0 ≤ a ∧ 0 ≤ c by omega)]; unfold Sub; simp only; omega
      · rw [if_neg (show ¬ (0 ≤ a ∧ 0 ≤ c) by omega), if_pos (show 0 ≤ a by omega)]; unfold Sub; simp only; omega
    · rw [if_neg (show ¬ (0 ≤ a' ∧ 0 ≤ c') by omega), if_neg x1, if_pos y1]
      by_cases x2 : 0 ≤ a
      · rw [if_pos (show 0 ≤ a ∧ 0 ≤ c by omega)]; unfold Sub; simp only; omega
      · rw [if_neg (show ¬ (0 ≤ a ∧ 0 ≤ c) by omega), if_neg x2, if_pos (show 0 ≤ c by omega)]; unfold Sub; simp only; omega
    · rw [if_neg (show ¬ (0 ≤ a' ∧ 0 ≤ c') by omega), if_neg x1, if_neg y1]
      exact Sub_full J
  rw [if_neg p] at J; rw [if_neg p, if_neg p]
  by_cases p : op = 12
  · rw [if_pos p] at J; rw [if_pos p, if_pos p]
    unfold orv at J ⊢
    by_cases x1 : 0 ≤ a' ∧ 0 ≤ c'
    · have k := mask_mono (show max b d ≤ max b' d' by omega)
      have k2 := mask_bound (m := max b d) (by omega) (by unfold I32; omega)
      rw [if_pos x1, if_pos (show 0 ≤ a ∧ 0 ≤ c by omega)]
      unfold Sub; simp only; omega
    · rw [if_neg x1]
      by_cases y1 : b' < 0 ∧ d' < 0
      · rw [if_pos y1, if_neg (show ¬ (0 ≤ a ∧ 0 ≤ c) by omega), if_pos (show b < 0 ∧ d < 0 by omega)]
        unfold Sub; simp only; omega
      · rw [if_neg y1]; exact Sub_full J
  rw [if_neg p] at J; rw [if_neg p, if_neg p]
  by_cases p : op = 13
  · rw [if_pos p] at J; rw [if_pos p, if_pos p]
    unfold xorv at J ⊢
    by_cases x1 : 0 ≤ a' ∧ 0 ≤ c'
    · have k := mask_mono (show max b d ≤ max b' d' by omega)
      have k2 := mask_bound (m := max b d) (by omega) (by unfold I32; omega)
      rw [if_pos x1, if_pos (show 0 ≤ a ∧ 0 ≤ c by omega)]
      unfold Sub; simp only; omega
    · rw [if_neg x1]; exact Sub_full J
  rw [if_neg p] at J; rw [if_neg p, if_neg p]
  by_cases p : op = 14
  · rw [if_pos p] at J; rw [if_pos p, if_pos p]
    unfold leftv at J ⊢
    by_cases x1 : c' = d'
    · have x2 : c = d := by omega
      have x3 : c' = c := by omega
      subst x3
      rw [if_pos x1, if_pos x2]
      have k1 := mul_mid (2 ^ (c' % 32).toNat) hx'.1 (show a ≤ b' by omega)
      have k2 := mul_mid (2 ^ (c' % 32).toNat) (show a' ≤ b by omega) hx'.2
      exact Sub_clip (by omega) (by omega) (by omega)
    · rw [if_neg x1]; exact Sub_full J
  rw [if_neg p] at J; rw [if_neg p, if_neg p]
  by_cases p : op = 15
  · rw [if_pos p, if_pos p]
    have hr := pow_range (c % 32) (by omega) (by omega)
    unfold rightv
    by_cases x1 : c' = d'
    · have x2 : c = d := by omega
      have x3 : c' = c := by omega
      subst x3
      rw [if_pos x1, if_pos x2]
      exact .inr ⟨Int.ediv_le_ediv (by omega) (by omega), Int.ediv_le_ediv (by omega) hx'.1, Int.ediv_le_ediv (by omega) hx'.2⟩
    · rw [if_neg x1]
      by_cases x2 : c = d
      · rw [if_pos x2]
        have k1 := shr_bound a _ hr.1
        have k2 := shr_bound b _ hr.1
        generalize a / 2 ^ (c % 32).toNat = x at *
        generalize b / 2 ^ (c % 32).toNat = y at *
        unfold Sub
        simp only
        by_cases z1 : 0 ≤ a' <;> by_cases z2 : b' < 0 <;> simp only [z1, z2, if_true, if_false] <;> omega
      · rw [if_neg x2]
        unfold Sub
        simp only
        by_cases w1 : 0 ≤ a <;> by_cases w2 : b < 0 <;> by_cases z1 : 0 ≤ a' <;> by_cases z2 : b' < 0 <;> simp only [w1, w2, z1, z2, if_true, if_false] <;> omega
  rw [if_neg p, if_neg p]
  have ap : apartv a' b' c' d' = true → apartv a b c d = true := by
    intro h
    unfold apartv meetv at h ⊢
    simp only [decide_eq_true_eq] at h ⊢
    rw [if_pos]
    · decide
    · split at h
      · omega
      · simp only at h; omega
  unfold decv
  by_cases p : op = 16
  · rw [if_pos p, if_pos p]; exact Sub_truth (fun h => h) ap (fun h => by cases h.1)
  rw [if_neg p, if_neg p]
  by_cases p : op = 17
  · rw [if_pos p, if_pos p]; exact Sub_truth ap (fun h => h) (fun h => by cases h.2)
  rw [if_neg p, if_neg p]
  by_cases p : op = 18
  · rw [if_pos p, if_pos p]; apply Sub_truth <;> simp only [decide_eq_true_eq] <;> omega
  rw [if_neg p, if_neg p]
  by_cases p : op = 19
  · rw [if_pos p, if_pos p]; apply Sub_truth <;> simp only [decide_eq_true_eq] <;> omega
  rw [if_neg p, if_neg p]
  by_cases p : op = 20
  · rw [if_pos p, if_pos p]; apply Sub_truth <;> simp only [decide_eq_true_eq] <;> omega
  rw [if_neg p, if_neg p]
  by_cases p : op = 21
  · rw [if_pos p, if_pos p]; apply Sub_truth <;> simp only [decide_eq_true_eq] <;> omega
  rw [if_neg p, if_neg p]
  have sm : ∀ x y, somev x y = true ↔ ¬ (x ≤ 0 ∧ 0 ≤ y) := by intro x y; simp [somev, hasv]; omega
  have nn : ∀ x y, nonev x y = true ↔ (x = 0 ∧ y = 0) := by intro x y; simp [nonev]
  by_cases p : op = 22
  · rw [if_pos p, if_pos p]; apply Sub_truth <;> simp only [Bool.and_eq_true, Bool.or_eq_true, sm, nn] <;> omega
  rw [if_neg p, if_neg p]
  have p' : op = 23 := by omega
  rw [if_pos p', if_pos p']; apply Sub_truth <;> simp only [Bool.and_eq_true, Bool.or_eq_true, sm, nn] <;> omega

end Go.Proofs.Ytoalomjmmlnclaa.M
