/- The plain law of interval operators, second part: soundness of every operator. -/
import Derived.Test.YtoalomjmmlnclaaIvlSound
namespace Go.Proofs.Ytoalomjmmlnclaa.M
open Go.RowKit

/-! ### the bit operators -/
theorem nat_of {p : Int} (hp : I32 p) (h : 0 ≤ p) : (p % 4294967296).toNat = p.toNat ∧ p.toNat < 2 ^ 31 := by unfold I32 at hp; omega
theorem nat_neg {p : Int} (hp : I32 p) (h : p < 0) : (((p % 4294967296).toNat : Nat) : Int) = p + 4294967296 ∧ 2147483648 ≤ (p % 4294967296).toNat ∧ (p % 4294967296).toNat < 2 ^ 32 := by unfold I32 at hp; omega
theorem and_swap (p q : Int) : Go.bits .and .i32 p q = Go.bits .and .i32 q p := by rw [and_bv, and_bv, BitVec.and_comm]
theorem and_le {p : Int} (q : Int) (hp : I32 p) (h : 0 ≤ p) : 0 ≤ Go.bits .and .i32 p q ∧ Go.bits .and .i32 p q ≤ p := by
  have n := nat_of hp h
  rw [and_nat, n.1]
  have k : p.toNat &&& (q % 4294967296).toNat ≤ p.toNat := Nat.and_le_left
  generalize p.toNat &&& (q % 4294967296).toNat = r at *
  unfold wrap32
  omega
theorem mask_pow {m : Int} (h0 : 0 ≤ m) (hm : I32 m) : ∃ k : Nat, k ≤ 31 ∧ maskv m = (2 : Int) ^ k - 1 ∧ m.toNat < 2 ^ k := by
  unfold maskv
  by_cases h : m ≤ 0
  · refine ⟨0, by decide, ?_, ?_⟩
    · rw [if_pos h]; rfl
    · have : m = 0 := by omega
      subst this; decide
  · refine ⟨m.toNat.log2 + 1, ?_, ?_, Nat.lt_log2_self⟩
    · have : m.toNat.log2 < 31 := (Nat.log2_lt (by omega)).2 (by unfold I32 at hm; omega)
      omega
    · rw [if_neg h]
theorem mask_bound {m : Int} (h0 : 0 ≤ m) (hm : I32 m) : m ≤ maskv m ∧ maskv m ≤ 2147483647 := by
  obtain ⟨k, hk, e, hl⟩ := mask_pow h0 hm
  have h1 : (2 : Nat) ^ k ≤ 2 ^ 31 := Nat.pow_le_pow_right (by decide) hk
  have en : ((2 ^ k : Nat) : Int) = (2 : Int) ^ k := by simp
  rw [e]; omega
theorem mask_mono {m n : Int} (h : m ≤ n) : maskv m ≤ maskv n := by
  have low : ∀ x : Int, 0 ≤ maskv x := by
    intro x; unfold maskv; split
    · exact Int.le_refl _
    · have : 1 ≤ (2 : Nat) ^ (x.toNat.log2 + 1) := Nat.one_le_two_pow
      have en : ((2 ^ (x.toNat.log2 + 1) : Nat) : Int) = (2 : Int) ^ (x.toNat.log2 + 1) := by simp
      omega
  by_cases h0 : m ≤ 0
  · have : maskv m = 0 := by unfold maskv; rw [if_pos h0]
    rw [this]; exact low n
  · unfold maskv
    rw [if_neg h0, if_neg (by omega)]
    have k : m.toNat.log2 ≤ n.toNat.log2 := (Nat.le_log2 (by omega)).2 (Nat.le_trans (Nat.log2_self_le (by omega)) (by omega))
    have h1 : (2 : Nat) ^ (m.toNat.log2 + 1) ≤ 2 ^ (n.toNat.log2 + 1) := Nat.pow_le_pow_right (by decide) (by omega)
    have e1 : ((2 ^ (m.toNat.log2 + 1) : Nat) : Int) = (2 : Int) ^ (m.toNat.log2 + 1) := by simp
    have e2 : ((2 ^ (n.toNat.log2 + 1) : Nat) : Int) = (2 : Int) ^ (n.toNat.log2 + 1) := by simp
    omega
theorem bits_below {p q m : Int} (hp : I32 p) (hq : I32 q) (hm : I32 m) (h0 : 0 ≤ p) (h1 : 0 ≤ q) (h2 : p ≤ m) (h3 : q ≤ m) :
    (p ≤ Go.bits .or .i32 p q ∧ q ≤ Go.bits .or .i32 p q ∧ Go.bits .or .i32 p q ≤ maskv m) ∧ (0 ≤ Go.bits .xor .i32 p q ∧ Go.bits .xor .i32 p q ≤ maskv m) := by
  obtain ⟨k, hk, e, hl⟩ := mask_pow (show 0 ≤ m by omega) hm
  have n1 := nat_of hp h0
  have n2 := nat_of hq h1
  have b1 : (2 : Nat) ^ k ≤ 2 ^ 31 := Nat.pow_le_pow_right (by decide) hk
  have en : ((2 ^ k : Nat) : Int) = (2 : Int) ^ k := by simp
  have l1 : p.toNat < 2 ^ k := by omega
  have l2 : q.toNat < 2 ^ k := by omega
  rw [or_nat, xor_nat, n1.1, n2.1, e]
  have o1 : p.toNat ||| q.toNat < 2 ^ k := Nat.or_lt_two_pow l1 l2
  have o2 : p.toNat ≤ p.toNat ||| q.toNat := Nat.left_le_or
  have o3 : q.toNat ≤ p.toNat ||| q.toNat := Nat.right_le_or
  have x1 : p.toNat ^^^ q.toNat < 2 ^ k := Nat.xor_lt_two_pow l1 l2
  generalize p.toNat ||| q.toNat = r at *
  generalize p.toNat ^^^ q.toNat = s at *
  unfold wrap32
  omega
theorem or_neg {p q : Int} (hp : I32 p) (hq : I32 q) (h0 : p < 0) (h1 : q < 0) : p ≤ Go.bits .or .i32 p q ∧ q ≤ Go.bits .or .i32 p q ∧ Go.bits .or .i32 p q < 0 := by
  have n1 := nat_neg hp h0
  have n2 := nat_neg hq h1
  rw [or_nat]
  have o1 : (p % 4294967296).toNat ||| (q % 4294967296).toNat < 2 ^ 32 := Nat.or_lt_two_pow n1.2.2 n2.2.2
  have o2 : (p % 4294967296).toNat ≤ (p % 4294967296).toNat ||| (q % 4294967296).toNat := Nat.left_le_or
  have o3 : (q % 4294967296).toNat ≤ (p % 4294967296).toNat ||| (q % 4294967296).toNat := Nat.right_le_or
  generalize (p % 4294967296).toNat ||| (q % 4294967296).toNat = r at *
  generalize (p % 4294967296).toNat = x at *
  generalize (q % 4294967296).toNat = y at *
  unfold wrap32
  omega

/-! ### the shifts -/
theorem pow_range (n : Int) (h0 : 0 ≤ n) (h1 : n < 32) : (1 : Int) ≤ 2 ^ n.toNat ∧ (2 : Int) ^ n.toNat ≤ 2147483648 := by
  have h : (2 : Nat) ^ n.toNat ≤ 2 ^ 31 := Nat.pow_le_pow_right (by decide) (by omega)
  have h' : 1 ≤ (2 : Nat) ^ n.toNat := Nat.one_le_two_pow
  have e : ((2 ^ n.toNat : Nat) : Int) = (2 : Int) ^ n.toNat := by simp
  rw [← e]; omega
theorem shr_bound (p : Int) (t : Int) (ht : 1 ≤ t) : (0 ≤ p → 0 ≤ p / t ∧ p / t ≤ p) ∧ (p < 0 → p ≤ p / t ∧ p / t ≤ -1) := by
  constructor
  · intro h
    exact ⟨Int.ediv_nonneg h (by omega), Int.ediv_le_self _ h⟩
  · intro h
    constructor
    · rw [Int.le_ediv_iff_mul_le (by omega)]
      have := Int.mul_le_mul_of_nonpos_left (a := p) (by omega) ht
      omega
    · have : p / t < 0 := Int.ediv_neg_of_neg_of_pos h (by omega)
      omega

/-! ### remainders -/
theorem tmod_size (p q : Int) (hq : q ≠ 0) : (p.tmod q).natAbs < q.natAbs ∧ (p.tmod q).natAbs ≤ p.natAbs ∧ (0 ≤ p → 0 ≤ p.tmod q) ∧ (p ≤ 0 → p.tmod q ≤ 0) := by
  refine ⟨?_, ?_, fun h => Int.tmod_nonneg _ h, fun h => ?_⟩
  · rw [Int.natAbs_tmod]; exact Nat.mod_lt _ (by omega)
  · rw [Int.natAbs_tmod]; exact Nat.mod_le _ _
  · have := Int.tmod_nonneg (a := -p) q (by omega)
    rw [Int.neg_tmod] at this
    omega

/-- THE RESULT CONTAINS THE VALUE, for all pairs of members for which the operator is defined. -/
theorem iv_sound {op a b c d p q v : Int} (h6 : 6 ≤ op) (h23 : op ≤ 23) (ha : I32 a) (hb : I32 b) (hc : I32 c) (hd : I32 d) (h1 : a ≤ p) (h2 : p ≤ b) (h3 : c ≤ q) (h4 : q ≤ d) (hv : wv op p q = (v, 0)) : In (iv op a b c d) v := by
  have ha' := ha
  have hb' := hb
  have hc' := hc
  have hd' := hd
  unfold I32 at ha' hb' hc' hd'
  have hp : I32 p := by unfold I32; omega
  have hq : I32 q := by unfold I32; omega
  unfold iv
  rw [if_neg (by omega), if_neg (by omega)]
  by_cases hs : a = b ∧ c = d
  · obtain ⟨rfl, rfl⟩ := hs
    have e1 : p = a := by omega
    have e2 : q = c := by omega
    subst e1 e2
    rw [if_pos ⟨rfl, rfl⟩, hv]
    exact ⟨Int.le_refl _, Int.le_refl _⟩
  rw [if_neg hs]
  by_cases o : op = 6
  · subst o; rw [if_pos rfl]
    obtain ⟨rfl, _⟩ := Prod.mk.inj hv
    exact (In_clip (v := p + q) (by omega) (by omega)).1
  rw [if_neg o]
  by_cases o : op = 7
  · subst o; rw [if_pos rfl]
    obtain ⟨rfl, _⟩ := Prod.mk.inj hv
    exact (In_clip (v := p - q) (by omega) (by omega)).1
  rw [if_neg o]
  by_cases o : op = 8
  · subst o; rw [if_pos rfl]
    obtain ⟨rfl, _⟩ := Prod.mk.inj hv
    have k := mul_corner h1 h2 h3 h4
    exact (In_clip k.1 k.2).1
  rw [if_neg o]
  by_cases o : op = 9
  · subst o; rw [if_pos rfl]
    have q0 : q ≠ 0 := by rintro rfl; simp [wv] at hv
    have hv' : v = wrap32 (p.tdiv q) := by simp [wv, q0] at hv; exact hv.symm
    by_cases hz : c = 0 ∧ d = 0
    · omega
    by_cases hf : (a ≤ -2147483648 ∧ -2147483648 ≤ b) ∧ (c ≤ -1 ∧ -1 ≤ d)
    · unfold divv; rw [if_neg hz, if_pos hf, hv']
      exact In_full (I32_wrap _)
    · obtain ⟨lo, hi, e, _, m, _, _⟩ := div_main ha hb hc hd (by omega) (by omega) hz hf
      rw [e, hv', w32 (div_i32 hp (by rintro ⟨rfl, rfl⟩; omega))]
      exact m p q h1 h2 h3 h4 q0
  rw [if_neg o]
  by_cases o : op = 10
  · subst o; rw [if_pos rfl]
    have q0 : q ≠ 0 := by rintro rfl; simp [wv] at hv
    have hv' : v = p.tmod q := by simp [wv, q0] at hv; exact hv.symm
    have k := tmod_size p q q0
    unfold remv
    rw [if_neg (by omega), hv']
    generalize p.tmod q = r at *
    unfold In
    simp only
    constructor
    · split <;> omega
    · split <;> omega
  rw [if_neg o]
  by_cases o : op = 11
  · subst o; rw [if_pos rfl]
    obtain ⟨rfl, _⟩ := Prod.mk.inj hv
    unfold andv
    by_cases x : 0 ≤ a
    · have k := and_le q hp (by omega)
      by_cases y : 0 ≤ c
      · have k' := and_le p hq (by omega)
        rw [and_swap] at k'
        rw [if_pos ⟨x, y⟩]
        unfold In; simp only; omega
      · rw [if_neg (by omega), if_pos x]
        unfold In; simp only; omega
    · by_cases y : 0 ≤ c
      · have k' := and_le p hq (by omega)
        rw [and_swap] at k'
        rw [if_neg (by omega), if_neg x, if_pos y]
        unfold In; simp only; omega
      · rw [if_neg (by omega), if_neg x, if_neg y]
        apply In_full; rw [and_bv]; exact I32_toInt _
  rw [if_neg o]
  by_cases o : op = 12
  · subst o; rw [if_pos rfl]
    obtain ⟨rfl, _⟩ := Prod.mk.inj hv
    unfold orv
    by_cases x : 0 ≤ a ∧ 0 ≤ c
    · have k := (bits_below hp hq (m := max b d) (by unfold I32; omega) (by omega) (by omega) (by omega) (by omega)).1
      rw [if_pos x]
      unfold In; simp only; omega
    · rw [if_neg x]
      by_cases y : b < 0 ∧ d < 0
      · have k := or_neg hp hq (by omega) (by omega)
        rw [if_pos y]
        unfold In; simp only; omega
      · rw [if_neg y]
        apply In_full; rw [or_bv]; exact I32_toInt _
  rw [if_neg o]
  by_cases o : op = 13
  · subst o; rw [if_pos rfl]
    obtain ⟨rfl, _⟩ := Prod.mk.inj hv
    unfold xorv
    by_cases x : 0 ≤ a ∧ 0 ≤ c
    · have k := (bits_below hp hq (m := max b d) (by unfold I32; omega) (by omega) (by omega) (by omega) (by omega)).2
      rw [if_pos x]
      exact k
    · rw [if_neg x]
      apply In_full; rw [xor_bv]; exact I32_toInt _
  rw [if_neg o]
  by_cases o : op = 14
  · subst o; rw [if_pos rfl]
    obtain ⟨rfl, _⟩ := Prod.mk.inj hv
    unfold leftv
    by_cases x : c = d
    · have e : q = c := by omega
      subst e
      rw [if_pos x]
      have k := mul_mid (2 ^ (q % 32).toNat) h1 h2
      exact (In_clip (v := p * 2 ^ (q % 32).toNat) (by omega) (by omega)).1
    · rw [if_neg x]
      exact In_full (I32_wrap _)
  rw [if_neg o]
  by_cases o : op = 15
  · subst o; rw [if_pos rfl]
    obtain ⟨rfl, _⟩ := Prod.mk.inj hv
    have hr := pow_range (q % 32) (by omega) (by omega)
    unfold rightv
    by_cases x : c = d
    · have e : q = c := by omega
      subst e
      rw [if_pos x]
      exact ⟨Int.ediv_le_ediv (by omega) h1, Int.ediv_le_ediv (by omega) h2⟩
    · rw [if_neg x]
      have k := shr_bound p _ hr.1
      show In _ (p / 2 ^ (q % 32).toNat)
      generalize p / 2 ^ (q % 32).toNat = r at *
      unfold In
      simp only
      constructor
      · split <;> omega
      · split <;> omega
  rw [if_neg o]
  have tin : ∀ (A N x : Bool), (A = true → x = true) → (N = true → x = false) → In (truthv A N) (tr x) := by
    intro A N x hA hN
    cases A <;> cases N <;> cases x <;> simp_all [truthv, tr, In]
  unfold decv
  by_cases o : op = 16
  · subst o; rw [if_pos rfl]
    obtain ⟨rfl, _⟩ := Prod.mk.inj hv
    apply tin
    · intro h; cases h
    · intro h; unfold apartv meetv at h; simp only [decide_eq_true_eq] at h
      apply decide_eq_false; rintro rfl
      split at h
      · omega
      · simp only at h; omega
  rw [if_neg o]
  by_cases o : op = 17
  · subst o; rw [if_pos rfl]
    obtain ⟨rfl, _⟩ := Prod.mk.inj hv
    apply tin
    · intro h; unfold apartv meetv at h; simp only [decide_eq_true_eq] at h
      apply decide_eq_true; rintro rfl
      split at h
      · omega
      · simp only at h; omega
    · intro h; cases h
  rw [if_neg o]
  by_cases o : op = 18
  · subst o; rw [if_pos rfl]
    obtain ⟨rfl, _⟩ := Prod.mk.inj hv
    apply tin <;> intro h <;> simp only [decide_eq_true_eq] at h
    · exact decide_eq_true (by omega)
    · exact decide_eq_false (by omega)
  rw [if_neg o]
  by_cases o : op = 19
  · subst o; rw [if_pos rfl]
    obtain ⟨rfl, _⟩ := Prod.mk.inj hv
    apply tin <;> intro h <;> simp only [decide_eq_true_eq] at h
    · exact decide_eq_true (by omega)
    · exact decide_eq_false (by omega)
  rw [if_neg o]
  by_cases o : op = 20
  · subst o; rw [if_pos rfl]
    obtain ⟨rfl, _⟩ := Prod.mk.inj hv
    apply tin <;> intro h <;> simp only [decide_eq_true_eq] at h
    · exact decide_eq_true (by omega)
    · exact decide_eq_false (by omega)
  rw [if_neg o]
  by_cases o : op = 21
  · subst o; rw [if_pos rfl]
    obtain ⟨rfl, _⟩ := Prod.mk.inj hv
    apply tin <;> intro h <;> simp only [decide_eq_true_eq] at h
    · exact decide_eq_true (by omega)
    · exact decide_eq_false (by omega)
  rw [if_neg o]
  have sm : ∀ {x y r : Int}, x ≤ r → r ≤ y → somev x y = true → r ≠ 0 := by
    intro x y r l1 l2 h; rintro rfl; simp [somev, hasv] at h; omega
  have nn : ∀ {x y r : Int}, x ≤ r → r ≤ y → nonev x y = true → r = 0 := by
    intro x y r l1 l2 h; simp [nonev] at h; omega
  by_cases o : op = 22
  · subst o; rw [if_pos rfl]
    obtain ⟨rfl, _⟩ := Prod.mk.inj hv
    apply tin <;> intro h
    · simp only [Bool.and_eq_true] at h
      exact decide_eq_true ⟨sm h1 h2 h.1, sm h3 h4 h.2⟩
    · simp only [Bool.or_eq_true] at h
      apply decide_eq_false; rintro ⟨g1, g2⟩
      rcases h with h | h
      · exact g1 (nn h1 h2 h)
      · exact g2 (nn h3 h4 h)
  rw [if_neg o]
  have o' : op = 23 := by omega
  subst o'; rw [if_pos rfl]
  obtain ⟨rfl, _⟩ := Prod.mk.inj hv
  apply tin <;> intro h
  · simp only [Bool.or_eq_true] at h
    apply decide_eq_true
    rcases h with h | h
    · exact .inl (sm h1 h2 h)
    · exact .inr (sm h3 h4 h)
  · simp only [Bool.and_eq_true] at h
    apply decide_eq_false; rintro (g | g)
    · exact g (nn h1 h2 h.1)
    · exact g (nn h3 h4 h.2)

end Go.Proofs.Ytoalomjmmlnclaa.M
