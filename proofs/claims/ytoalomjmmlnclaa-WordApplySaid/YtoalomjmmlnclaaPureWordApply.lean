/- The pure side of 'WordApply': the value of every binary operator, or the error, is that of the reference, bit loops and shift loops included. -/
import Derived.Test.YtoalomjmmlnclaaPWordApplyx3
import Derived.Test.YtoalomjmmlnclaaMath
namespace Go.Proofs.Ytoalomjmmlnclaa.Pure
open Go.RowKit Go.Proofs.Ytoalomjmmlnclaa.PWordApply Go.Proofs.YtoalomjmmlnclaaW.PrintWords Go.Proofs.YtoalomjmmlnclaaW.PrintLast
open Go.Proofs.Ytoalomjmmlnclaa.M
namespace WordApplyAid

theorem awake_true (k : Nat) : ontimelaw03_awake.f (k + 1) = some true := at_rounds (g := ontimelaw03_awake.f) ontimelaw03_awake.mono (k := 1) (by omega) (by decide +kernel)

theorem apply_wv (k : Nat) (op x y : Int) : word_Apply.f (k + 1) op x y = some (wv op x y) := by
  unfold word_Apply.f wv
  by_cases h : op = 6
  · rw [if_pos h, if_pos h]
  rw [if_neg h, if_neg h]; clear h
  by_cases h : op = 7
  · rw [if_pos h, if_pos h]
  rw [if_neg h, if_neg h]; clear h
  by_cases h : op = 8
  · rw [if_pos h, if_pos h]
  rw [if_neg h, if_neg h]; clear h
  by_cases h : op = 9
  · subst h; by_cases h0 : y = 0 <;> simp [word_Apply.j0, h0]
  rw [if_neg h, if_neg h]
  by_cases h' : op = 10
  · subst h'; by_cases h0 : y = 0 <;> simp [word_Apply.j0, h0]
  rw [if_neg h']
  have e : (op == 10) = false := beq_eq_false_iff_ne.2 h'
  simp only [word_Apply.j0, e, count_mod]
  clear h h' e
  rw [if_neg (by decide)]
  by_cases h : op = 11
  · rw [if_pos h, if_pos h]
  rw [if_neg h, if_neg h]; clear h
  by_cases h : op = 12
  · rw [if_pos h, if_pos h]
  rw [if_neg h, if_neg h]; clear h
  by_cases h : op = 13
  · rw [if_pos h, if_pos h]
  rw [if_neg h, if_neg h]; clear h
  by_cases h : op = 14
  · rw [if_pos h, if_pos h]
  rw [if_neg h, if_neg h]; clear h
  by_cases h : op = 15
  · rw [if_pos h, if_pos h]
  rw [if_neg h, if_neg h]; clear h
  unfold word_compare.f
  by_cases h : op = 16
  · rw [if_pos h, if_pos h]; by_cases c : x = y <;> simp [word_truth.f, tr, c]
  rw [if_neg h, if_neg h]; clear h
  by_cases h : op = 17
  · rw [if_pos h, if_pos h]; by_cases c : x = y <;> simp [word_truth.f, tr, c]
  rw [if_neg h, if_neg h]; clear h
  by_cases h : op = 18
  · rw [if_pos h, if_pos h]; by_cases c : x < y <;> simp [word_truth.f, tr, c]
  rw [if_neg h, if_neg h]; clear h
  by_cases h : op = 19
  · rw [if_pos h, if_pos h]; by_cases c : x ≤ y <;> simp [word_truth.f, tr, c]
  rw [if_neg h, if_neg h]; clear h
  by_cases h : op = 20
  · rw [if_pos h, if_pos h]; by_cases c : y < x <;> simp [word_truth.f, tr, c]
  rw [if_neg h, if_neg h]; clear h
  by_cases h : op = 21
  · rw [if_pos h, if_pos h]; by_cases c : y ≤ x <;> simp [word_truth.f, tr, c]
  rw [if_neg h, if_neg h]; clear h
  by_cases h : op = 22
  · rw [if_pos h, if_pos h]; by_cases c : x = 0 <;> by_cases d : y = 0 <;> simp [word_truth.f, tr, c, d]
  rw [if_neg h, if_neg h]; clear h
  by_cases h : op = 23
  · rw [if_pos h, if_pos h]; by_cases c : x = 0 <;> by_cases d : y = 0 <;> simp [word_truth.f, tr, c, d]
  rw [if_neg h, if_neg h]; simp

theorem wrap_f (n : Int) : ontimeref03_Wrap.f n = some (wrap32 n) := wrap_by_hand n

theorem bit_l (d : Nat) : ∀ (k A : Nat), A < 4294967296 → d < 64 → d < k → ontimeref03_bit.l0 k (d : Int) (A : Int) = some ((bitn A d : Nat) : Int) := by
  induction d with
  | zero =>
    intro k A _ _ hk
    obtain ⟨k, rfl⟩ : ∃ m, k = m + 1 := ⟨k - 1, by omega⟩
    rw [ontimeref03_bit.l0, if_neg (by simp), Int.tmod_eq_emod_of_nonneg (by omega)]
    unfold bitn
    simp
  | succ d ih =>
    intro k A hA hd hk
    obtain ⟨k, rfl⟩ : ∃ m, k = m + 1 := ⟨k - 1, by omega⟩
    rw [ontimeref03_bit.l0, if_pos (by omega), Int.tdiv_eq_ediv_of_nonneg (by omega)]
    have e1 : wrap64 (((d + 1 : Nat) : Int) - 1) = (d : Int) := by unfold wrap64; omega
    have e2 : wrap64 ((A : Int) / 2) = ((A / 2 : Nat) : Int) := by unfold wrap64; omega
    rw [e1, e2, ih k (A / 2) (by omega) (by omega) (by omega)]
    unfold bitn
    rw [Nat.div_div_eq_div_mul, Nat.pow_succ, Nat.mul_comm 2]

theorem bit_f (k : Nat) (x : Int) (i : Nat) (hx : I32 x) (hi : i < 64) (hk : i + 1 < k) : ontimeref03_bit.f k x i = some ((bitn (x % 4294967296).toNat i : Nat) : Int) := by
  obtain ⟨k, rfl⟩ : ∃ m, k = m + 1 := ⟨k - 1, by omega⟩
  unfold ontimeref03_bit.f
  unfold I32 at hx
  rw [w64 (by omega)]
  by_cases h : x < 0
  · rw [if_pos h, ontimeref03_bit.j0]
    have e : wrap64 (x + 4294967296) = (((x % 4294967296).toNat : Nat) : Int) := by unfold wrap64; omega
    rw [e]; exact bit_l i k _ (by omega) hi (by omega)
  · rw [if_neg h, ontimeref03_bit.j0]
    have e : x = (((x % 4294967296).toNat : Nat) : Int) := by omega
    have h2 := bit_l i k (x % 4294967296).toNat (by omega) hi (by omega)
    rwa [← e] at h2

/-- Where the reference sets a bit. -/
def hit (op : Int) (s : Nat) : Bool := if op = 11 then s == 2 else if op = 12 then decide (1 ≤ s) else s == 1
theorem bits_step (k : Nat) (op x y n p : Int) (i : Nat) (hop : op = 11 ∨ op = 12 ∨ op = 13) (hx : I32 x) (hy : I32 y) (hi : i < 32) (hk : i + 1 < k) :
    ontimeref03_bits.l0 (k + 1) op x y n p i =
      if hit op (bitn (x % 4294967296).toNat i + bitn (y % 4294967296).toNat i) = true then ontimeref03_bits.l0 k op x y (wrap64 (n + p)) (wrap64 (2 * p)) (wrap64 ((i : Int) + 1))
      else ontimeref03_bits.l0 k op x y n (wrap64 (2 * p)) (wrap64 ((i : Int) + 1)) := by
  rw [ontimeref03_bits.l0, if_pos (by omega), bit_f k x i hx (by omega) hk, bit_f k y i hy (by omega) hk]
  simp only [Option.bind_some]
  have h1 := bitn_lt (x % 4294967296).toNat i
  have h2 := bitn_lt (y % 4294967296).toNat i
  generalize bitn (x % 4294967296).toNat i = a at *
  generalize bitn (y % 4294967296).toNat i = b at *
  have e : wrap64 ((a : Int) + (b : Int)) = ((a + b : Nat) : Int) := by unfold wrap64; omega
  rw [e]
  generalize a + b = s
  unfold hit
  rcases hop with rfl | rfl | rfl
  · by_cases c : s = 2
    · simp [c]
    · simp [c]; omega
  · by_cases c : 1 ≤ s
    · simp [c]; omega
    · simp [c]; omega
  · by_cases c : s = 1
    · simp [c]
    · simp [c]; omega

theorem bits_l (op x y : Int) (R : Nat) (hop : op = 11 ∨ op = 12 ∨ op = 13) (hx : I32 x) (hy : I32 y)
    (hR : ∀ i, bitn R i = if hit op (bitn (x % 4294967296).toNat i + bitn (y % 4294967296).toNat i) = true then 1 else 0) (d : Nat) :
    ∀ (k i : Nat), i + d = 32 → d + 40 ≤ k → ontimeref03_bits.l0 k op x y ((R % 2 ^ i : Nat) : Int) ((2 ^ i : Nat) : Int) i = some (wrap32 ((R % 2 ^ 32 : Nat) : Int)) := by
  induction d with
  | zero =>
    intro k i hi hk
    obtain ⟨k, rfl⟩ : ∃ m, k = m + 1 := ⟨k - 1, by omega⟩
    have e : i = 32 := by omega
    subst e
    rw [ontimeref03_bits.l0, if_neg (by omega), wrap_f]
    rfl
  | succ d ih =>
    intro k i hi hk
    obtain ⟨k, rfl⟩ : ∃ m, k = m + 1 := ⟨k - 1, by omega⟩
    have hp : 2 ^ i ≤ 2 ^ 31 := Nat.pow_le_pow_right (by decide) (by omega)
    have hn : R % 2 ^ i < 2 ^ i := Nat.mod_lt _ (Nat.two_pow_pos i)
    have hs := mod_succ R i
    have e1 : wrap64 ((i : Int) + 1) = ((i + 1 : Nat) : Int) := by unfold wrap64; omega
    have e2 : wrap64 (2 * ((2 ^ i : Nat) : Int)) = ((2 ^ (i + 1) : Nat) : Int) := by
      rw [Nat.pow_succ]; generalize 2 ^ i = p at *; unfold wrap64; omega
    have e3 : wrap64 (((R % 2 ^ i : Nat) : Int) + ((2 ^ i : Nat) : Int)) = ((R % 2 ^ i + 2 ^ i : Nat) : Int) := by
      generalize 2 ^ i = p at *; generalize R % p = n at *; unfold wrap64; omega
    rw [bits_step k op x y _ _ i hop hx hy (by omega) (by omega), e1, e2, e3]
    have hb := hR i
    by_cases c : hit op (bitn (x % 4294967296).toNat i + bitn (y % 4294967296).toNat i) = true
    · rw [if_pos c] at hb ⊢
      rw [hb, Nat.one_mul] at hs
      rw [← hs]
      exact ih k (i + 1) (by omega) (by omega)
    · rw [if_neg c] at hb ⊢
      simp only [hb, Nat.zero_mul, Nat.add_zero] at hs
      rw [← hs]
      exact ih k (i + 1) (by omega) (by omega)

theorem bits_f (op x y : Int) (R : Nat) (hop : op = 11 ∨ op = 12 ∨ op = 13) (hx : I32 x) (hy : I32 y)
    (hR : ∀ i, bitn R i = if hit op (bitn (x % 4294967296).toNat i + bitn (y % 4294967296).toNat i) = true then 1 else 0) (hR' : R < 2 ^ 32) (k : Nat) (hk : 72 ≤ k) :
    ontimeref03_bits.f k op x y = some (wrap32 (R : Int)) := by
  have h := bits_l op x y R hop hx hy hR 32 k 0 rfl hk
  rw [Nat.mod_eq_of_lt hR', Nat.pow_zero, Nat.mod_one] at h
  exact h

theorem toNat_lt (x : Int) : (x % 4294967296).toNat < 2 ^ 32 := by omega
theorem bits_and (x y : Int) (hx : I32 x) (hy : I32 y) (k : Nat) (hk : 72 ≤ k) : ontimeref03_bits.f k 11 x y = some (Go.bits .and .i32 x y) := by
  rw [and_nat]
  refine bits_f 11 x y _ (.inl rfl) hx hy (fun i => ?_) (Nat.and_lt_two_pow _ (toNat_lt y)) k hk
  rw [bitn_and]; simp [hit]
theorem bits_or (x y : Int) (hx : I32 x) (hy : I32 y) (k : Nat) (hk : 72 ≤ k) : ontimeref03_bits.f k 12 x y = some (Go.bits .or .i32 x y) := by
  rw [or_nat]
  refine bits_f 12 x y _ (.inr (.inl rfl)) hx hy (fun i => ?_) (Nat.or_lt_two_pow (toNat_lt x) (toNat_lt y)) k hk
  rw [bitn_or]; simp [hit]
theorem bits_xor (x y : Int) (hx : I32 x) (hy : I32 y) (k : Nat) (hk : 72 ≤ k) : ontimeref03_bits.f k 13 x y = some (Go.bits .xor .i32 x y) := by
  rw [xor_nat]
  refine bits_f 13 x y _ (.inr (.inr rfl)) hx hy (fun i => ?_) (Nat.xor_lt_two_pow (toNat_lt x) (toNat_lt y)) k hk
  rw [bitn_xor]; simp [hit]

theorem shift_left (by_ : Int) (hb : by_ < 64) (d : Nat) : ∀ (k : Nat) (x i : Int), I32 x → 0 ≤ i → by_ - i = d → d < k → ontimeref03_Shift.l0 k x by_ true i = some (wrap32 (x * 2 ^ d)) := by
  induction d with
  | zero =>
    intro k x i hx h0 hi hk
    obtain ⟨k, rfl⟩ : ∃ m, k = m + 1 := ⟨k - 1, by omega⟩
    rw [ontimeref03_Shift.l0, if_neg (by omega), Int.pow_zero, Int.mul_one, w32 hx]
  | succ d ih =>
    intro k x i hx h0 hi hk
    obtain ⟨k, rfl⟩ : ∃ m, k = m + 1 := ⟨k - 1, by omega⟩
    rw [ontimeref03_Shift.l0, if_pos (by omega), if_pos rfl, wrap_f, Option.bind_some]
    have e1 : wrap64 (i + 1) = i + 1 := w64 (by omega)
    have e2 : wrap64 (2 * wrap64 x) = 2 * x := by unfold I32 at hx; unfold wrap64; omega
    rw [e1, e2, ih k _ (i + 1) (I32_wrap _) (by omega) (by omega) (by omega)]
    congr 1
    apply w32_congr
    rw [Int.mul_emod, w32_emod, ← Int.mul_emod, Int.pow_succ, Int.mul_comm 2 x, Int.mul_assoc, Int.mul_comm 2]

theorem shift_right (by_ : Int) (hb : by_ < 64) (d : Nat) : ∀ (k : Nat) (x i : Int), I32 x → 0 ≤ i → by_ - i = d → d + 4 < k → ontimeref03_Shift.l0 k x by_ false i = some (x / 2 ^ d) := by
  induction d with
  | zero =>
    intro k x i hx h0 hi hk
    obtain ⟨k, rfl⟩ : ∃ m, k = m + 1 := ⟨k - 1, by omega⟩
    rw [ontimeref03_Shift.l0, if_neg (by omega), Int.pow_zero, Int.ediv_one]
  | succ d ih =>
    intro k x i hx h0 hi hk
    obtain ⟨k, rfl⟩ : ∃ m, k = m + 1 := ⟨k - 1, by omega⟩
    have hbit := bit_f k x 0 hx (by decide) (by omega)
    rw [ontimeref03_Shift.l0, if_pos (by omega), if_neg (by decide)]
    rw [show ((0 : Nat) : Int) = 0 from rfl] at hbit
    rw [hbit, Option.bind_some]
    have e1 : wrap64 (i + 1) = i + 1 := w64 (by omega)
    have hb0 : ((bitn (x % 4294967296).toNat 0 : Nat) : Int) = x % 2 := by unfold bitn; simp; omega
    unfold I32 at hx
    have e2 : wrap64 (wrap64 x - x % 2) = x - x % 2 := by unfold wrap64; omega
    have e3 : (x - x % 2).tdiv 2 = x / 2 := by
      rw [Int.tdiv_eq_ediv_of_dvd (by omega)]; omega
    have e4 : wrap32 (wrap64 (x / 2)) = x / 2 := by unfold wrap32 wrap64; omega
    rw [e1, hb0, e2, e3, e4, ih k _ (i + 1) (by unfold I32; omega) (by omega) (by omega) (by omega)]
    rw [Int.ediv_ediv_of_nonneg (by decide), Int.pow_succ, Int.mul_comm 2]

theorem count_f (y : Int) (hy : I32 y) : ontimeref03_count.f y = some (y % 32) := by
  unfold I32 at hy
  unfold ontimeref03_count.f
  rw [w64 (by omega)]
  have hm : (Int.tmod y 32 = y % 32 ∧ 0 ≤ Int.tmod y 32) ∨ (Int.tmod y 32 = y % 32 - 32) := by
    rw [Int.tmod_eq_emod]
    split
    · left; constructor <;> omega
    · right; simp
  generalize Int.tmod y 32 = m at hm
  split
  · congr 1; unfold wrap64; omega
  · congr 1; omega

theorem beq_dec (x y : Int) : (x == y) = decide (x = y) := rfl
theorem bne_dec (x y : Int) : (x != y) = decide (x ≠ y) := by by_cases h : x = y <;> simp [h]
theorem ref_truth (b : Bool) : ontimeref03_truth.f b = some (tr b) := by cases b <;> rfl

theorem mod_by_hand (x y : Int) (hx : I32 x) (hy : I32 y) (h0 : y ≠ 0) :
    wrap32 (wrap64 (x - wrap64 (wrap64 (wrap32 (wrap64 (x.tdiv y))) * y))) = x.tmod y := by
  have hb := tdiv_bound x y
  have hm := Int.tmod_add_mul_tdiv x y
  have hl : (x.tmod y).natAbs < y.natAbs := by
    rw [Int.natAbs_tmod]; exact Nat.mod_lt _ (by omega)
  unfold I32 at hx hy
  have e1 : wrap64 (x.tdiv y) = x.tdiv y := w64 (by omega)
  rw [e1]
  generalize hq : x.tdiv y = q at *
  by_cases c : q = 2147483648
  · have hy' : y = -1 := by
      by_cases h1 : y = -1
      · exact h1
      · exfalso
        have h2 : y = 1 ∨ 2 ≤ y.natAbs := by omega
        rcases h2 with h2 | h2
        · subst h2; rw [Int.tdiv_one] at hq; omega
        · have h3 : q.natAbs = x.natAbs / y.natAbs := by rw [← hq]; exact Int.natAbs_tdiv x y
          have h4 : x.natAbs / y.natAbs ≤ x.natAbs / 2 := Nat.div_le_div_left h2 (by decide)
          omega
    subst hy' c
    have hx' : x = -2147483648 := by rw [Int.tdiv_neg, Int.tdiv_one] at hq; omega
    subst hx'
    decide +kernel
  · have hq' : I32 q := by unfold I32; omega
    have hp := mul_bound hq' (show I32 y from hy)
    rw [w32 hq', w64 (x := q) (by unfold I32 at hq'; omega), w64 (x := q * y) (by omega)]
    rw [Int.mul_comm q y] at *
    generalize y * q = p at *
    unfold wrap32 wrap64
    omega

theorem ref_apply (k : Nat) (op x y : Int) (hx : I32 x) (hy : I32 y) : ontimeref03_Apply.f (k + 80) op x y = some (wv op x y) := by
  unfold ontimeref03_Apply.f wv
  have hx' := hx
  have hy' := hy
  unfold I32 at hx' hy'
  have ex : wrap64 x = x := w64 (by omega)
  have ey : wrap64 y = y := w64 (by omega)
  rw [ex, ey]
  by_cases h : op = 6
  · rw [if_pos h, if_pos h, wrap_f, w64 (by omega)]; rfl
  rw [if_neg h, if_neg h]; clear h
  by_cases h : op = 7
  · rw [if_pos h, if_pos h, wrap_f, w64 (by omega)]; rfl
  rw [if_neg h, if_neg h]; clear h
  by_cases h : op = 8
  · have := mul_bound hx hy
    rw [if_pos h, if_pos h, wrap_f, w64 (by omega)]; rfl
  rw [if_neg h, if_neg h]; clear h
  have hb := tdiv_bound x y
  by_cases h : op = 9
  · subst h
    by_cases h0 : y = 0
    · simp [ontimeref03_Apply.j0, h0]
    · simp [ontimeref03_Apply.j0, h0, wrap_f]; rw [w64 (by omega)]
  rw [if_neg h, if_neg h]
  by_cases h' : op = 10
  · subst h'
    by_cases h0 : y = 0
    · simp [ontimeref03_Apply.j0, h0]
    · simp [ontimeref03_Apply.j0, h0, wrap_f]; exact mod_by_hand x y hx hy h0
  rw [if_neg h']
  have e : (op == 10) = false := beq_eq_false_iff_ne.2 h'
  simp only [ontimeref03_Apply.j0, e]
  clear h h' e
  rw [if_neg (by decide)]
  by_cases h : op = 11
  · subst h
    rw [if_pos rfl, ontimeref03_Apply.j1, if_pos (by decide), bits_and x y hx hy _ (by omega)]; rfl
  rw [if_neg h, if_neg h]
  by_cases h1 : op = 12
  · subst h1
    rw [if_pos rfl, ontimeref03_Apply.j1, if_pos (by decide), bits_or x y hx hy _ (by omega)]; rfl
  rw [if_neg h1, if_neg h1]
  by_cases h2 : op = 13
  · subst h2
    rw [ontimeref03_Apply.j1, if_pos (by decide), bits_xor x y hx hy _ (by omega)]; rfl
  rw [if_neg h2]
  have e : (op == 13) = false := beq_eq_false_iff_ne.2 h2
  rw [ontimeref03_Apply.j1, e, if_neg (by decide)]
  clear h h1 h2 e
  by_cases h : op = 14
  · subst h
    rw [if_pos rfl, ontimeref03_Apply.j2, if_pos (by decide), count_f y hy, Option.bind_some]
    unfold ontimeref03_Shift.f
    have := shift_left (y % 32) (by omega) (y % 32).toNat (k + 77) x 0 hx (by decide) (by omega) (by omega)
    rw [show ((14 : Int) == 14) = true by decide, this]; rfl
  rw [if_neg h, if_neg h]
  by_cases h1 : op = 15
  · subst h1
    rw [ontimeref03_Apply.j2, if_pos (by decide), count_f y hy, Option.bind_some]
    unfold ontimeref03_Shift.f
    have := shift_right (y % 32) (by omega) (y % 32).toNat (k + 77) x 0 hx (by decide) (by omega) (by omega)
    rw [show ((15 : Int) == 14) = false by decide, this]; rfl
  rw [if_neg h1]
  have e : (op == 15) = false := beq_eq_false_iff_ne.2 h1
  rw [ontimeref03_Apply.j2, e, if_neg (by decide)]
  clear h h1 e
  simp only [ref_truth, Option.bind_some]
  by_cases h : op = 16
  · rw [if_pos h, if_pos h, beq_dec]
  rw [if_neg h, if_neg h]; clear h
  by_cases h : op = 17
  · rw [if_pos h, if_pos h, bne_dec]
  rw [if_neg h, if_neg h]; clear h
  by_cases h : op = 18
  · rw [if_pos h, if_pos h]
  rw [if_neg h, if_neg h]; clear h
  by_cases h : op = 19
  · rw [if_pos h, if_pos h]
  rw [if_neg h, if_neg h]; clear h
  by_cases h : op = 20
  · rw [if_pos h, if_pos h]
  rw [if_neg h, if_neg h]; clear h
  by_cases h : op = 21
  · rw [if_pos h, if_pos h]
  rw [if_neg h, if_neg h]; clear h
  by_cases h : op = 22
  · rw [if_pos h, if_pos h]; by_cases c : x = 0 <;> by_cases d : y = 0 <;> simp [c, d, bne_dec]
  rw [if_neg h, if_neg h]; clear h
  by_cases h : op = 23
  · rw [if_pos h, if_pos h]; by_cases c : x = 0 <;> by_cases d : y = 0 <;> simp [c, d, bne_dec]
  rw [if_neg h, if_neg h]

end WordApplyAid
open WordApplyAid

theorem WordApply : ontimelaw03_WordApply.Pure := by
  intro op x y _ hx hy
  refine ⟨0 + 80, ?_⟩
  unfold ontimelaw03_WordApply.f
  rw [ref_apply 0 op x y (i32_wf hx) (i32_wf hy), show (0 + 80 : Nat) = 79 + 1 from rfl, apply_wv, awake_true]
  simp

end Go.Proofs.Ytoalomjmmlnclaa.Pure
