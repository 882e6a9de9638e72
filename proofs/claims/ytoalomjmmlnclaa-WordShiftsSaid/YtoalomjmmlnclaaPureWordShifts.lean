/- The pure side of 'WordShifts': a left shift multiplies by a power of two, a right shift is the greatest word that times this power is at most the operand, and counts are taken modulo 32. -/
import Derived.Test.YtoalomjmmlnclaaPWordShiftsx2
import Derived.Test.YtoalomjmmlnclaaMath
namespace Go.Proofs.Ytoalomjmmlnclaa.Pure
open Go.RowKit Go.Proofs.Ytoalomjmmlnclaa.PWordShifts Go.Proofs.YtoalomjmmlnclaaW.PrintWords Go.Proofs.YtoalomjmmlnclaaW.PrintLast Go.Proofs.YtoalomjmmlnclaaW.PrintMore
open Go.Proofs.Ytoalomjmmlnclaa.M
namespace WordShiftsAid

theorem awake_true (k : Nat) : ontimelaw03_awake.f (k + 1) = some true := at_rounds (g := ontimelaw03_awake.f) ontimelaw03_awake.mono (k := 1) (by omega) (by decide +kernel)

theorem apply_wv (k : Nat) (op x y : Int) : word_Apply.f (k + 1) op x y = some (wv op x y) := by
  unfold word_Apply.f wv
  by_cases h : op = 6
  · rw [if_pos h, if_pos h]
  rw [if_neg h, if_neg h]; clear h
  by_cases h : op = 7
  · rw [if_pos h, if_pos h]
  rw [if_neg h, if_neg h]; clear h
  by_cases h : op = 8
  · rw [if_pos h, if_pos h]
  rw [if_neg h, if_neg h]; clear h
  by_cases h : op = 9
  · subst h; by_cases h0 : y = 0 <;> simp [word_Apply.j0, h0]
  rw [if_neg h, if_neg h]
  by_cases h' : op = 10
  · subst h'; by_cases h0 : y = 0 <;> simp [word_Apply.j0, h0]
  rw [if_neg h']
  have e : (op == 10) = false := beq_eq_false_iff_ne.2 h'
  simp only [word_Apply.j0, e, count_mod]
  clear h h' e
  rw [if_neg (by decide)]
  by_cases h : op = 11
  · rw [if_pos h, if_pos h]
  rw [if_neg h, if_neg h]; clear h
  by_cases h : op = 12
  · rw [if_pos h, if_pos h]
  rw [if_neg h, if_neg h]; clear h
  by_cases h : op = 13
  · rw [if_pos h, if_pos h]
  rw [if_neg h, if_neg h]; clear h
  by_cases h : op = 14
  · rw [if_pos h, if_pos h]
  rw [if_neg h, if_neg h]; clear h
  by_cases h : op = 15
  · rw [if_pos h, if_pos h]
  rw [if_neg h, if_neg h]; clear h
  unfold word_compare.f
  by_cases h : op = 16
  · rw [if_pos h, if_pos h]; by_cases c : x = y <;> simp [word_truth.f, tr, c]
  rw [if_neg h, if_neg h]; clear h
  by_cases h : op = 17
  · rw [if_pos h, if_pos h]; by_cases c : x = y <;> simp [word_truth.f, tr, c]
  rw [if_neg h, if_neg h]; clear h
  by_cases h : op = 18
  · rw [if_pos h, if_pos h]; by_cases c : x < y <;> simp [word_truth.f, tr, c]
  rw [if_neg h, if_neg h]; clear h
  by_cases h : op = 19
  · rw [if_pos h, if_pos h]; by_cases c : x ≤ y <;> simp [word_truth.f, tr, c]
  rw [if_neg h, if_neg h]; clear h
  by_cases h : op = 20
  · rw [if_pos h, if_pos h]; by_cases c : y < x <;> simp [word_truth.f, tr, c]
  rw [if_neg h, if_neg h]; clear h
  by_cases h : op = 21
  · rw [if_pos h, if_pos h]; by_cases c : y ≤ x <;> simp [word_truth.f, tr, c]
  rw [if_neg h, if_neg h]; clear h
  by_cases h : op = 22
  · rw [if_pos h, if_pos h]; by_cases c : x = 0 <;> by_cases d : y = 0 <;> simp [word_truth.f, tr, c, d]
  rw [if_neg h, if_neg h]; clear h
  by_cases h : op = 23
  · rw [if_pos h, if_pos h]; by_cases c : x = 0 <;> by_cases d : y = 0 <;> simp [word_truth.f, tr, c, d]
  rw [if_neg h, if_neg h]; simp

theorem op_wv (k : Nat) (op x y : Int) : ontimelaw03_op.f (k + 1) op x y = some (wv op x y).1 := by unfold ontimelaw03_op.f; rw [apply_wv]; rfl

theorem and31 (y : Int) (h : I32 y) : Go.bits .and .i64 (wrap64 y) 31 = y % 32 := by
  rw [w64 (by unfold I32 at h; omega)]
  show IntKind.i64.wrap ((BitVec.ofInt 64 y &&& BitVec.ofInt 64 31).toNat : Int) = y % 32
  rw [BitVec.toNat_and, BitVec.toNat_ofInt]
  have e : (BitVec.ofInt 64 31).toNat = 2 ^ 5 - 1 := rfl
  rw [e, Nat.and_two_pow_sub_one_eq_mod, IntKind.wrap_i64]
  omega

theorem pow_bound (n : Int) (h0 : 0 ≤ n) (h1 : n < 32) : (1 : Int) ≤ 2 ^ n.toNat ∧ (2 : Int) ^ n.toNat ≤ 2147483648 := by
  have h : (2 : Nat) ^ n.toNat ≤ 2 ^ 31 := Nat.pow_le_pow_right (by decide) (by omega)
  have h' : 1 ≤ (2 : Nat) ^ n.toNat := Nat.one_le_two_pow
  have e : ((2 ^ n.toNat : Nat) : Int) = (2 : Int) ^ n.toNat := by simp
  rw [← e]
  omega

theorem power (n : Int) (h0 : 0 ≤ n) (h1 : n < 32) : shl .i64 1 n = 2 ^ n.toNat := by
  have hp := pow_bound n h0 h1
  unfold shl
  rw [Nat.min_eq_left (by show n.toNat ≤ 64; omega), Int.one_mul, IntKind.wrap_i64]
  omega

theorem shift14 (x y y' : Int) (h : y % 32 = y' % 32) : (wv 14 x y).1 = (wv 14 x y').1 := by
  show wrap32 (x * 2 ^ (y % 32).toNat) = wrap32 (x * 2 ^ (y' % 32).toNat); rw [h]
theorem shift15 (x y y' : Int) (h : y % 32 = y' % 32) : (wv 15 x y).1 = (wv 15 x y').1 := by
  show x / 2 ^ (y % 32).toNat = x / 2 ^ (y' % 32).toNat; rw [h]
theorem same (y t : Int) : (wv 6 y (wv 8 32 t).1).1 % 32 = y % 32 := by
  show wrap32 (y + wrap32 (32 * t)) % 32 = y % 32
  unfold wrap32; omega

theorem div_i32 (x p : Int) (hx : I32 x) (hp : 1 ≤ p) : I32 (x / p) := by
  unfold I32 at *
  constructor
  · rw [Int.le_ediv_iff_mul_le (by omega)]; omega
  · have : x / p < 2147483648 := by rw [Int.ediv_lt_iff_lt_mul (by omega)]; omega
    omega

theorem between (x p : Int) (hx : I32 x) (hp : 1 ≤ p ∧ p ≤ 2147483648) :
    wrap64 ((wrap64 (x / p)) * p) ≤ wrap64 x ∧ wrap64 ((wrap64 ((wrap64 (x / p)) + 1)) * p) > wrap64 x := by
  have hd := div_i32 x p hx hp.1
  have h1 := Int.mul_ediv_add_emod x p
  have h2 := Int.emod_nonneg x (show p ≠ 0 by omega)
  have h3 := Int.emod_lt_of_pos x (show 0 < p by omega)
  unfold I32 at *
  have e1 : wrap64 (x / p) = x / p := w64 (by omega)
  rw [e1]
  have e2 : wrap64 (x / p + 1) = x / p + 1 := w64 (by omega)
  rw [e2, Int.add_mul, Int.one_mul, Int.mul_comm (x / p) p]
  generalize p * (x / p) = m at *
  unfold wrap64
  omega

end WordShiftsAid
open WordShiftsAid

theorem WordShifts : ontimelaw03_WordShifts.Pure := by
  intro x y t hx hy _
  have hx := i32_wf hx
  have hy := i32_wf hy
  refine ⟨3, ?_⟩
  unfold ontimelaw03_WordShifts.f
  rw [and31 y hy]
  have h0 : 0 ≤ y % 32 := by omega
  have h1 : y % 32 < 32 := by omega
  rw [if_pos h0, power _ h0 h1]
  have hp := pow_bound (y % 32) h0 h1
  have hb := between x _ hx hp
  simp only [op_wv, Option.bind_some]
  rw [if_pos (shift14 x y _ (same y _).symm), ← shift15 x y _ (same y _).symm]
  rw [show ((wv 15 x y).1 != (wv 15 x y).1) = false by simp]
  rw [ontimelaw03_WordShifts.j0, if_neg (by decide), awake_true, op_wv]
  simp only [Option.bind_some, if_true]
  have e : (wv 14 x y).1 = (wv 8 x (wrap32 (2 ^ (y % 32).toNat))).1 := by
    show wrap32 (x * 2 ^ (y % 32).toNat) = wrap32 (x * wrap32 (2 ^ (y % 32).toNat))
    apply w32_congr; rw [Int.mul_emod, ← w32_emod (2 ^ (y % 32).toNat), ← Int.mul_emod]
  rw [if_pos e]
  show (if y % 32 < 31 then if wrap64 (wrap64 (x / 2 ^ (y % 32).toNat) * 2 ^ (y % 32).toNat) ≤ wrap64 x then some (decide (wrap64 (wrap64 (wrap64 (x / 2 ^ (y % 32).toNat) + 1) * 2 ^ (y % 32).toNat) > wrap64 x)) else some false else if wrap64 (wrap64 (x / 2 ^ (y % 32).toNat) * 2 ^ (y % 32).toNat) ≤ wrap64 x then some (decide (wrap64 (wrap64 (wrap64 (x / 2 ^ (y % 32).toNat) + 1) * 2 ^ (y % 32).toNat) > wrap64 x)) else some false) = some true
  rw [if_pos hb.1, decide_eq_true hb.2]
  simp

end Go.Proofs.Ytoalomjmmlnclaa.Pure
