/- Plain arithmetic of 32-bit words, with no program in sight: ranges, wrapping, bit strings, and the value of a binary operator as one plain function. -/
import Derived.RowKit
import Derived.Laws.BitsLemmas
namespace Go.Proofs.Ytoalomjmmlnclaa.M
open Go.RowKit

def I32 (x : Int) : Prop := -2147483648 ≤ x ∧ x ≤ 2147483647

theorem i32_wf {x : Int} (h : (Lit.int .i32 x).wf = true) : I32 x := by
  simp only [Lit.wf, IntKind.min, IntKind.max, IntKind.signed, IntKind.bits, Bool.and_eq_true, decide_eq_true_eq, if_true] at h
  exact h
theorem wf_i32 {x : Int} (h : I32 x) : (Lit.int .i32 x).wf = true := by
  simp only [Lit.wf, IntKind.min, IntKind.max, IntKind.signed, IntKind.bits, Bool.and_eq_true, decide_eq_true_eq, if_true]
  exact h
theorem u8_wf {x : Int} (h : (Lit.int .u8 x).wf = true) : 0 ≤ x ∧ x ≤ 255 := by
  simp [Lit.wf, IntKind.min, IntKind.max, IntKind.signed, IntKind.bits] at h
  exact h
theorem i8_wf {x : Int} (h : (Lit.int .i8 x).wf = true) : -128 ≤ x ∧ x ≤ 127 := by
  simp [Lit.wf, IntKind.min, IntKind.max, IntKind.signed, IntKind.bits] at h
  exact h

theorem w64 {x : Int} (h : -9223372036854775808 ≤ x ∧ x ≤ 9223372036854775807) : wrap64 x = x := by unfold wrap64; omega
theorem w32 {x : Int} (h : I32 x) : wrap32 x = x := by unfold wrap32; unfold I32 at h; omega
theorem I32_wrap (x : Int) : I32 (wrap32 x) := by unfold wrap32 I32; omega
theorem w32_emod (x : Int) : (wrap32 x) % 4294967296 = x % 4294967296 := by unfold wrap32; omega
theorem w32_congr {x y : Int} (h : x % 4294967296 = y % 4294967296) : wrap32 x = wrap32 y := by unfold wrap32; omega
theorem wrap_i32 (x : Int) : IntKind.i32.wrap x = wrap32 x := IntKind.wrap_i32 x

/-- A product of words lies in 64 bits. -/
theorem mul_bound {a b : Int} (ha : I32 a) (hb : I32 b) : -4611686018427387904 ≤ a * b ∧ a * b ≤ 4611686018427387904 := by
  have h : (a * b).natAbs ≤ 2147483648 * 2147483648 := by
    rw [Int.natAbs_mul]
    exact Nat.mul_le_mul (by unfold I32 at ha; omega) (by unfold I32 at hb; omega)
  omega

/-- Go's quotient: its size is at most that of the dividend. -/
theorem tdiv_bound (a b : Int) : (a.tdiv b).natAbs ≤ a.natAbs := by
  rw [Int.natAbs_tdiv]; exact Nat.div_le_self _ _

/-- The reduction that the reference writes by hand. -/
theorem wrap_by_hand (n : Int) :
    (if (Int.tmod n 4294967296) ≥ 2147483648 then (if (wrap64 ((Int.tmod n 4294967296) - 4294967296)) < (-2147483648) then (some (wrap32 (wrap64 ((wrap64 ((Int.tmod n 4294967296) - 4294967296)) + 4294967296)))) else (some (wrap32 (wrap64 ((Int.tmod n 4294967296) - 4294967296))))) else (if (Int.tmod n 4294967296) < (-2147483648) then (some (wrap32 (wrap64 ((Int.tmod n 4294967296) + 4294967296)))) else (some (wrap32 (Int.tmod n 4294967296))))) = some (wrap32 n) := by
  have hm : (Int.tmod n 4294967296 = n % 4294967296 ∨ Int.tmod n 4294967296 = n % 4294967296 - 4294967296) := by
    rw [Int.tmod_eq_emod]
    split
    · left; omega
    · right; simp
  generalize Int.tmod n 4294967296 = m at hm
  have key : ∀ z : Int, z % 4294967296 = n % 4294967296 → wrap32 z = wrap32 n := fun z hz => w32_congr hz
  repeat' split
  all_goals (congr 1; apply key; unfold wrap64 at *; omega)

def tr (b : Bool) : Int := if b = true then 1 else 0
theorem tr_true : tr true = 1 := rfl
theorem tr_false : tr false = 0 := rfl

/-- The value of a binary operator, and the error's number. -/
def wv (op x y : Int) : Int × Int :=
  if op = 6 then (wrap32 (x + y), 0)
  else if op = 7 then (wrap32 (x - y), 0)
  else if op = 8 then (wrap32 (x * y), 0)
  else if op = 9 then (if y = 0 then (0, 9) else (wrap32 (x.tdiv y), 0))
  else if op = 10 then (if y = 0 then (0, 9) else (x.tmod y, 0))
  else if op = 11 then (Go.bits .and .i32 x y, 0)
  else if op = 12 then (Go.bits .or .i32 x y, 0)
  else if op = 13 then (Go.bits .xor .i32 x y, 0)
  else if op = 14 then (wrap32 (x * 2 ^ (y % 32).toNat), 0)
  else if op = 15 then (x / 2 ^ (y % 32).toNat, 0)
  else if op = 16 then (tr (decide (x = y)), 0)
  else if op = 17 then (tr (decide (x ≠ y)), 0)
  else if op = 18 then (tr (decide (x < y)), 0)
  else if op = 19 then (tr (decide (x ≤ y)), 0)
  else if op = 20 then (tr (decide (y < x)), 0)
  else if op = 21 then (tr (decide (y ≤ x)), 0)
  else if op = 22 then (tr (decide (x ≠ 0 ∧ y ≠ 0)), 0)
  else if op = 23 then (tr (decide (x ≠ 0 ∨ y ≠ 0)), 0)
  else (0, 1)

theorem count_mod (y : Int) : (y % 4294967296) % 32 = y % 32 := by omega

/-- The bit string of a word. -/
def bv (x : Int) : BitVec 32 := BitVec.ofInt 32 x
theorem bv_toNat (x : Int) : (bv x).toNat = (x % 4294967296).toNat := by simp [bv, BitVec.toNat_ofInt]
theorem bv_toInt {x : Int} (h : I32 x) : (bv x).toInt = x := by
  unfold bv
  rw [BitVec.toInt_ofInt]
  unfold I32 at h
  simp only [Int.bmod_def]
  omega
theorem wrap_toNat (v : BitVec 32) : IntKind.i32.wrap (v.toNat : Int) = v.toInt := by
  rw [wrap_i32]
  unfold wrap32
  have := v.isLt
  rw [BitVec.toInt_eq_toNat_cond]
  split <;> omega
theorem and_bv (x y : Int) : Go.bits .and .i32 x y = (bv x &&& bv y).toInt := wrap_toNat _
theorem or_bv (x y : Int) : Go.bits .or .i32 x y = (bv x ||| bv y).toInt := wrap_toNat _
theorem xor_bv (x y : Int) : Go.bits .xor .i32 x y = (bv x ^^^ bv y).toInt := wrap_toNat _
theorem I32_toInt (v : BitVec 32) : I32 v.toInt := by
  have h1 := BitVec.le_toInt v
  have h2 := @BitVec.toInt_lt 32 v
  unfold I32
  simp at h1 h2
  omega
theorem bv_of_toInt (v : BitVec 32) : bv v.toInt = v := BitVec.ofInt_toInt
theorem bv_wrap (x : Int) : bv (wrap32 x) = BitVec.ofInt 32 x := by
  apply BitVec.eq_of_toNat_eq
  rw [bv_toNat, BitVec.toNat_ofInt, w32_emod]
  rfl
theorem and_nat (x y : Int) : Go.bits .and .i32 x y = wrap32 (((x % 4294967296).toNat &&& (y % 4294967296).toNat : Nat) : Int) := by
  rw [← bv_toNat, ← bv_toNat, ← BitVec.toNat_and, ← wrap_i32]; rfl
theorem or_nat (x y : Int) : Go.bits .or .i32 x y = wrap32 (((x % 4294967296).toNat ||| (y % 4294967296).toNat : Nat) : Int) := by
  rw [← bv_toNat, ← bv_toNat, ← BitVec.toNat_or, ← wrap_i32]; rfl
theorem xor_nat (x y : Int) : Go.bits .xor .i32 x y = wrap32 (((x % 4294967296).toNat ^^^ (y % 4294967296).toNat : Nat) : Int) := by
  rw [← bv_toNat, ← bv_toNat, ← BitVec.toNat_xor, ← wrap_i32]; rfl

/-- A bit of a number, as 0 or 1. -/
def bitn (A i : Nat) : Nat := A / 2 ^ i % 2
theorem bitn_lt (A i : Nat) : bitn A i < 2 := Nat.mod_lt _ (by decide)
theorem bitn_and (A B i : Nat) : bitn (A &&& B) i = if bitn A i + bitn B i = 2 then 1 else 0 := by
  have h := Nat.testBit_and A B i
  have hA := bitn_lt A i; have hB := bitn_lt B i; have hR := bitn_lt (A &&& B) i
  simp only [Nat.testBit_eq_decide_div_mod_eq] at h
  unfold bitn at *
  split <;> rename_i hc
  · have e1 : A / 2 ^ i % 2 = 1 := by omega
    have e2 : B / 2 ^ i % 2 = 1 := by omega
    rw [e1, e2] at h; simpa using h
  · by_cases e1 : A / 2 ^ i % 2 = 1
    · have e2 : B / 2 ^ i % 2 = 0 := by omega
      rw [e2] at h; simp at h; exact h
    · have e1' : A / 2 ^ i % 2 = 0 := by omega
      rw [e1'] at h; simp at h; exact h
theorem bitn_or (A B i : Nat) : bitn (A ||| B) i = if 1 ≤ bitn A i + bitn B i then 1 else 0 := by
  have h := Nat.testBit_or A B i
  have hA := bitn_lt A i; have hB := bitn_lt B i; have hR := bitn_lt (A ||| B) i
  simp only [Nat.testBit_eq_decide_div_mod_eq] at h
  unfold bitn at *
  have e1 : A / 2 ^ i % 2 = 0 ∨ A / 2 ^ i % 2 = 1 := by omega
  have e2 : B / 2 ^ i % 2 = 0 ∨ B / 2 ^ i % 2 = 1 := by omega
  rcases e1 with e1 | e1 <;> rcases e2 with e2 | e2 <;> rw [e1, e2] at h ⊢ <;> simpa using h
theorem bitn_xor (A B i : Nat) : bitn (A ^^^ B) i = if bitn A i + bitn B i = 1 then 1 else 0 := by
  have h := Nat.testBit_xor A B i
  have hA := bitn_lt A i; have hB := bitn_lt B i; have hR := bitn_lt (A ^^^ B) i
  simp only [Nat.testBit_eq_decide_div_mod_eq] at h
  unfold bitn at *
  have e1 : A / 2 ^ i % 2 = 0 ∨ A / 2 ^ i % 2 = 1 := by omega
  have e2 : B / 2 ^ i % 2 = 0 ∨ B / 2 ^ i % 2 = 1 := by omega
  rcases e1 with e1 | e1 <;> rcases e2 with e2 | e2 <;> rw [e1, e2] at h ⊢ <;> simpa using h
theorem mod_succ (R i : Nat) : R % 2 ^ (i + 1) = R % 2 ^ i + bitn R i * 2 ^ i := by
  rw [Nat.mod_pow_succ]; unfold bitn; rw [Nat.mul_comm]

end Go.Proofs.Ytoalomjmmlnclaa.M
