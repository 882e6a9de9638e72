/- The pure side of 'WordRing': words are a commutative ring under Add and Mul, subtraction adds the negation, and And, Or, Xor can be reordered and regrouped. -/
import Derived.Test.YtoalomjmmlnclaaPWordRingx2
import Derived.Test.YtoalomjmmlnclaaMath
namespace Go.Proofs.Ytoalomjmmlnclaa.Pure
open Go.RowKit Go.Proofs.Ytoalomjmmlnclaa.PWordRing Go.Proofs.YtoalomjmmlnclaaW.PrintWords Go.Proofs.YtoalomjmmlnclaaW.PrintLast Go.Proofs.YtoalomjmmlnclaaW.PrintMore
open Go.Proofs.Ytoalomjmmlnclaa.M
namespace WordRingAid

theorem awake_true (k : Nat) : ontimelaw03_awake.f (k + 1) = some true := at_rounds (g := ontimelaw03_awake.f) ontimelaw03_awake.mono (k := 1) (by omega) (by decide +kernel)

theorem apply_wv (k : Nat) (op x y : Int) : word_Apply.f (k + 1) op x y = some (wv op x y) := by
  unfold word_Apply.f wv
  by_cases h : op = 6
  · rw [if_pos h, if_pos h]
  rw [if_neg h, if_neg h]; clear h
  by_cases h : op = 7
  · rw [if_pos h, if_pos h]
  rw [if_neg h, if_neg h]; clear h
  by_cases h : op = 8
  · rw [if_pos h, if_pos h]
  rw [if_neg h, if_neg h]; clear h
  by_cases h : op = 9
  · subst h; by_cases h0 : y = 0 <;> simp [word_Apply.j0, h0]
  rw [if_neg h, if_neg h]
  by_cases h' : op = 10
  · subst h'; by_cases h0 : y = 0 <;> simp [word_Apply.j0, h0]
  rw [if_neg h']
  have e : (op == 10) = false := beq_eq_false_iff_ne.2 h'
  simp only [word_Apply.j0, e, count_mod]
  clear h h' e
  rw [if_neg (by decide)]
  by_cases h : op = 11
  · rw [if_pos h, if_pos h]
  rw [if_neg h, if_neg h]; clear h
  by_cases h : op = 12
  · rw [if_pos h, if_pos h]
  rw [if_neg h, if_neg h]; clear h
  by_cases h : op = 13
  · rw [if_pos h, if_pos h]
  rw [if_neg h, if_neg h]; clear h
  by_cases h : op = 14
  · rw [if_pos h, if_pos h]
  rw [if_neg h, if_neg h]; clear h
  by_cases h : op = 15
  · rw [if_pos h, if_pos h]
  rw [if_neg h, if_neg h]; clear h
  unfold word_compare.f
  by_cases h : op = 16
  · rw [if_pos h, if_pos h]; by_cases c : x = y <;> simp [word_truth.f, tr, c]
  rw [if_neg h, if_neg h]; clear h
  by_cases h : op = 17
  · rw [if_pos h, if_pos h]; by_cases c : x = y <;> simp [word_truth.f, tr, c]
  rw [if_neg h, if_neg h]; clear h
  by_cases h : op = 18
  · rw [if_pos h, if_pos h]; by_cases c : x < y <;> simp [word_truth.f, tr, c]
  rw [if_neg h, if_neg h]; clear h
  by_cases h : op = 19
  · rw [if_pos h, if_pos h]; by_cases c : x ≤ y <;> simp [word_truth.f, tr, c]
  rw [if_neg h, if_neg h]; clear h
  by_cases h : op = 20
  · rw [if_pos h, if_pos h]; by_cases c : y < x <;> simp [word_truth.f, tr, c]
  rw [if_neg h, if_neg h]; clear h
  by_cases h : op = 21
  · rw [if_pos h, if_pos h]; by_cases c : y ≤ x <;> simp [word_truth.f, tr, c]
  rw [if_neg h, if_neg h]; clear h
  by_cases h : op = 22
  · rw [if_pos h, if_pos h]; by_cases c : x = 0 <;> by_cases d : y = 0 <;> simp [word_truth.f, tr, c, d]
  rw [if_neg h, if_neg h]; clear h
  by_cases h : op = 23
  · rw [if_pos h, if_pos h]; by_cases c : x = 0 <;> by_cases d : y = 0 <;> simp [word_truth.f, tr, c, d]
  rw [if_neg h, if_neg h]; simp

theorem op_wv (k : Nat) (op x y : Int) : ontimelaw03_op.f (k + 1) op x y = some (wv op x y).1 := by unfold ontimelaw03_op.f; rw [apply_wv]; rfl
theorem neg_wv (x : Int) : ontimelaw03_neg.f x = some (wrap32 (-x)) := rfl

theorem w_add (x y : Int) : (wv 6 x y).1 = wrap32 (x + y) := rfl
theorem w_sub (x y : Int) : (wv 7 x y).1 = wrap32 (x - y) := rfl
theorem w_mul (x y : Int) : (wv 8 x y).1 = wrap32 (x * y) := rfl
theorem w_and (x y : Int) : (wv 11 x y).1 = (bv x &&& bv y).toInt := and_bv x y
theorem w_or (x y : Int) : (wv 12 x y).1 = (bv x ||| bv y).toInt := or_bv x y
theorem w_xor (x y : Int) : (wv 13 x y).1 = (bv x ^^^ bv y).toInt := xor_bv x y

theorem mul_wl (a b : Int) : wrap32 (wrap32 a * b) = wrap32 (a * b) := by
  apply w32_congr; rw [Int.mul_emod, w32_emod, ← Int.mul_emod]
theorem mul_wr (a b : Int) : wrap32 (a * wrap32 b) = wrap32 (a * b) := by rw [Int.mul_comm, mul_wl, Int.mul_comm]
theorem add_wl (a b : Int) : wrap32 (wrap32 a + b) = wrap32 (a + b) := by unfold wrap32; omega
theorem add_wr (a b : Int) : wrap32 (a + wrap32 b) = wrap32 (a + b) := by unfold wrap32; omega

/-- The operator can be reordered and regrouped. -/
def Good (op : Int) : Prop := (∀ x y, (wv op x y).1 = (wv op y x).1) ∧ ∀ x y z, (wv op (wv op x y).1 z).1 = (wv op x (wv op y z).1).1
theorem good6 : Good 6 := ⟨fun x y => by rw [w_add, w_add, Int.add_comm], fun x y z => by simp only [w_add, add_wl, add_wr, Int.add_assoc]⟩
theorem good8 : Good 8 := ⟨fun x y => by rw [w_mul, w_mul, Int.mul_comm], fun x y z => by simp only [w_mul, mul_wl, mul_wr, Int.mul_assoc]⟩
theorem good11 : Good 11 := ⟨fun x y => by rw [w_and, w_and, BitVec.and_comm], fun x y z => by simp only [w_and, bv_of_toInt, BitVec.and_assoc]⟩
theorem good12 : Good 12 := ⟨fun x y => by rw [w_or, w_or, BitVec.or_comm], fun x y z => by simp only [w_or, bv_of_toInt, BitVec.or_assoc]⟩
theorem good13 : Good 13 := ⟨fun x y => by rw [w_xor, w_xor, BitVec.xor_comm], fun x y z => by simp only [w_xor, bv_of_toInt, BitVec.xor_assoc]⟩

theorem good_all : ∀ o, o ∈ ([6, 8, 11, 12, 13] : List Int) → Good o := by
  intro o h
  simp only [List.mem_cons, List.not_mem_nil, or_false] at h
  rcases h with rfl | rfl | rfl | rfl | rfl
  · exact good6
  · exact good8
  · exact good11
  · exact good12
  · exact good13

/-- One round. -/
theorem round (k : Nat) (x y z i : Int) (h0 : 0 ≤ i) (h1 : i < 5) :
    ontimelaw03_WordRing.l0 (k + 2) x y z [6, 8, 11, 12, 13] 5 i = ontimelaw03_WordRing.l0 (k + 1) x y z [6, 8, 11, 12, 13] 5 (i + 1) := by
  rw [ontimelaw03_WordRing.l0]
  have hg : Good (rd [6, 8, 11, 12, 13] i) := by
    apply good_all
    have : i = 0 ∨ i = 1 ∨ i = 2 ∨ i = 3 ∨ i = 4 := by omega
    rcases this with rfl | rfl | rfl | rfl | rfl <;> simp [rd]
  generalize rd [6, 8, 11, 12, 13] i = o at *
  rw [if_pos h1, if_pos h0, if_pos (by simpa using h1)]
  simp only [op_wv, Option.bind_some]
  rw [if_pos (hg.1 x y), if_pos (hg.2 x y z), w64 (by omega)]

theorem last (k : Nat) (x y z : Int) (hx : I32 x) :
    ontimelaw03_WordRing.l0 (k + 2) x y z [6, 8, 11, 12, 13] 5 5 = some true := by
  rw [ontimelaw03_WordRing.l0]
  rw [if_neg (by decide)]
  simp only [op_wv, neg_wv, Option.bind_some, w_add, w_mul, w_sub, mul_wr, add_wl, add_wr]
  rw [if_pos (by rw [Int.mul_add]), if_pos (by rw [Int.sub_eq_add_neg]), if_pos (by rw [Int.add_right_neg]; exact w32 (by unfold I32; omega)), Int.mul_one, w32 hx]
  simp

end WordRingAid
open WordRingAid

theorem WordRing : ontimelaw03_WordRing.Pure := by
  intro x y z hx _ _
  refine ⟨10, ?_⟩
  unfold ontimelaw03_WordRing.f
  rw [awake_true]
  simp only [Option.bind_some, if_true]
  show ontimelaw03_WordRing.l0 (8 + 2) x y z [6, 8, 11, 12, 13] 5 0 = some true
  rw [round 8 x y z 0 (by decide) (by decide)]
  show ontimelaw03_WordRing.l0 (7 + 2) x y z [6, 8, 11, 12, 13] 5 1 = some true
  rw [round 7 x y z 1 (by decide) (by decide)]
  show ontimelaw03_WordRing.l0 (6 + 2) x y z [6, 8, 11, 12, 13] 5 2 = some true
  rw [round 6 x y z 2 (by decide) (by decide)]
  show ontimelaw03_WordRing.l0 (5 + 2) x y z [6, 8, 11, 12, 13] 5 3 = some true
  rw [round 5 x y z 3 (by decide) (by decide)]
  show ontimelaw03_WordRing.l0 (4 + 2) x y z [6, 8, 11, 12, 13] 5 4 = some true
  rw [round 4 x y z 4 (by decide) (by decide)]
  exact last 3 x y z (i32_wf hx)

end Go.Proofs.Ytoalomjmmlnclaa.Pure
