/- The walk of 'WordBits', and the laws of sets that it needs: for every pair of words the call answers true. -/
import Derived.Test.YtoalomjmmlnclaaWordKit
namespace Go.Proofs.Ytoalomjmmlnclaa.Bits
open Go.RowKit Go.Proofs.YtoalomjmmlnclaaW.PrintWords Go.Proofs.YtoalomjmmlnclaaW.PrintLast Go.Proofs.YtoalomjmmlnclaaW.PrintMore
open Go.Proofs.Ytoalomjmmlnclaa.M Go.Proofs.Ytoalomjmmlnclaa.WordKit
set_option linter.unusedVariables false
set_option linter.unusedSimpArgs false

/-- Two words with one bit string are one. -/
theorem bv_inj {a b : Int} (ha : I32 a) (hb : I32 b) (h : bv a = bv b) : a = b := by rw [← bv_toInt ha, ← bv_toInt hb, h]
theorem op11 (x y : Int) : (wv 11 x y).1 = (bv x &&& bv y).toInt := and_bv x y
theorem op12 (x y : Int) : (wv 12 x y).1 = (bv x ||| bv y).toInt := or_bv x y
theorem op13 (x y : Int) : (wv 13 x y).1 = (bv x ^^^ bv y).toInt := xor_bv x y
theorem bv_add (x y : Int) : bv (wv 6 x y).1 = bv x + bv y := by
  show bv (wrap32 (x + y)) = _
  rw [bv_wrap, BitVec.ofInt_add]; rfl
theorem bv_neg (x : Int) : bv (wrap32 (-x)) = - bv x := by rw [bv_wrap, BitVec.ofInt_neg]; rfl
theorem bv_sub (x y : Int) : bv (wv 7 x y).1 = bv x - bv y := by
  show bv (wrap32 (x - y)) = _
  rw [bv_wrap, Int.sub_eq_add_neg, BitVec.ofInt_add, BitVec.ofInt_neg, BitVec.sub_eq_add_neg]; rfl
theorem I6 (x y : Int) : I32 (wv 6 x y).1 := I32_wrap _
theorem I7 (x y : Int) : I32 (wv 7 x y).1 := I32_wrap _

theorem or_split (a b : BitVec 32) : a ||| b = (a &&& b) + (a ^^^ b) := by
  rw [BitVec.add_eq_or_of_and_eq_zero]
  · apply BitVec.eq_of_getLsbD_eq; intro i hi
    simp only [BitVec.getLsbD_or, BitVec.getLsbD_and, BitVec.getLsbD_xor]
    cases a.getLsbD i <;> cases b.getLsbD i <;> rfl
  · apply BitVec.eq_of_getLsbD_eq; intro i hi
    simp only [BitVec.getLsbD_and, BitVec.getLsbD_xor, BitVec.getLsbD_zero]
    cases a.getLsbD i <;> cases b.getLsbD i <;> rfl
theorem own_split (a b : BitVec 32) : a = (a &&& b) + (a &&& ~~~b) := by
  rw [BitVec.add_eq_or_of_and_eq_zero]
  · apply BitVec.eq_of_getLsbD_eq; intro i hi
    simp only [BitVec.getLsbD_or, BitVec.getLsbD_and, BitVec.getLsbD_not, hi, decide_true, Bool.true_and]
    cases a.getLsbD i <;> cases b.getLsbD i <;> rfl
  · apply BitVec.eq_of_getLsbD_eq; intro i hi
    simp only [BitVec.getLsbD_and, BitVec.getLsbD_not, BitVec.getLsbD_zero, hi, decide_true, Bool.true_and]
    cases a.getLsbD i <;> cases b.getLsbD i <;> rfl
theorem or_less (a b : BitVec 32) : a ||| b = b + (a &&& ~~~b) := by
  rw [BitVec.add_eq_or_of_and_eq_zero]
  · apply BitVec.eq_of_getLsbD_eq; intro i hi
    simp only [BitVec.getLsbD_or, BitVec.getLsbD_and, BitVec.getLsbD_not, hi, decide_true, Bool.true_and]
    cases a.getLsbD i <;> cases b.getLsbD i <;> rfl
  · apply BitVec.eq_of_getLsbD_eq; intro i hi
    simp only [BitVec.getLsbD_and, BitVec.getLsbD_not, BitVec.getLsbD_zero, hi, decide_true, Bool.true_and]
    cases a.getLsbD i <;> cases b.getLsbD i <;> rfl
theorem sum_split (a b : BitVec 32) : (a &&& b) + (a ||| b) = a + b := by
  rw [or_less, ← BitVec.add_assoc, BitVec.add_comm (a &&& b) b, BitVec.add_assoc, ← own_split, BitVec.add_comm]

/-- The complement, as the law writes it. -/
def flipv (n : Int) : Int := (wv 7 (wrap32 (-n)) 1).1
theorem bv_flip (n : Int) : bv (flipv n) = ~~~ bv n := by
  unfold flipv; rw [bv_sub, bv_neg, BitVec.not_eq_neg_add]; rfl
theorem I_flip (n : Int) : I32 (flipv n) := I7 _ _

set_option maxHeartbeats 800000 in
theorem flip_c (n r : Int) (h : flipv n = r) (w : World) : Calls Try.prog 36 #[.int .i32 n] w fun z w' => z = .returned (.int .i32 r) ∧ Drawn0 w w' := by
  obtain ⟨m, hm⟩ : ∃ m, wrap32 (-n) = m := ⟨_, rfl⟩
  have A := Aside0.mk hm
  have B := Aside0.mk (show (wv 7 m 1).1 = r by rw [← hm]; exact h)
  clear h hm
  go_enter Try.func36, Try.ntmps36
  go_wp2_with (first | (go_at_call 34; (with_reducible refine (neg_c n m A.out _).mono ?_); rintro e w' ⟨rfl, ⟨nd, rfl⟩⟩) | (go_at_call 22; (with_reducible refine (op_c 7 m 1 r B.out _).mono ?_); rintro e w' ⟨rfl, ⟨nd, rfl⟩⟩))
  go_ret
  exact ⟨by first | rfl | (simp; done) | (simp [*]; done), by repeat (first | exact Drawn0.refl _ | apply Drawn0.step)⟩

set_option maxHeartbeats 2000000 in
set_option maxRecDepth 100000 in
theorem walk_of (x y A O X S F G H : Int) (a : Aside0 ((wv 11 x y).1 = A)) (b : Aside0 ((wv 12 x y).1 = O)) (c : Aside0 ((wv 13 x y).1 = X)) (d : Aside0 ((wv 6 A O).1 = S)) (e : Aside0 ((wv 6 x y).1 = S))
    (f : Aside0 ((wv 7 O A).1 = X)) (g : Aside0 (flipv A = F)) (h : Aside0 (flipv x = G)) (i : Aside0 (flipv y = H)) (j : Aside0 ((wv 12 G H).1 = F)) (k : Aside0 ((wv 13 X y).1 = x)) (l : Aside0 ((wv 11 x O).1 = x)) (w : World) :
    Calls Try.prog 10 #[.int .i32 x, .int .i32 y] w fun e w' => e = .returned (.bool true) ∧ Drawn0 w w' := by
  go_enter Try.func10, Try.ntmps10
  go_wp2_with (first | (go_at_call 21; (with_reducible refine (awake_c _).mono ?_); rintro e w' ⟨rfl, ⟨nd, rfl⟩⟩) | (go_at_call 22; (with_reducible refine (op_c 11 x y A a.out _).mono ?_); rintro e w' ⟨rfl, ⟨nd, rfl⟩⟩) | (go_at_call 22; (with_reducible refine (op_c 12 x y O b.out _).mono ?_); rintro e w' ⟨rfl, ⟨nd, rfl⟩⟩) | (go_at_call 22; (with_reducible refine (op_c 13 x y X c.out _).mono ?_); rintro e w' ⟨rfl, ⟨nd, rfl⟩⟩) | (go_at_call 22; (with_reducible refine (op_c 6 A O S d.out _).mono ?_); rintro e w' ⟨rfl, ⟨nd, rfl⟩⟩) | (go_at_call 22; (with_reducible refine (op_c 6 x y S e.out _).mono ?_); rintro e w' ⟨rfl, ⟨nd, rfl⟩⟩) | (go_at_call 22; (with_reducible refine (op_c 7 O A X f.out _).mono ?_); rintro e w' ⟨rfl, ⟨nd, rfl⟩⟩) | (go_at_call 36; (with_reducible refine (flip_c A F g.out _).mono ?_); rintro e w' ⟨rfl, ⟨nd, rfl⟩⟩) | (go_at_call 36; (with_reducible refine (flip_c x G h.out _).mono ?_); rintro e w' ⟨rfl, ⟨nd, rfl⟩⟩) | (go_at_call 36; (with_reducible refine (flip_c y H i.out _).mono ?_); rintro e w' ⟨rfl, ⟨nd, rfl⟩⟩) | (go_at_call 22; (with_reducible refine (op_c 12 G H F j.out _).mono ?_); rintro e w' ⟨rfl, ⟨nd, rfl⟩⟩) | (go_at_call 22; (with_reducible refine (op_c 13 X y x k.out _).mono ?_); rintro e w' ⟨rfl, ⟨nd, rfl⟩⟩) | (go_at_call 22; (with_reducible refine (op_c 11 x O x l.out _).mono ?_); rintro e w' ⟨rfl, ⟨nd, rfl⟩⟩))
  go_ret
  exact ⟨by first | rfl | (simp; done) | (simp [*]; done), by repeat (first | exact Drawn0.refl _ | apply Drawn0.step)⟩

theorem walk (x y : Int) (w : World) (wx : (Lit.int .i32 x).wf = true) (wy : (Lit.int .i32 y).wf = true) : Calls Try.prog 10 #[.int .i32 x, .int .i32 y] w fun e w' => e = .returned (.bool true) ∧ Below w.heap.size w w' := by
  suffices hh : Calls Try.prog 10 #[.int .i32 x, .int .i32 y] w fun e w' => e = .returned (.bool true) ∧ Drawn0 w w' from hh.mono fun e w' h => ⟨h.1, h.2.below⟩
  have hx := i32_wf wx
  refine walk_of x y _ _ _ (wv 6 x y).1 (flipv (wv 11 x y).1) _ _ ⟨rfl⟩ ⟨rfl⟩ ⟨rfl⟩ ⟨?_⟩ ⟨rfl⟩ ⟨?_⟩ ⟨rfl⟩ ⟨rfl⟩ ⟨rfl⟩ ⟨?_⟩ ⟨?_⟩ ⟨?_⟩ w
  · apply bv_inj (I6 _ _) (I6 _ _)
    rw [bv_add, bv_add, op11, op12, bv_of_toInt, bv_of_toInt, sum_split]
  · apply bv_inj (I7 _ _) (by rw [op13]; exact I32_toInt _)
    rw [bv_sub, op11, op12, op13, bv_of_toInt, bv_of_toInt, bv_of_toInt, or_split, BitVec.add_comm, BitVec.add_sub_cancel]
  · apply bv_inj (by rw [op12]; exact I32_toInt _) (I_flip _)
    rw [op12, bv_of_toInt, bv_flip, bv_flip, bv_flip, op11, bv_of_toInt, BitVec.not_and]
  · apply bv_inj (by rw [op13]; exact I32_toInt _) hx
    rw [op13, op13, bv_of_toInt, bv_of_toInt, BitVec.xor_assoc, BitVec.xor_self, BitVec.xor_zero]
  · apply bv_inj (by rw [op11]; exact I32_toInt _) hx
    rw [op11, op12, bv_of_toInt, bv_of_toInt]
    apply BitVec.eq_of_getLsbD_eq; intro i hi
    simp only [BitVec.getLsbD_and, BitVec.getLsbD_or]
    cases (bv x).getLsbD i <;> cases (bv y).getLsbD i <;> rfl

end Go.Proofs.Ytoalomjmmlnclaa.Bits
