/- The walk of 'WordLogic': for every pair of words the call answers true. Four cases: whether each operand is zero. -/
import Derived.Test.YtoalomjmmlnclaaWordKit
namespace Go.Proofs.Ytoalomjmmlnclaa.Logic
open Go.RowKit Go.Proofs.YtoalomjmmlnclaaW.PrintWords Go.Proofs.YtoalomjmmlnclaaW.PrintLast Go.Proofs.YtoalomjmmlnclaaW.PrintMore
open Go.Proofs.Ytoalomjmmlnclaa.M Go.Proofs.Ytoalomjmmlnclaa.WordKit
set_option linter.unusedVariables false
set_option linter.unusedSimpArgs false

theorem op22 (x y : Int) : (wv 22 x y).1 = tr (decide (x ≠ 0 ∧ y ≠ 0)) := rfl
theorem op23 (x y : Int) : (wv 23 x y).1 = tr (decide (x ≠ 0 ∨ y ≠ 0)) := rfl
theorem op8 (x y : Int) : (wv 8 x y).1 = wrap32 (x * y) := rfl

set_option maxHeartbeats 2000000 in
set_option maxRecDepth 100000 in
theorem walk00 (x : Int) (hx : x ≠ 0) (y : Int) (hy : y ≠ 0) (w : World) : Calls Try.prog 12 #[.int .i32 x, .int .i32 y] w fun e w' => e = .returned (.bool true) ∧ Drawn0 w w' := by
  have O0 := Aside0.mk (show (wv 22 x y).1 = 1 by simp [op22, op23, op8, tr, wrap32, hx, hy])
  have O1 := Aside0.mk (show (wv 23 x y).1 = 1 by simp [op22, op23, op8, tr, wrap32, hx, hy])
  have O2 := Aside0.mk (show (wv 8 1 1).1 = 1 by simp [op22, op23, op8, tr, wrap32])
  have O3 := Aside0.mk (show (wv 8 0 0).1 = 0 by simp [op22, op23, op8, tr, wrap32])
  have O4 := Aside0.mk (show (wv 23 0 0).1 = 0 by simp [op22, op23, op8, tr, wrap32])
  have O5 := Aside0.mk (show (wv 22 1 1).1 = 1 by simp [op22, op23, op8, tr, wrap32])
  have N0 := Aside0.mk (show notv x = 0 by simp [notv, tr, hx])
  have N1 := Aside0.mk (show notv y = 0 by simp [notv, tr, hy])
  have N2 := Aside0.mk (show notv 0 = 1 by simp [notv, tr])
  have N3 := Aside0.mk (show notv 1 = 0 by simp [notv, tr])
  have b1 : (x == 0) = false := beq_eq_false_iff_ne.2 hx
  have b2 : (x != 0) = true := bne_iff_ne.2 hx
  clear hx
  clear hy
  go_enter Try.func12, Try.ntmps12
  go_wp2_with (first | (go_at_call 22; (with_reducible refine (op_c 22 x y 1 O0.out _).mono ?_); rintro e w' ⟨rfl, ⟨nd, rfl⟩⟩) | (go_at_call 22; (with_reducible refine (op_c 23 x y 1 O1.out _).mono ?_); rintro e w' ⟨rfl, ⟨nd, rfl⟩⟩) | (go_at_call 22; (with_reducible refine (op_c 8 1 1 1 O2.out _).mono ?_); rintro e w' ⟨rfl, ⟨nd, rfl⟩⟩) | (go_at_call 22; (with_reducible refine (op_c 8 0 0 0 O3.out _).mono ?_); rintro e w' ⟨rfl, ⟨nd, rfl⟩⟩) | (go_at_call 22; (with_reducible refine (op_c 23 0 0 0 O4.out _).mono ?_); rintro e w' ⟨rfl, ⟨nd, rfl⟩⟩) | (go_at_call 22; (with_reducible refine (op_c 22 1 1 1 O5.out _).mono ?_); rintro e w' ⟨rfl, ⟨nd, rfl⟩⟩) | (go_at_call 37; (with_reducible refine (not_c x 0 N0.out _).mono ?_); rintro e w' ⟨rfl, ⟨nd, rfl⟩⟩) | (go_at_call 37; (with_reducible refine (not_c y 0 N1.out _).mono ?_); rintro e w' ⟨rfl, ⟨nd, rfl⟩⟩) | (go_at_call 37; (with_reducible refine (not_c 0 1 N2.out _).mono ?_); rintro e w' ⟨rfl, ⟨nd, rfl⟩⟩) | (go_at_call 37; (with_reducible refine (not_c 1 0 N3.out _).mono ?_); rintro e w' ⟨rfl, ⟨nd, rfl⟩⟩) | (go_at_call 21; (with_reducible refine (awake_c _).mono ?_); rintro e w' ⟨rfl, ⟨nd, rfl⟩⟩))
  go_ret
  exact ⟨by first | rfl | (simp; done) | (simp [*]; done), by repeat (first | exact Drawn0.refl _ | apply Drawn0.step)⟩

set_option maxHeartbeats 2000000 in
set_option maxRecDepth 100000 in
theorem walk01 (x : Int) (hx : x ≠ 0) (w : World) : Calls Try.prog 12 #[.int .i32 x, .int .i32 0] w fun e w' => e = .returned (.bool true) ∧ Drawn0 w w' := by
  have O0 := Aside0.mk (show (wv 22 x 0).1 = 0 by simp [op22, op23, op8, tr, wrap32, hx])
  have O1 := Aside0.mk (show (wv 23 x 0).1 = 1 by simp [op22, op23, op8, tr, wrap32, hx])
  have O2 := Aside0.mk (show (wv 8 1 0).1 = 0 by simp [op22, op23, op8, tr, wrap32])
  have O3 := Aside0.mk (show (wv 8 0 1).1 = 0 by simp [op22, op23, op8, tr, wrap32])
  have O4 := Aside0.mk (show (wv 23 0 1).1 = 1 by simp [op22, op23, op8, tr, wrap32])
  have O5 := Aside0.mk (show (wv 22 1 0).1 = 0 by simp [op22, op23, op8, tr, wrap32])
  have N0 := Aside0.mk (show notv x = 0 by simp [notv, tr, hx])
  have N1 := Aside0.mk (show notv 0 = 1 by simp [notv, tr])
  have N2 := Aside0.mk (show notv 1 = 0 by simp [notv, tr])
  have b1 : (x == 0) = false := beq_eq_false_iff_ne.2 hx
  have b2 : (x != 0) = true := bne_iff_ne.2 hx
  clear hx
  go_enter Try.func12, Try.ntmps12
  go_wp2_with (first | (go_at_call 22; (with_reducible refine (op_c 22 x 0 0 O0.out _).mono ?_); rintro e w' ⟨rfl, ⟨nd, rfl⟩⟩) | (go_at_call 22; (with_reducible refine (op_c 23 x 0 1 O1.out _).mono ?_); rintro e w' ⟨rfl, ⟨nd, rfl⟩⟩) | (go_at_call 22; (with_reducible refine (op_c 8 1 0 0 O2.out _).mono ?_); rintro e w' ⟨rfl, ⟨nd, rfl⟩⟩) | (go_at_call 22; (with_reducible refine (op_c 8 0 1 0 O3.out _).mono ?_); rintro e w' ⟨rfl, ⟨nd, rfl⟩⟩) | (go_at_call 22; (with_reducible refine (op_c 23 0 1 1 O4.out _).mono ?_); rintro e w' ⟨rfl, ⟨nd, rfl⟩⟩) | (go_at_call 22; (with_reducible refine (op_c 22 1 0 0 O5.out _).mono ?_); rintro e w' ⟨rfl, ⟨nd, rfl⟩⟩) | (go_at_call 37; (with_reducible refine (not_c x 0 N0.out _).mono ?_); rintro e w' ⟨rfl, ⟨nd, rfl⟩⟩) | (go_at_call 37; (with_reducible refine (not_c 0 1 N1.out _).mono ?_); rintro e w' ⟨rfl, ⟨nd, rfl⟩⟩) | (go_at_call 37; (with_reducible refine (not_c 1 0 N2.out _).mono ?_); rintro e w' ⟨rfl, ⟨nd, rfl⟩⟩) | (go_at_call 21; (with_reducible refine (awake_c _).mono ?_); rintro e w' ⟨rfl, ⟨nd, rfl⟩⟩))
  go_ret
  exact ⟨by first | rfl | (simp; done) | (simp [*]; done), by repeat (first | exact Drawn0.refl _ | apply Drawn0.step)⟩

set_option maxHeartbeats 2000000 in
set_option maxRecDepth 100000 in
theorem walk10 (y : Int) (hy : y ≠ 0) (w : World) : Calls Try.prog 12 #[.int .i32 0, .int .i32 y] w fun e w' => e = .returned (.bool true) ∧ Drawn0 w w' := by
  have O0 := Aside0.mk (show (wv 22 0 y).1 = 0 by simp [op22, op23, op8, tr, wrap32, hy])
  have O1 := Aside0.mk (show (wv 23 0 y).1 = 1 by simp [op22, op23, op8, tr, wrap32, hy])
  have O2 := Aside0.mk (show (wv 8 0 1).1 = 0 by simp [op22, op23, op8, tr, wrap32])
  have O3 := Aside0.mk (show (wv 8 1 0).1 = 0 by simp [op22, op23, op8, tr, wrap32])
  have O4 := Aside0.mk (show (wv 23 1 0).1 = 1 by simp [op22, op23, op8, tr, wrap32])
  have O5 := Aside0.mk (show (wv 22 0 1).1 = 0 by simp [op22, op23, op8, tr, wrap32])
  have N0 := Aside0.mk (show notv 0 = 1 by simp [notv, tr])
  have N1 := Aside0.mk (show notv y = 0 by simp [notv, tr, hy])
  have N2 := Aside0.mk (show notv 1 = 0 by simp [notv, tr])
  clear hy
  go_enter Try.func12, Try.ntmps12
  go_wp2_with (first | (go_at_call 22; (with_reducible refine (op_c 22 0 y 0 O0.out _).mono ?_); rintro e w' ⟨rfl, ⟨nd, rfl⟩⟩) | (go_at_call 22; (with_reducible refine (op_c 23 0 y 1 O1.out _).mono ?_); rintro e w' ⟨rfl, ⟨nd, rfl⟩⟩) | (go_at_call 22; (with_reducible refine (op_c 8 0 1 0 O2.out _).mono ?_); rintro e w' ⟨rfl, ⟨nd, rfl⟩⟩) | (go_at_call 22; (with_reducible refine (op_c 8 1 0 0 O3.out _).mono ?_); rintro e w' ⟨rfl, ⟨nd, rfl⟩⟩) | (go_at_call 22; (with_reducible refine (op_c 23 1 0 1 O4.out _).mono ?_); rintro e w' ⟨rfl, ⟨nd, rfl⟩⟩) | (go_at_call 22; (with_reducible refine (op_c 22 0 1 0 O5.out _).mono ?_); rintro e w' ⟨rfl, ⟨nd, rfl⟩⟩) | (go_at_call 37; (with_reducible refine (not_c 0 1 N0.out _).mono ?_); rintro e w' ⟨rfl, ⟨nd, rfl⟩⟩) | (go_at_call 37; (with_reducible refine (not_c y 0 N1.out _).mono ?_); rintro e w' ⟨rfl, ⟨nd, rfl⟩⟩) | (go_at_call 37; (with_reducible refine (not_c 1 0 N2.out _).mono ?_); rintro e w' ⟨rfl, ⟨nd, rfl⟩⟩) | (go_at_call 21; (with_reducible refine (awake_c _).mono ?_); rintro e w' ⟨rfl, ⟨nd, rfl⟩⟩))
  go_ret
  exact ⟨by first | rfl | (simp; done) | (simp [*]; done), by repeat (first | exact Drawn0.refl _ | apply Drawn0.step)⟩

set_option maxHeartbeats 2000000 in
set_option maxRecDepth 100000 in
theorem walk11 (w : World) : Calls Try.prog 12 #[.int .i32 0, .int .i32 0] w fun e w' => e = .returned (.bool true) ∧ Drawn0 w w' := by
  have O0 := Aside0.mk (show (wv 22 0 0).1 = 0 by simp [op22, op23, op8, tr, wrap32])
  have O1 := Aside0.mk (show (wv 23 0 0).1 = 0 by simp [op22, op23, op8, tr, wrap32])
  have O2 := Aside0.mk (show (wv 8 0 0).1 = 0 by simp [op22, op23, op8, tr, wrap32])
  have O3 := Aside0.mk (show (wv 8 1 1).1 = 1 by simp [op22, op23, op8, tr, wrap32])
  have O4 := Aside0.mk (show (wv 23 1 1).1 = 1 by simp [op22, op23, op8, tr, wrap32])
  have N0 := Aside0.mk (show notv 0 = 1 by simp [notv, tr])
  have N1 := Aside0.mk (show notv 1 = 0 by simp [notv, tr])
  go_enter Try.func12, Try.ntmps12
  go_wp2_with (first | (go_at_call 22; (with_reducible refine (op_c 22 0 0 0 O0.out _).mono ?_); rintro e w' ⟨rfl, ⟨nd, rfl⟩⟩) | (go_at_call 22; (with_reducible refine (op_c 23 0 0 0 O1.out _).mono ?_); rintro e w' ⟨rfl, ⟨nd, rfl⟩⟩) | (go_at_call 22; (with_reducible refine (op_c 8 0 0 0 O2.out _).mono ?_); rintro e w' ⟨rfl, ⟨nd, rfl⟩⟩) | (go_at_call 22; (with_reducible refine (op_c 8 1 1 1 O3.out _).mono ?_); rintro e w' ⟨rfl, ⟨nd, rfl⟩⟩) | (go_at_call 22; (with_reducible refine (op_c 23 1 1 1 O4.out _).mono ?_); rintro e w' ⟨rfl, ⟨nd, rfl⟩⟩) | (go_at_call 37; (with_reducible refine (not_c 0 1 N0.out _).mono ?_); rintro e w' ⟨rfl, ⟨nd, rfl⟩⟩) | (go_at_call 37; (with_reducible refine (not_c 1 0 N1.out _).mono ?_); rintro e w' ⟨rfl, ⟨nd, rfl⟩⟩) | (go_at_call 21; (with_reducible refine (awake_c _).mono ?_); rintro e w' ⟨rfl, ⟨nd, rfl⟩⟩))
  go_ret
  exact ⟨by first | rfl | (simp; done) | (simp [*]; done), by repeat (first | exact Drawn0.refl _ | apply Drawn0.step)⟩

theorem walk (x y : Int) (w : World) (_ : (Lit.int .i32 x).wf = true) (_ : (Lit.int .i32 y).wf = true) : Calls Try.prog 12 #[.int .i32 x, .int .i32 y] w fun e w' => e = .returned (.bool true) ∧ Below w.heap.size w w' := by
  suffices hh : Calls Try.prog 12 #[.int .i32 x, .int .i32 y] w fun e w' => e = .returned (.bool true) ∧ Drawn0 w w' from hh.mono fun e w' h => ⟨h.1, h.2.below⟩
  by_cases hx : x = 0
  · by_cases hy : y = 0
    · subst hx hy; exact walk11 w
    · subst hx; exact walk10 y hy w
  · by_cases hy : y = 0
    · subst hy; exact walk01 x hx w
    · exact walk00 x hx y hy w

end Go.Proofs.Ytoalomjmmlnclaa.Logic
