/- The walk of 'WordDivides', and the arithmetic of quotient and remainder that it needs: for every pair of words the call answers true. -/
import Derived.Test.YtoalomjmmlnclaaWordKit
namespace Go.Proofs.Ytoalomjmmlnclaa.Divides
open Go.RowKit Go.Proofs.YtoalomjmmlnclaaW.PrintWords Go.Proofs.YtoalomjmmlnclaaW.PrintLast Go.Proofs.YtoalomjmmlnclaaW.PrintMore
open Go.Proofs.Ytoalomjmmlnclaa.M Go.Proofs.Ytoalomjmmlnclaa.WordKit
attribute [local go_sem] max2_int min2_int max_two min_two
set_option linter.unusedVariables false
set_option linter.unusedSimpArgs false

set_option maxHeartbeats 800000 in
theorem size_c (n s : Int) (h : s = n.natAbs) (hn : I32 n) (w : World) : Calls Try.prog 23 #[.int .i32 n] w fun z w' => z = .returned (.int .i64 s) ∧ Drawn0 w w' := by
  unfold I32 at hn
  obtain ⟨h1, h2⟩ := hn
  by_cases c : n < -n
  · have e : s = -n := by omega
    clear h
    subst e
    go_enter Try.func23, Try.ntmps23
    go_wp2
    go_ret
    exact ⟨by first | rfl | (simp; done) | (simp [*]; done), by repeat (first | exact Drawn0.refl _ | apply Drawn0.step)⟩
  · have e : s = n := by omega
    clear h
    subst e
    go_enter Try.func23, Try.ntmps23
    go_wp2
    go_ret
    exact ⟨by first | rfl | (simp; done) | (simp [*]; done), by repeat (first | exact Drawn0.refl _ | apply Drawn0.step)⟩

set_option maxHeartbeats 2000000 in
set_option maxRecDepth 100000 in
theorem walk_zero (x : Int) (w : World) : Calls Try.prog 4 #[.int .i32 x, .int .i32 0] w fun e w' => e = .returned (.bool true) ∧ Drawn0 w w' := by
  have Q := Aside0.mk (show wv 9 x 0 = (0, 9) from rfl)
  have R := Aside0.mk (show wv 10 x 0 = (0, 9) from rfl)
  go_enter Try.func4, Try.ntmps4
  go_wp2_with (first | (go_at_call 21; (with_reducible refine (awake_c _).mono ?_); rintro e w' ⟨rfl, ⟨nd, rfl⟩⟩) | (go_at_call 19; (with_reducible refine (apply_c 9 x 0 0 9 Q.out _).mono ?_); rintro e w' ⟨rfl, ⟨nd, rfl⟩⟩) | (go_at_call 19; (with_reducible refine (apply_c 10 x 0 0 9 R.out _).mono ?_); rintro e w' ⟨rfl, ⟨nd, rfl⟩⟩))
  go_ret
  exact ⟨by first | rfl | (simp; done) | (simp [*]; done), by repeat (first | exact Drawn0.refl _ | apply Drawn0.step)⟩

set_option maxHeartbeats 2000000 in
set_option maxRecDepth 100000 in
theorem walk1 (x y p s t : Int) (Q : Aside0 (wv 9 x y = (0, 0))) (R : Aside0 (wv 10 x y = (0, 0))) (P : Aside0 ((wv 8 0 y).1 = p)) (S : Aside0 ((wv 6 p 0).1 = x)) (A : Aside0 (s = ((0 : Int).natAbs : Int))) (B : Aside0 (t = ((y : Int).natAbs : Int))) (C : Aside0 (I32 0)) (D : Aside0 (I32 y)) (lt : s < t) (b0 : (y == 0) = false) (w : World) : Calls Try.prog 4 #[.int .i32 x, .int .i32 y] w fun e w' => e = .returned (.bool true) ∧ Drawn0 w w' := by
  go_enter Try.func4, Try.ntmps4
  go_wp2_with (first | (go_at_call 21; (with_reducible refine (awake_c _).mono ?_); rintro e w' ⟨rfl, ⟨nd, rfl⟩⟩) | (go_at_call 19; (with_reducible refine (apply_c 9 x y 0 0 Q.out _).mono ?_); rintro e w' ⟨rfl, ⟨nd, rfl⟩⟩) | (go_at_call 19; (with_reducible refine (apply_c 10 x y 0 0 R.out _).mono ?_); rintro e w' ⟨rfl, ⟨nd, rfl⟩⟩) | (go_at_call 22; (with_reducible refine (op_c 8 0 y p P.out _).mono ?_); rintro e w' ⟨rfl, ⟨nd, rfl⟩⟩) | (go_at_call 22; (with_reducible refine (op_c 6 p 0 x S.out _).mono ?_); rintro e w' ⟨rfl, ⟨nd, rfl⟩⟩) | (go_at_call 23; (with_reducible refine (size_c 0 s A.out C.out _).mono ?_); rintro e w' ⟨rfl, ⟨nd, rfl⟩⟩) | (go_at_call 23; (with_reducible refine (size_c y t B.out D.out _).mono ?_); rintro e w' ⟨rfl, ⟨nd, rfl⟩⟩))
  go_ret
  exact ⟨by first | rfl | (simp; done) | (simp [*]; done), by repeat (first | exact Drawn0.refl _ | apply Drawn0.step)⟩

set_option maxHeartbeats 2000000 in
set_option maxRecDepth 100000 in
theorem walk2 (x y r p s t : Int) (Q : Aside0 (wv 9 x y = (0, 0))) (R : Aside0 (wv 10 x y = (r, 0))) (P : Aside0 ((wv 8 0 y).1 = p)) (S : Aside0 ((wv 6 p r).1 = x)) (A : Aside0 (s = ((r : Int).natAbs : Int))) (B : Aside0 (t = ((y : Int).natAbs : Int))) (C : Aside0 (I32 r)) (D : Aside0 (I32 y)) (lt : s < t) (b0 : (y == 0) = false) (b1 : (r == 0) = false) (b2 : decide (r < 0) = true) (b3 : decide (x < 0) = true) (w : World) : Calls Try.prog 4 #[.int .i32 x, .int .i32 y] w fun e w' => e = .returned (.bool true) ∧ Drawn0 w w' := by
  go_enter Try.func4, Try.ntmps4
  go_wp2_with (first | (go_at_call 21; (with_reducible refine (awake_c _).mono ?_); rintro e w' ⟨rfl, ⟨nd, rfl⟩⟩) | (go_at_call 19; (with_reducible refine (apply_c 9 x y 0 0 Q.out _).mono ?_); rintro e w' ⟨rfl, ⟨nd, rfl⟩⟩) | (go_at_call 19; (with_reducible refine (apply_c 10 x y r 0 R.out _).mono ?_); rintro e w' ⟨rfl, ⟨nd, rfl⟩⟩) | (go_at_call 22; (with_reducible refine (op_c 8 0 y p P.out _).mono ?_); rintro e w' ⟨rfl, ⟨nd, rfl⟩⟩) | (go_at_call 22; (with_reducible refine (op_c 6 p r x S.out _).mono ?_); rintro e w' ⟨rfl, ⟨nd, rfl⟩⟩) | (go_at_call 23; (with_reducible refine (size_c r s A.out C.out _).mono ?_); rintro e w' ⟨rfl, ⟨nd, rfl⟩⟩) | (go_at_call 23; (with_reducible refine (size_c y t B.out D.out _).mono ?_); rintro e w' ⟨rfl, ⟨nd, rfl⟩⟩))
  go_ret
  exact ⟨by first | rfl | (simp; done) | (simp [*]; done), by repeat (first | exact Drawn0.refl _ | apply Drawn0.step)⟩

set_option maxHeartbeats 2000000 in
set_option maxRecDepth 100000 in
theorem walk3 (x y r p s t : Int) (Q : Aside0 (wv 9 x y = (0, 0))) (R : Aside0 (wv 10 x y = (r, 0))) (P : Aside0 ((wv 8 0 y).1 = p)) (S : Aside0 ((wv 6 p r).1 = x)) (A : Aside0 (s = ((r : Int).natAbs : Int))) (B : Aside0 (t = ((y : Int).natAbs : Int))) (C : Aside0 (I32 r)) (D : Aside0 (I32 y)) (lt : s < t) (b0 : (y == 0) = false) (b1 : (r == 0) = false) (b2 : decide (r < 0) = false) (b3 : decide (x < 0) = false) (w : World) : Calls Try.prog 4 #[.int .i32 x, .int .i32 y] w fun e w' => e = .returned (.bool true) ∧ Drawn0 w w' := by
  go_enter Try.func4, Try.ntmps4
  go_wp2_with (first | (go_at_call 21; (with_reducible refine (awake_c _).mono ?_); rintro e w' ⟨rfl, ⟨nd, rfl⟩⟩) | (go_at_call 19; (with_reducible refine (apply_c 9 x y 0 0 Q.out _).mono ?_); rintro e w' ⟨rfl, ⟨nd, rfl⟩⟩) | (go_at_call 19; (with_reducible refine (apply_c 10 x y r 0 R.out _).mono ?_); rintro e w' ⟨rfl, ⟨nd, rfl⟩⟩) | (go_at_call 22; (with_reducible refine (op_c 8 0 y p P.out _).mono ?_); rintro e w' ⟨rfl, ⟨nd, rfl⟩⟩) | (go_at_call 22; (with_reducible refine (op_c 6 p r x S.out _).mono ?_); rintro e w' ⟨rfl, ⟨nd, rfl⟩⟩) | (go_at_call 23; (with_reducible refine (size_c r s A.out C.out _).mono ?_); rintro e w' ⟨rfl, ⟨nd, rfl⟩⟩) | (go_at_call 23; (with_reducible refine (size_c y t B.out D.out _).mono ?_); rintro e w' ⟨rfl, ⟨nd, rfl⟩⟩))
  go_ret
  exact ⟨by first | rfl | (simp; done) | (simp [*]; done), by repeat (first | exact Drawn0.refl _ | apply Drawn0.step)⟩

set_option maxHeartbeats 2000000 in
set_option maxRecDepth 100000 in
theorem walk4 (q p s t : Int) (Q : Aside0 (wv 9 (-2147483648) (-1) = (q, 0))) (R : Aside0 (wv 10 (-2147483648) (-1) = (0, 0))) (P : Aside0 ((wv 8 q (-1)).1 = p)) (S : Aside0 ((wv 6 p 0).1 = -2147483648)) (A : Aside0 (s = ((0 : Int).natAbs : Int))) (B : Aside0 (t = ((-1 : Int).natAbs : Int))) (C : Aside0 (I32 0)) (D : Aside0 (I32 (-1))) (lt : s < t) (b0 : (q == 0) = false) (w : World) : Calls Try.prog 4 #[.int .i32 (-2147483648), .int .i32 (-1)] w fun e w' => e = .returned (.bool true) ∧ Drawn0 w w' := by
  go_enter Try.func4, Try.ntmps4
  go_wp2_with (first | (go_at_call 21; (with_reducible refine (awake_c _).mono ?_); rintro e w' ⟨rfl, ⟨nd, rfl⟩⟩) | (go_at_call 19; (with_reducible refine (apply_c 9 (-2147483648) (-1) q 0 Q.out _).mono ?_); rintro e w' ⟨rfl, ⟨nd, rfl⟩⟩) | (go_at_call 19; (with_reducible refine (apply_c 10 (-2147483648) (-1) 0 0 R.out _).mono ?_); rintro e w' ⟨rfl, ⟨nd, rfl⟩⟩) | (go_at_call 22; (with_reducible refine (op_c 8 q (-1) p P.out _).mono ?_); rintro e w' ⟨rfl, ⟨nd, rfl⟩⟩) | (go_at_call 22; (with_reducible refine (op_c 6 p 0 (-2147483648) S.out _).mono ?_); rintro e w' ⟨rfl, ⟨nd, rfl⟩⟩) | (go_at_call 23; (with_reducible refine (size_c 0 s A.out C.out _).mono ?_); rintro e w' ⟨rfl, ⟨nd, rfl⟩⟩) | (go_at_call 23; (with_reducible refine (size_c (-1) t B.out D.out _).mono ?_); rintro e w' ⟨rfl, ⟨nd, rfl⟩⟩))
  go_ret
  exact ⟨by first | rfl | (simp; done) | (simp [*]; done), by repeat (first | exact Drawn0.refl _ | apply Drawn0.step)⟩

set_option maxHeartbeats 2000000 in
set_option maxRecDepth 100000 in
theorem walk5 (x y q p s t : Int) (Q : Aside0 (wv 9 x y = (q, 0))) (R : Aside0 (wv 10 x y = (0, 0))) (P : Aside0 ((wv 8 q y).1 = p)) (S : Aside0 ((wv 6 p 0).1 = x)) (A : Aside0 (s = ((0 : Int).natAbs : Int))) (B : Aside0 (t = ((y : Int).natAbs : Int))) (C : Aside0 (I32 0)) (D : Aside0 (I32 y)) (lt : s < t) (b0 : (y == 0) = false) (b1 : (q == 0) = false) (b2 : (x == -2147483648) = false) (b3 : decide (q < 0) = false) (b4 : decide (x < 0) = true) (b5 : decide (y < 0) = true) (w : World) : Calls Try.prog 4 #[.int .i32 x, .int .i32 y] w fun e w' => e = .returned (.bool true) ∧ Drawn0 w w' := by
  go_enter Try.func4, Try.ntmps4
  go_wp2_with (first | (go_at_call 21; (with_reducible refine (awake_c _).mono ?_); rintro e w' ⟨rfl, ⟨nd, rfl⟩⟩) | (go_at_call 19; (with_reducible refine (apply_c 9 x y q 0 Q.out _).mono ?_); rintro e w' ⟨rfl, ⟨nd, rfl⟩⟩) | (go_at_call 19; (with_reducible refine (apply_c 10 x y 0 0 R.out _).mono ?_); rintro e w' ⟨rfl, ⟨nd, rfl⟩⟩) | (go_at_call 22; (with_reducible refine (op_c 8 q y p P.out _).mono ?_); rintro e w' ⟨rfl, ⟨nd, rfl⟩⟩) | (go_at_call 22; (with_reducible refine (op_c 6 p 0 x S.out _).mono ?_); rintro e w' ⟨rfl, ⟨nd, rfl⟩⟩) | (go_at_call 23; (with_reducible refine (size_c 0 s A.out C.out _).mono ?_); rintro e w' ⟨rfl, ⟨nd, rfl⟩⟩) | (go_at_call 23; (with_reducible refine (size_c y t B.out D.out _).mono ?_); rintro e w' ⟨rfl, ⟨nd, rfl⟩⟩))
  go_ret
  exact ⟨by first | rfl | (simp; done) | (simp [*]; done), by repeat (first | exact Drawn0.refl _ | apply Drawn0.step)⟩

set_option maxHeartbeats 2000000 in
set_option maxRecDepth 100000 in
theorem walk6 (x y q r p s t : Int) (Q : Aside0 (wv 9 x y = (q, 0))) (R : Aside0 (wv 10 x y = (r, 0))) (P : Aside0 ((wv 8 q y).1 = p)) (S : Aside0 ((wv 6 p r).1 = x)) (A : Aside0 (s = ((r : Int).natAbs : Int))) (B : Aside0 (t = ((y : Int).natAbs : Int))) (C : Aside0 (I32 r)) (D : Aside0 (I32 y)) (lt : s < t) (b0 : (y == 0) = false) (b1 : (q == 0) = false) (b2 : (x == -2147483648) = false) (b3 : decide (q < 0) = false) (b4 : decide (x < 0) = true) (b5 : decide (y < 0) = true) (b6 : (r == 0) = false) (b7 : decide (r < 0) = true) (w : World) : Calls Try.prog 4 #[.int .i32 x, .int .i32 y] w fun e w' => e = .returned (.bool true) ∧ Drawn0 w w' := by
  go_enter Try.func4, Try.ntmps4
  go_wp2_with (first | (go_at_call 21; (with_reducible refine (awake_c _).mono ?_); rintro e w' ⟨rfl, ⟨nd, rfl⟩⟩) | (go_at_call 19; (with_reducible refine (apply_c 9 x y q 0 Q.out _).mono ?_); rintro e w' ⟨rfl, ⟨nd, rfl⟩⟩) | (go_at_call 19; (with_reducible refine (apply_c 10 x y r 0 R.out _).mono ?_); rintro e w' ⟨rfl, ⟨nd, rfl⟩⟩) | (go_at_call 22; (with_reducible refine (op_c 8 q y p P.out _).mono ?_); rintro e w' ⟨rfl, ⟨nd, rfl⟩⟩) | (go_at_call 22; (with_reducible refine (op_c 6 p r x S.out _).mono ?_); rintro e w' ⟨rfl, ⟨nd, rfl⟩⟩) | (go_at_call 23; (with_reducible refine (size_c r s A.out C.out _).mono ?_); rintro e w' ⟨rfl, ⟨nd, rfl⟩⟩) | (go_at_call 23; (with_reducible refine (size_c y t B.out D.out _).mono ?_); rintro e w' ⟨rfl, ⟨nd, rfl⟩⟩))
  go_ret
  exact ⟨by first | rfl | (simp; done) | (simp [*]; done), by repeat (first | exact Drawn0.refl _ | apply Drawn0.step)⟩

set_option maxHeartbeats 2000000 in
set_option maxRecDepth 100000 in
theorem walk7 (x y q p s t : Int) (Q : Aside0 (wv 9 x y = (q, 0))) (R : Aside0 (wv 10 x y = (0, 0))) (P : Aside0 ((wv 8 q y).1 = p)) (S : Aside0 ((wv 6 p 0).1 = x)) (A : Aside0 (s = ((0 : Int).natAbs : Int))) (B : Aside0 (t = ((y : Int).natAbs : Int))) (C : Aside0 (I32 0)) (D : Aside0 (I32 y)) (lt : s < t) (b0 : (y == 0) = false) (b1 : (q == 0) = false) (b2 : (x == -2147483648) = false) (b3 : decide (q < 0) = true) (b4 : decide (x < 0) = false) (b5 : decide (y < 0) = true) (w : World) : Calls Try.prog 4 #[.int .i32 x, .int .i32 y] w fun e w' => e = .returned (.bool true) ∧ Drawn0 w w' := by
  go_enter Try.func4, Try.ntmps4
  go_wp2_with (first | (go_at_call 21; (with_reducible refine (awake_c _).mono ?_); rintro e w' ⟨rfl, ⟨nd, rfl⟩⟩) | (go_at_call 19; (with_reducible refine (apply_c 9 x y q 0 Q.out _).mono ?_); rintro e w' ⟨rfl, ⟨nd, rfl⟩⟩) | (go_at_call 19; (with_reducible refine (apply_c 10 x y 0 0 R.out _).mono ?_); rintro e w' ⟨rfl, ⟨nd, rfl⟩⟩) | (go_at_call 22; (with_reducible refine (op_c 8 q y p P.out _).mono ?_); rintro e w' ⟨rfl, ⟨nd, rfl⟩⟩) | (go_at_call 22; (with_reducible refine (op_c 6 p 0 x S.out _).mono ?_); rintro e w' ⟨rfl, ⟨nd, rfl⟩⟩) | (go_at_call 23; (with_reducible refine (size_c 0 s A.out C.out _).mono ?_); rintro e w' ⟨rfl, ⟨nd, rfl⟩⟩) | (go_at_call 23; (with_reducible refine (size_c y t B.out D.out _).mono ?_); rintro e w' ⟨rfl, ⟨nd, rfl⟩⟩))
  go_ret
  exact ⟨by first | rfl | (simp; done) | (simp [*]; done), by repeat (first | exact Drawn0.refl _ | apply Drawn0.step)⟩

set_option maxHeartbeats 2000000 in
set_option maxRecDepth 100000 in
theorem walk8 (x y q r p s t : Int) (Q : Aside0 (wv 9 x y = (q, 0))) (R : Aside0 (wv 10 x y = (r, 0))) (P : Aside0 ((wv 8 q y).1 = p)) (S : Aside0 ((wv 6 p r).1 = x)) (A : Aside0 (s = ((r : Int).natAbs : Int))) (B : Aside0 (t = ((y : Int).natAbs : Int))) (C : Aside0 (I32 r)) (D : Aside0 (I32 y)) (lt : s < t) (b0 : (y == 0) = false) (b1 : (q == 0) = false) (b2 : (x == -2147483648) = false) (b3 : decide (q < 0) = true) (b4 : decide (x < 0) = false) (b5 : decide (y < 0) = true) (b6 : (r == 0) = false) (b7 : decide (r < 0) = false) (w : World) : Calls Try.prog 4 #[.int .i32 x, .int .i32 y] w fun e w' => e = .returned (.bool true) ∧ Drawn0 w w' := by
  go_enter Try.func4, Try.ntmps4
  go_wp2_with (first | (go_at_call 21; (with_reducible refine (awake_c _).mono ?_); rintro e w' ⟨rfl, ⟨nd, rfl⟩⟩) | (go_at_call 19; (with_reducible refine (apply_c 9 x y q 0 Q.out _).mono ?_); rintro e w' ⟨rfl, ⟨nd, rfl⟩⟩) | (go_at_call 19; (with_reducible refine (apply_c 10 x y r 0 R.out _).mono ?_); rintro e w' ⟨rfl, ⟨nd, rfl⟩⟩) | (go_at_call 22; (with_reducible refine (op_c 8 q y p P.out _).mono ?_); rintro e w' ⟨rfl, ⟨nd, rfl⟩⟩) | (go_at_call 22; (with_reducible refine (op_c 6 p r x S.out _).mono ?_); rintro e w' ⟨rfl, ⟨nd, rfl⟩⟩) | (go_at_call 23; (with_reducible refine (size_c r s A.out C.out _).mono ?_); rintro e w' ⟨rfl, ⟨nd, rfl⟩⟩) | (go_at_call 23; (with_reducible refine (size_c y t B.out D.out _).mono ?_); rintro e w' ⟨rfl, ⟨nd, rfl⟩⟩))
  go_ret
  exact ⟨by first | rfl | (simp; done) | (simp [*]; done), by repeat (first | exact Drawn0.refl _ | apply Drawn0.step)⟩

set_option maxHeartbeats 2000000 in
set_option maxRecDepth 100000 in
theorem walk9 (y q p s t : Int) (Q : Aside0 (wv 9 (-2147483648) y = (q, 0))) (R : Aside0 (wv 10 (-2147483648) y = (0, 0))) (P : Aside0 ((wv 8 q y).1 = p)) (S : Aside0 ((wv 6 p 0).1 = -2147483648)) (A : Aside0 (s = ((0 : Int).natAbs : Int))) (B : Aside0 (t = ((y : Int).natAbs : Int))) (C : Aside0 (I32 0)) (D : Aside0 (I32 y)) (lt : s < t) (b0 : (y == 0) = false) (b1 : (q == 0) = false) (b2 : (y == -1) = false) (b3 : decide (q < 0) = false) (b4 : decide (y < 0) = true) (w : World) : Calls Try.prog 4 #[.int .i32 (-2147483648), .int .i32 y] w fun e w' => e = .returned (.bool true) ∧ Drawn0 w w' := by
  go_enter Try.func4, Try.ntmps4
  go_wp2_with (first | (go_at_call 21; (with_reducible refine (awake_c _).mono ?_); rintro e w' ⟨rfl, ⟨nd, rfl⟩⟩) | (go_at_call 19; (with_reducible refine (apply_c 9 (-2147483648) y q 0 Q.out _).mono ?_); rintro e w' ⟨rfl, ⟨nd, rfl⟩⟩) | (go_at_call 19; (with_reducible refine (apply_c 10 (-2147483648) y 0 0 R.out _).mono ?_); rintro e w' ⟨rfl, ⟨nd, rfl⟩⟩) | (go_at_call 22; (with_reducible refine (op_c 8 q y p P.out _).mono ?_); rintro e w' ⟨rfl, ⟨nd, rfl⟩⟩) | (go_at_call 22; (with_reducible refine (op_c 6 p 0 (-2147483648) S.out _).mono ?_); rintro e w' ⟨rfl, ⟨nd, rfl⟩⟩) | (go_at_call 23; (with_reducible refine (size_c 0 s A.out C.out _).mono ?_); rintro e w' ⟨rfl, ⟨nd, rfl⟩⟩) | (go_at_call 23; (with_reducible refine (size_c y t B.out D.out _).mono ?_); rintro e w' ⟨rfl, ⟨nd, rfl⟩⟩))
  go_ret
  exact ⟨by first | rfl | (simp; done) | (simp [*]; done), by repeat (first | exact Drawn0.refl _ | apply Drawn0.step)⟩

set_option maxHeartbeats 2000000 in
set_option maxRecDepth 100000 in
theorem walk10 (y q r p s t : Int) (Q : Aside0 (wv 9 (-2147483648) y = (q, 0))) (R : Aside0 (wv 10 (-2147483648) y = (r, 0))) (P : Aside0 ((wv 8 q y).1 = p)) (S : Aside0 ((wv 6 p r).1 = -2147483648)) (A : Aside0 (s = ((r : Int).natAbs : Int))) (B : Aside0 (t = ((y : Int).natAbs : Int))) (C : Aside0 (I32 r)) (D : Aside0 (I32 y)) (lt : s < t) (b0 : (y == 0) = false) (b1 : (q == 0) = false) (b2 : (y == -1) = false) (b3 : decide (q < 0) = false) (b4 : decide (y < 0) = true) (b5 : (r == 0) = false) (b6 : decide (r < 0) = true) (w : World) : Calls Try.prog 4 #[.int .i32 (-2147483648), .int .i32 y] w fun e w' => e = .returned (.bool true) ∧ Drawn0 w w' := by
  go_enter Try.func4, Try.ntmps4
  go_wp2_with (first | (go_at_call 21; (with_reducible refine (awake_c _).mono ?_); rintro e w' ⟨rfl, ⟨nd, rfl⟩⟩) | (go_at_call 19; (with_reducible refine (apply_c 9 (-2147483648) y q 0 Q.out _).mono ?_); rintro e w' ⟨rfl, ⟨nd, rfl⟩⟩) | (go_at_call 19; (with_reducible refine (apply_c 10 (-2147483648) y r 0 R.out _).mono ?_); rintro e w' ⟨rfl, ⟨nd, rfl⟩⟩) | (go_at_call 22; (with_reducible refine (op_c 8 q y p P.out _).mono ?_); rintro e w' ⟨rfl, ⟨nd, rfl⟩⟩) | (go_at_call 22; (with_reducible refine (op_c 6 p r (-2147483648) S.out _).mono ?_); rintro e w' ⟨rfl, ⟨nd, rfl⟩⟩) | (go_at_call 23; (with_reducible refine (size_c r s A.out C.out _).mono ?_); rintro e w' ⟨rfl, ⟨nd, rfl⟩⟩) | (go_at_call 23; (with_reducible refine (size_c y t B.out D.out _).mono ?_); rintro e w' ⟨rfl, ⟨nd, rfl⟩⟩))
  go_ret
  exact ⟨by first | rfl | (simp; done) | (simp [*]; done), by repeat (first | exact Drawn0.refl _ | apply Drawn0.step)⟩

set_option maxHeartbeats 2000000 in
set_option maxRecDepth 100000 in
theorem walk11 (x y q p s t : Int) (Q : Aside0 (wv 9 x y = (q, 0))) (R : Aside0 (wv 10 x y = (0, 0))) (P : Aside0 ((wv 8 q y).1 = p)) (S : Aside0 ((wv 6 p 0).1 = x)) (A : Aside0 (s = ((0 : Int).natAbs : Int))) (B : Aside0 (t = ((y : Int).natAbs : Int))) (C : Aside0 (I32 0)) (D : Aside0 (I32 y)) (lt : s < t) (b0 : (y == 0) = false) (b1 : (q == 0) = false) (b2 : (x == -2147483648) = false) (b3 : decide (q < 0) = true) (b4 : decide (x < 0) = true) (b5 : decide (y < 0) = false) (w : World) : Calls Try.prog 4 #[.int .i32 x, .int .i32 y] w fun e w' => e = .returned (.bool true) ∧ Drawn0 w w' := by
  go_enter Try.func4, Try.ntmps4
  go_wp2_with (first | (go_at_call 21; (with_reducible refine (awake_c _).mono ?_); rintro e w' ⟨rfl, ⟨nd, rfl⟩⟩) | (go_at_call 19; (with_reducible refine (apply_c 9 x y q 0 Q.out _).mono ?_); rintro e w' ⟨rfl, ⟨nd, rfl⟩⟩) | (go_at_call 19; (with_reducible refine (apply_c 10 x y 0 0 R.out _).mono ?_); rintro e w' ⟨rfl, ⟨nd, rfl⟩⟩) | (go_at_call 22; (with_reducible refine (op_c 8 q y p P.out _).mono ?_); rintro e w' ⟨rfl, ⟨nd, rfl⟩⟩) | (go_at_call 22; (with_reducible refine (op_c 6 p 0 x S.out _).mono ?_); rintro e w' ⟨rfl, ⟨nd, rfl⟩⟩) | (go_at_call 23; (with_reducible refine (size_c 0 s A.out C.out _).mono ?_); rintro e w' ⟨rfl, ⟨nd, rfl⟩⟩) | (go_at_call 23; (with_reducible refine (size_c y t B.out D.out _).mono ?_); rintro e w' ⟨rfl, ⟨nd, rfl⟩⟩))
  go_ret
  exact ⟨by first | rfl | (simp; done) | (simp [*]; done), by repeat (first | exact Drawn0.refl _ | apply Drawn0.step)⟩

set_option maxHeartbeats 2000000 in
set_option maxRecDepth 100000 in
theorem walk12 (x y q r p s t : Int) (Q : Aside0 (wv 9 x y = (q, 0))) (R : Aside0 (wv 10 x y = (r, 0))) (P : Aside0 ((wv 8 q y).1 = p)) (S : Aside0 ((wv 6 p r).1 = x)) (A : Aside0 (s = ((r : Int).natAbs : Int))) (B : Aside0 (t = ((y : Int).natAbs : Int))) (C : Aside0 (I32 r)) (D : Aside0 (I32 y)) (lt : s < t) (b0 : (y == 0) = false) (b1 : (q == 0) = false) (b2 : (x == -2147483648) = false) (b3 : decide (q < 0) = true) (b4 : decide (x < 0) = true) (b5 : decide (y < 0) = false) (b6 : (r == 0) = false) (b7 : decide (r < 0) = true) (w : World) : Calls Try.prog 4 #[.int .i32 x, .int .i32 y] w fun e w' => e = .returned (.bool true) ∧ Drawn0 w w' := by
  go_enter Try.func4, Try.ntmps4
  go_wp2_with (first | (go_at_call 21; (with_reducible refine (awake_c _).mono ?_); rintro e w' ⟨rfl, ⟨nd, rfl⟩⟩) | (go_at_call 19; (with_reducible refine (apply_c 9 x y q 0 Q.out _).mono ?_); rintro e w' ⟨rfl, ⟨nd, rfl⟩⟩) | (go_at_call 19; (with_reducible refine (apply_c 10 x y r 0 R.out _).mono ?_); rintro e w' ⟨rfl, ⟨nd, rfl⟩⟩) | (go_at_call 22; (with_reducible refine (op_c 8 q y p P.out _).mono ?_); rintro e w' ⟨rfl, ⟨nd, rfl⟩⟩) | (go_at_call 22; (with_reducible refine (op_c 6 p r x S.out _).mono ?_); rintro e w' ⟨rfl, ⟨nd, rfl⟩⟩) | (go_at_call 23; (with_reducible refine (size_c r s A.out C.out _).mono ?_); rintro e w' ⟨rfl, ⟨nd, rfl⟩⟩) | (go_at_call 23; (with_reducible refine (size_c y t B.out D.out _).mono ?_); rintro e w' ⟨rfl, ⟨nd, rfl⟩⟩))
  go_ret
  exact ⟨by first | rfl | (simp; done) | (simp [*]; done), by repeat (first | exact Drawn0.refl _ | apply Drawn0.step)⟩

set_option maxHeartbeats 2000000 in
set_option maxRecDepth 100000 in
theorem walk13 (x y q p s t : Int) (Q : Aside0 (wv 9 x y = (q, 0))) (R : Aside0 (wv 10 x y = (0, 0))) (P : Aside0 ((wv 8 q y).1 = p)) (S : Aside0 ((wv 6 p 0).1 = x)) (A : Aside0 (s = ((0 : Int).natAbs : Int))) (B : Aside0 (t = ((y : Int).natAbs : Int))) (C : Aside0 (I32 0)) (D : Aside0 (I32 y)) (lt : s < t) (b0 : (y == 0) = false) (b1 : (q == 0) = false) (b2 : (x == -2147483648) = false) (b3 : decide (q < 0) = false) (b4 : decide (x < 0) = false) (b5 : decide (y < 0) = false) (w : World) : Calls Try.prog 4 #[.int .i32 x, .int .i32 y] w fun e w' => e = .returned (.bool true) ∧ Drawn0 w w' := by
  go_enter Try.func4, Try.ntmps4
  go_wp2_with (first | (go_at_call 21; (with_reducible refine (awake_c _).mono ?_); rintro e w' ⟨rfl, ⟨nd, rfl⟩⟩) | (go_at_call 19; (with_reducible refine (apply_c 9 x y q 0 Q.out _).mono ?_); rintro e w' ⟨rfl, ⟨nd, rfl⟩⟩) | (go_at_call 19; (with_reducible refine (apply_c 10 x y 0 0 R.out _).mono ?_); rintro e w' ⟨rfl, ⟨nd, rfl⟩⟩) | (go_at_call 22; (with_reducible refine (op_c 8 q y p P.out _).mono ?_); rintro e w' ⟨rfl, ⟨nd, rfl⟩⟩) | (go_at_call 22; (with_reducible refine (op_c 6 p 0 x S.out _).mono ?_); rintro e w' ⟨rfl, ⟨nd, rfl⟩⟩) | (go_at_call 23; (with_reducible refine (size_c 0 s A.out C.out _).mono ?_); rintro e w' ⟨rfl, ⟨nd, rfl⟩⟩) | (go_at_call 23; (with_reducible refine (size_c y t B.out D.out _).mono ?_); rintro e w' ⟨rfl, ⟨nd, rfl⟩⟩))
  go_ret
  exact ⟨by first | rfl | (simp; done) | (simp [*]; done), by repeat (first | exact Drawn0.refl _ | apply Drawn0.step)⟩

set_option maxHeartbeats 2000000 in
set_option maxRecDepth 100000 in
theorem walk14 (x y q r p s t : Int) (Q : Aside0 (wv 9 x y = (q, 0))) (R : Aside0 (wv 10 x y = (r, 0))) (P : Aside0 ((wv 8 q y).1 = p)) (S : Aside0 ((wv 6 p r).1 = x)) (A : Aside0 (s = ((r : Int).natAbs : Int))) (B : Aside0 (t = ((y : Int).natAbs : Int))) (C : Aside0 (I32 r)) (D : Aside0 (I32 y)) (lt : s < t) (b0 : (y == 0) = false) (b1 : (q == 0) = false) (b2 : (x == -2147483648) = false) (b3 : decide (q < 0) = false) (b4 : decide (x < 0) = false) (b5 : decide (y < 0) = false) (b6 : (r == 0) = false) (b7 : decide (r < 0) = false) (w : World) : Calls Try.prog 4 #[.int .i32 x, .int .i32 y] w fun e w' => e = .returned (.bool true) ∧ Drawn0 w w' := by
  go_enter Try.func4, Try.ntmps4
  go_wp2_with (first | (go_at_call 21; (with_reducible refine (awake_c _).mono ?_); rintro e w' ⟨rfl, ⟨nd, rfl⟩⟩) | (go_at_call 19; (with_reducible refine (apply_c 9 x y q 0 Q.out _).mono ?_); rintro e w' ⟨rfl, ⟨nd, rfl⟩⟩) | (go_at_call 19; (with_reducible refine (apply_c 10 x y r 0 R.out _).mono ?_); rintro e w' ⟨rfl, ⟨nd, rfl⟩⟩) | (go_at_call 22; (with_reducible refine (op_c 8 q y p P.out _).mono ?_); rintro e w' ⟨rfl, ⟨nd, rfl⟩⟩) | (go_at_call 22; (with_reducible refine (op_c 6 p r x S.out _).mono ?_); rintro e w' ⟨rfl, ⟨nd, rfl⟩⟩) | (go_at_call 23; (with_reducible refine (size_c r s A.out C.out _).mono ?_); rintro e w' ⟨rfl, ⟨nd, rfl⟩⟩) | (go_at_call 23; (with_reducible refine (size_c y t B.out D.out _).mono ?_); rintro e w' ⟨rfl, ⟨nd, rfl⟩⟩))
  go_ret
  exact ⟨by first | rfl | (simp; done) | (simp [*]; done), by repeat (first | exact Drawn0.refl _ | apply Drawn0.step)⟩

set_option maxHeartbeats 2000000 in
set_option maxRecDepth 100000 in
theorem walk15 (y q p s t : Int) (Q : Aside0 (wv 9 (-2147483648) y = (q, 0))) (R : Aside0 (wv 10 (-2147483648) y = (0, 0))) (P : Aside0 ((wv 8 q y).1 = p)) (S : Aside0 ((wv 6 p 0).1 = -2147483648)) (A : Aside0 (s = ((0 : Int).natAbs : Int))) (B : Aside0 (t = ((y : Int).natAbs : Int))) (C : Aside0 (I32 0)) (D : Aside0 (I32 y)) (lt : s < t) (b0 : (y == 0) = false) (b1 : (q == 0) = false) (b2 : (y == -1) = false) (b3 : decide (q < 0) = true) (b4 : decide (y < 0) = false) (w : World) : Calls Try.prog 4 #[.int .i32 (-2147483648), .int .i32 y] w fun e w' => e = .returned (.bool true) ∧ Drawn0 w w' := by
  go_enter Try.func4, Try.ntmps4
  go_wp2_with (first | (go_at_call 21; (with_reducible refine (awake_c _).mono ?_); rintro e w' ⟨rfl, ⟨nd, rfl⟩⟩) | (go_at_call 19; (with_reducible refine (apply_c 9 (-2147483648) y q 0 Q.out _).mono ?_); rintro e w' ⟨rfl, ⟨nd, rfl⟩⟩) | (go_at_call 19; (with_reducible refine (apply_c 10 (-2147483648) y 0 0 R.out _).mono ?_); rintro e w' ⟨rfl, ⟨nd, rfl⟩⟩) | (go_at_call 22; (with_reducible refine (op_c 8 q y p P.out _).mono ?_); rintro e w' ⟨rfl, ⟨nd, rfl⟩⟩) | (go_at_call 22; (with_reducible refine (op_c 6 p 0 (-2147483648) S.out _).mono ?_); rintro e w' ⟨rfl, ⟨nd, rfl⟩⟩) | (go_at_call 23; (with_reducible refine (size_c 0 s A.out C.out _).mono ?_); rintro e w' ⟨rfl, ⟨nd, rfl⟩⟩) | (go_at_call 23; (with_reducible refine (size_c y t B.out D.out _).mono ?_); rintro e w' ⟨rfl, ⟨nd, rfl⟩⟩))
  go_ret
  exact ⟨by first | rfl | (simp; done) | (simp [*]; done), by repeat (first | exact Drawn0.refl _ | apply Drawn0.step)⟩

set_option maxHeartbeats 2000000 in
set_option maxRecDepth 100000 in
theorem walk16 (y q r p s t : Int) (Q : Aside0 (wv 9 (-2147483648) y = (q, 0))) (R : Aside0 (wv 10 (-2147483648) y = (r, 0))) (P : Aside0 ((wv 8 q y).1 = p)) (S : Aside0 ((wv 6 p r).1 = -2147483648)) (A : Aside0 (s = ((r : Int).natAbs : Int))) (B : Aside0 (t = ((y : Int).natAbs : Int))) (C : Aside0 (I32 r)) (D : Aside0 (I32 y)) (lt : s < t) (b0 : (y == 0) = false) (b1 : (q == 0) = false) (b2 : (y == -1) = false) (b3 : decide (q < 0) = true) (b4 : decide (y < 0) = false) (b5 : (r == 0) = false) (b6 : decide (r < 0) = true) (w : World) : Calls Try.prog 4 #[.int .i32 (-2147483648), .int .i32 y] w fun e w' => e = .returned (.bool true) ∧ Drawn0 w w' := by
  go_enter Try.func4, Try.ntmps4
  go_wp2_with (first | (go_at_call 21; (with_reducible refine (awake_c _).mono ?_); rintro e w' ⟨rfl, ⟨nd, rfl⟩⟩) | (go_at_call 19; (with_reducible refine (apply_c 9 (-2147483648) y q 0 Q.out _).mono ?_); rintro e w' ⟨rfl, ⟨nd, rfl⟩⟩) | (go_at_call 19; (with_reducible refine (apply_c 10 (-2147483648) y r 0 R.out _).mono ?_); rintro e w' ⟨rfl, ⟨nd, rfl⟩⟩) | (go_at_call 22; (with_reducible refine (op_c 8 q y p P.out _).mono ?_); rintro e w' ⟨rfl, ⟨nd, rfl⟩⟩) | (go_at_call 22; (with_reducible refine (op_c 6 p r (-2147483648) S.out _).mono ?_); rintro e w' ⟨rfl, ⟨nd, rfl⟩⟩) | (go_at_call 23; (with_reducible refine (size_c r s A.out C.out _).mono ?_); rintro e w' ⟨rfl, ⟨nd, rfl⟩⟩) | (go_at_call 23; (with_reducible refine (size_c y t B.out D.out _).mono ?_); rintro e w' ⟨rfl, ⟨nd, rfl⟩⟩))
  go_ret
  exact ⟨by first | rfl | (simp; done) | (simp [*]; done), by repeat (first | exact Drawn0.refl _ | apply Drawn0.step)⟩

theorem bf {p : Prop} [Decidable p] (h : ¬ p) : decide p = false := decide_eq_false h
theorem bt {p : Prop} [Decidable p] (h : p) : decide p = true := decide_eq_true h
theorem nf {a b : Int} (h : a ≠ b) : (a == b) = false := beq_eq_false_iff_ne.2 h

/-- The arithmetic: what quotient and remainder are, and their signs. -/
theorem facts (x y : Int) (hx : I32 x) (hy : I32 y) (h0 : y ≠ 0) : ∃ q r p : Int, wv 9 x y = (q, 0) ∧ wv 10 x y = (r, 0) ∧ (wv 8 q y).1 = p ∧ (wv 6 p r).1 = x ∧ (r.natAbs : Int) < y.natAbs ∧ I32 r ∧
    (r = 0 ∨ (r ≠ 0 ∧ (r < 0 ↔ x < 0))) ∧ (q = 0 ∨ (x = -2147483648 ∧ y = -1 ∧ r = 0 ∧ q ≠ 0) ∨ (q ≠ 0 ∧ ¬ (x = -2147483648 ∧ y = -1) ∧ (q < 0 ↔ ¬ (x < 0 ↔ y < 0)))) := by
  have hb := tdiv_bound x y
  have hm := Int.tmod_add_mul_tdiv x y
  have hl : (x.tmod y).natAbs < y.natAbs := by
    rw [Int.natAbs_tmod]; exact Nat.mod_lt _ (by omega)
  have hrs : x.tmod y = 0 ∨ (x.tmod y ≠ 0 ∧ (x.tmod y < 0 ↔ x < 0)) := by
    by_cases c : x.tmod y = 0
    · exact .inl c
    · refine .inr ⟨c, ?_⟩
      by_cases d : x < 0
      · have : 0 ≤ (-x).tmod y := Int.tmod_nonneg _ (by omega)
        rw [Int.neg_tmod] at this
        omega
      · have : 0 ≤ x.tmod y := Int.tmod_nonneg _ (by omega)
        omega
  have hqs : x.tdiv y = 0 ∨ (x.tdiv y < 0 ↔ ¬ (x < 0 ↔ y < 0)) := by
    by_cases c : x.tdiv y = 0
    · exact .inl c
    · refine .inr ?_
      by_cases d : x < 0
      · by_cases e : y < 0
        · have : 0 ≤ x.tdiv y := by rw [← Int.neg_tdiv_neg]; exact Int.tdiv_nonneg (by omega) (by omega)
          omega
        · have : 0 ≤ -(x.tdiv y) := by rw [← Int.neg_tdiv]; exact Int.tdiv_nonneg (by omega) (by omega)
          omega
      · by_cases e : y < 0
        · have : 0 ≤ -(x.tdiv y) := by rw [← Int.tdiv_neg]; exact Int.tdiv_nonneg (by omega) (by omega)
          omega
        · have : 0 ≤ x.tdiv y := Int.tdiv_nonneg (by omega) (by omega)
          omega
  have hx' := hx
  have hy' := hy
  unfold I32 at hx' hy'
  have hr : I32 (x.tmod y) := by unfold I32; omega
  have h9 : wv 9 x y = (wrap32 (x.tdiv y), 0) := by simp [wv, h0]
  have h10 : wv 10 x y = (x.tmod y, 0) := by simp [wv, h0]
  refine ⟨_, _, _, h9, h10, rfl, ?_, by omega, hr, hrs, ?_⟩
  · show wrap32 (wrap32 (wrap32 (x.tdiv y) * y) + x.tmod y) = x
    have e : wrap32 (wrap32 (wrap32 (x.tdiv y) * y) + x.tmod y) = wrap32 (x.tdiv y * y + x.tmod y) := by
      apply w32_congr
      rw [Int.add_emod, w32_emod, Int.mul_emod, w32_emod, ← Int.mul_emod, ← Int.add_emod]
    rw [e, Int.mul_comm, Int.add_comm, hm, w32 hx]
  · by_cases c : x = -2147483648 ∧ y = -1
    · obtain ⟨rfl, rfl⟩ := c
      exact .inr (.inl ⟨rfl, rfl, rfl, by decide +kernel⟩)
    · have hq : I32 (x.tdiv y) := by
        unfold I32
        by_cases d : x.tdiv y = 2147483648
        · exfalso
          have hy1 : y.natAbs = 1 := by
            by_cases h2 : 2 ≤ y.natAbs
            · have h3 : (x.tdiv y).natAbs = x.natAbs / y.natAbs := Int.natAbs_tdiv x y
              have h4 : x.natAbs / y.natAbs ≤ x.natAbs / 2 := Nat.div_le_div_left h2 (by decide)
              omega
            · omega
          have hy2 : y = 1 ∨ y = -1 := by omega
          rcases hy2 with rfl | rfl
          · rw [Int.tdiv_one] at d; omega
          · rw [Int.tdiv_neg, Int.tdiv_one] at d; omega
        · omega
      rw [w32 hq]
      rcases hqs with h | h
      · exact .inl h
      · by_cases z : x.tdiv y = 0
        · exact .inl z
        · exact .inr (.inr ⟨z, c, h⟩)

theorem walk (x y : Int) (w : World) (wx : (Lit.int .i32 x).wf = true) (wy : (Lit.int .i32 y).wf = true) : Calls Try.prog 4 #[.int .i32 x, .int .i32 y] w fun e w' => e = .returned (.bool true) ∧ Below w.heap.size w w' := by
  suffices hh : Calls Try.prog 4 #[.int .i32 x, .int .i32 y] w fun e w' => e = .returned (.bool true) ∧ Drawn0 w w' from hh.mono fun e w' h => ⟨h.1, h.2.below⟩
  have hx := i32_wf wx
  have hy := i32_wf wy
  by_cases h0 : y = 0
  · subst h0; exact walk_zero x w
  obtain ⟨q, r, p, hq, hr, hp, hs, hl, hir, hrs, hqs⟩ := facts x y hx hy h0
  have n0 := nf h0
  rcases hqs with rfl | ⟨rfl, rfl, rfl, z⟩ | ⟨z, nm, sg⟩
  · rcases hrs with rfl | ⟨nr, sr⟩
    · exact walk1 x y p _ _ ⟨hq⟩ ⟨hr⟩ ⟨hp⟩ ⟨hs⟩ ⟨rfl⟩ ⟨rfl⟩ ⟨hir⟩ ⟨hy⟩ hl n0 w
    · by_cases c : x < 0
      · exact walk2 x y r p _ _ ⟨hq⟩ ⟨hr⟩ ⟨hp⟩ ⟨hs⟩ ⟨rfl⟩ ⟨rfl⟩ ⟨hir⟩ ⟨hy⟩ hl n0 (nf nr) (bt (by omega)) (bt (by omega)) w
      · exact walk3 x y r p _ _ ⟨hq⟩ ⟨hr⟩ ⟨hp⟩ ⟨hs⟩ ⟨rfl⟩ ⟨rfl⟩ ⟨hir⟩ ⟨hy⟩ hl n0 (nf nr) (bf (by omega)) (bf (by omega)) w
  · exact walk4 q p _ _ ⟨hq⟩ ⟨hr⟩ ⟨hp⟩ ⟨hs⟩ ⟨rfl⟩ ⟨rfl⟩ ⟨hir⟩ ⟨hy⟩ hl (nf z) w
  · by_cases m : x = -2147483648
    · subst m
      have y1 : y ≠ -1 := fun h => nm ⟨rfl, h⟩
      by_cases d : y < 0
      · rcases hrs with rfl | ⟨nr, sr⟩
        · exact walk9 y q p _ _ ⟨hq⟩ ⟨hr⟩ ⟨hp⟩ ⟨hs⟩ ⟨rfl⟩ ⟨rfl⟩ ⟨hir⟩ ⟨hy⟩ hl n0 (nf z) (nf y1) (bf (by omega)) (bt (by omega)) w
        · exact walk10 y q r p _ _ ⟨hq⟩ ⟨hr⟩ ⟨hp⟩ ⟨hs⟩ ⟨rfl⟩ ⟨rfl⟩ ⟨hir⟩ ⟨hy⟩ hl n0 (nf z) (nf y1) (bf (by omega)) (bt (by omega)) (nf nr) (bt (by omega)) w
      · rcases hrs with rfl | ⟨nr, sr⟩
        · exact walk15 y q p _ _ ⟨hq⟩ ⟨hr⟩ ⟨hp⟩ ⟨hs⟩ ⟨rfl⟩ ⟨rfl⟩ ⟨hir⟩ ⟨hy⟩ hl n0 (nf z) (nf y1) (bt (by omega)) (bf (by omega)) w
        · exact walk16 y q r p _ _ ⟨hq⟩ ⟨hr⟩ ⟨hp⟩ ⟨hs⟩ ⟨rfl⟩ ⟨rfl⟩ ⟨hir⟩ ⟨hy⟩ hl n0 (nf z) (nf y1) (bt (by omega)) (bf (by omega)) (nf nr) (bt (by omega)) w
    · by_cases c : x < 0
      · by_cases d : y < 0
        · rcases hrs with rfl | ⟨nr, sr⟩
          · exact walk5 x y q p _ _ ⟨hq⟩ ⟨hr⟩ ⟨hp⟩ ⟨hs⟩ ⟨rfl⟩ ⟨rfl⟩ ⟨hir⟩ ⟨hy⟩ hl n0 (nf z) (nf m) (bf (by omega)) (bt (by omega)) (bt (by omega)) w
          · exact walk6 x y q r p _ _ ⟨hq⟩ ⟨hr⟩ ⟨hp⟩ ⟨hs⟩ ⟨rfl⟩ ⟨rfl⟩ ⟨hir⟩ ⟨hy⟩ hl n0 (nf z) (nf m) (bf (by omega)) (bt (by omega)) (bt (by omega)) (nf nr) (bt (by omega)) w
        · rcases hrs with rfl | ⟨nr, sr⟩
          · exact walk11 x y q p _ _ ⟨hq⟩ ⟨hr⟩ ⟨hp⟩ ⟨hs⟩ ⟨rfl⟩ ⟨rfl⟩ ⟨hir⟩ ⟨hy⟩ hl n0 (nf z) (nf m) (bt (by omega)) (bt (by omega)) (bf (by omega)) w
          · exact walk12 x y q r p _ _ ⟨hq⟩ ⟨hr⟩ ⟨hp⟩ ⟨hs⟩ ⟨rfl⟩ ⟨rfl⟩ ⟨hir⟩ ⟨hy⟩ hl n0 (nf z) (nf m) (bt (by omega)) (bt (by omega)) (bf (by omega)) (nf nr) (bt (by omega)) w
      · by_cases d : y < 0
        · rcases hrs with rfl | ⟨nr, sr⟩
          · exact walk7 x y q p _ _ ⟨hq⟩ ⟨hr⟩ ⟨hp⟩ ⟨hs⟩ ⟨rfl⟩ ⟨rfl⟩ ⟨hir⟩ ⟨hy⟩ hl n0 (nf z) (nf m) (bt (by omega)) (bf (by omega)) (bt (by omega)) w
          · exact walk8 x y q r p _ _ ⟨hq⟩ ⟨hr⟩ ⟨hp⟩ ⟨hs⟩ ⟨rfl⟩ ⟨rfl⟩ ⟨hir⟩ ⟨hy⟩ hl n0 (nf z) (nf m) (bt (by omega)) (bf (by omega)) (bt (by omega)) (nf nr) (bf (by omega)) w
        · rcases hrs with rfl | ⟨nr, sr⟩
          · exact walk13 x y q p _ _ ⟨hq⟩ ⟨hr⟩ ⟨hp⟩ ⟨hs⟩ ⟨rfl⟩ ⟨rfl⟩ ⟨hir⟩ ⟨hy⟩ hl n0 (nf z) (nf m) (bf (by omega)) (bf (by omega)) (bf (by omega)) w
          · exact walk14 x y q r p _ _ ⟨hq⟩ ⟨hr⟩ ⟨hp⟩ ⟨hs⟩ ⟨rfl⟩ ⟨rfl⟩ ⟨hir⟩ ⟨hy⟩ hl n0 (nf z) (nf m) (bf (by omega)) (bf (by omega)) (bf (by omega)) (nf nr) (bf (by omega)) w

end Go.Proofs.Ytoalomjmmlnclaa.Divides
