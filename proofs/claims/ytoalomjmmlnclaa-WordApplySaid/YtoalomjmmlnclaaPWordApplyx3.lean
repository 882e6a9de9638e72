-- PRINTED BY print.sh 35421559b90ae4d0a3588c463048766b98c2df88dd9212a6774a882060cdf62d: not written by this session
import Derived.Test.YtoalomjmmlnclaaPWordApplyx0
import Derived.Test.YtoalomjmmlnclaaPWordApplyx1
import Derived.Test.YtoalomjmmlnclaaPWordApplyx2
namespace Go.Proofs.Ytoalomjmmlnclaa.PWordApply
open Go.RowKit Go.Proofs.YtoalomjmmlnclaaW.PrintWords Go.Proofs.YtoalomjmmlnclaaW.PrintLast Go.Proofs.YtoalomjmmlnclaaW.PrintMore
attribute [local go_sem] max2_int min2_int max_two min_two max_three min_three max_four min_four   -- for this text's walks alone
set_option linter.unusedVariables false
set_option linter.unusedSimpArgs false

/-! ### ontimeref03_Apply: function 20 -/
mutual
def ontimeref03_Apply.j0 : Nat → Int → Int → Int → Int → Int → Int → Bool → Option (Int × Int)
  | 0, _, _, _, _, _, _, _ => none
  | k + 1, x0, x1, x2, x8, x9, x15, x34 => if x34 = true then (if x9 = 0 then (some (0, 9)) else ((ontimeref03_Wrap.f (wrap64 (Int.tdiv x8 x9))).bind fun t121 => (if x0 = 10 then ((ontimeref03_Wrap.f (wrap64 (x8 - (wrap64 ((wrap64 (t121)) * x9))))).bind fun t122 => (some (t122, 0))) else (some (t121, 0))))) else (if x15 = 11 then (ontimeref03_Apply.j1 k x0 x1 x2 x8 x9 x15 (x15 == 11)) else (if x15 = 12 then (ontimeref03_Apply.j1 k x0 x1 x2 x8 x9 x15 (x15 == 12)) else (ontimeref03_Apply.j1 k x0 x1 x2 x8 x9 x15 (x15 == 13))))
def ontimeref03_Apply.j1 : Nat → Int → Int → Int → Int → Int → Int → Bool → Option (Int × Int)
  | 0, _, _, _, _, _, _, _ => none
  | k + 1, x0, x1, x2, x8, x9, x15, x53 => if x53 = true then ((ontimeref03_bits.f k x0 x1 x2).bind fun t123 => (some (t123, 0))) else (if x15 = 14 then (ontimeref03_Apply.j2 k x0 x1 x2 x8 x9 x15 (x15 == 14)) else (ontimeref03_Apply.j2 k x0 x1 x2 x8 x9 x15 (x15 == 15)))
def ontimeref03_Apply.j2 : Nat → Int → Int → Int → Int → Int → Int → Bool → Option (Int × Int)
  | 0, _, _, _, _, _, _, _ => none
  | k + 1, x0, x1, x2, x8, x9, x15, x61 => if x61 = true then ((ontimeref03_count.f x2).bind fun t124 => ((ontimeref03_Shift.f k x1 t124 (x0 == 14)).bind fun t125 => (some (t125, 0)))) else (if x15 = 16 then ((ontimeref03_truth.f (x8 == x9)).bind fun t126 => (some (t126, 0))) else (if x15 = 17 then ((ontimeref03_truth.f (x8 != x9)).bind fun t127 => (some (t127, 0))) else (if x15 = 18 then ((ontimeref03_truth.f (decide (x8 < x9))).bind fun t128 => (some (t128, 0))) else (if x15 = 19 then ((ontimeref03_truth.f (decide (x8 ≤ x9))).bind fun t129 => (some (t129, 0))) else (if x15 = 20 then ((ontimeref03_truth.f (decide (x8 > x9))).bind fun t130 => (some (t130, 0))) else (if x15 = 21 then ((ontimeref03_truth.f (decide (x8 ≥ x9))).bind fun t131 => (some (t131, 0))) else (if x15 = 22 then (if x8 = 0 then ((ontimeref03_truth.f false).bind fun t132 => (some (t132, 0))) else ((ontimeref03_truth.f (x9 != 0)).bind fun t133 => (some (t133, 0)))) else (if x15 = 23 then (if x8 = 0 then ((ontimeref03_truth.f (x9 != 0)).bind fun t134 => (some (t134, 0))) else ((ontimeref03_truth.f true).bind fun t135 => (some (t135, 0)))) else (some (0, 1))))))))))
end
def ontimeref03_Apply.f (k : Nat) (a0 : Int) (a1 : Int) (a2 : Int) : Option (Int × Int) := if a0 = 6 then ((ontimeref03_Wrap.f (wrap64 ((wrap64 (a1)) + (wrap64 (a2))))).bind fun t118 => (some (t118, 0))) else (if a0 = 7 then ((ontimeref03_Wrap.f (wrap64 ((wrap64 (a1)) - (wrap64 (a2))))).bind fun t119 => (some (t119, 0))) else (if a0 = 8 then ((ontimeref03_Wrap.f (wrap64 ((wrap64 (a1)) * (wrap64 (a2))))).bind fun t120 => (some (t120, 0))) else (if a0 = 9 then (ontimeref03_Apply.j0 k a0 a1 a2 (wrap64 (a1)) (wrap64 (a2)) a0 (a0 == 9)) else (ontimeref03_Apply.j0 k a0 a1 a2 (wrap64 (a1)) (wrap64 (a2)) a0 (a0 == 10)))))
theorem ontimeref03_Apply.mono_l : ∀ k, (∀ y0 y1 y2 y3 y4 y5 y6, LeO (ontimeref03_Apply.j0 k y0 y1 y2 y3 y4 y5 y6) (ontimeref03_Apply.j0 (k + 1) y0 y1 y2 y3 y4 y5 y6)) ∧ (∀ y0 y1 y2 y3 y4 y5 y6, LeO (ontimeref03_Apply.j1 k y0 y1 y2 y3 y4 y5 y6) (ontimeref03_Apply.j1 (k + 1) y0 y1 y2 y3 y4 y5 y6)) ∧ (∀ y0 y1 y2 y3 y4 y5 y6, LeO (ontimeref03_Apply.j2 k y0 y1 y2 y3 y4 y5 y6) (ontimeref03_Apply.j2 (k + 1) y0 y1 y2 y3 y4 y5 y6))
  | 0 => ⟨fun _ _ _ _ _ _ _ r h => by simp [ontimeref03_Apply.j0] at h, fun _ _ _ _ _ _ _ r h => by simp [ontimeref03_Apply.j1] at h, fun _ _ _ _ _ _ _ r h => by simp [ontimeref03_Apply.j2] at h⟩
  | k + 1 => by
    obtain ⟨ih0, ih1, ih2⟩ := ontimeref03_Apply.mono_l k
    refine ⟨?_, ?_, ?_⟩
    · intro y0 y1 y2 y3 y4 y5 y6
      unfold ontimeref03_Apply.j0
      repeat' first
      | (with_reducible exact ih0 _ _ _ _ _ _ _)
      | (with_reducible exact ih1 _ _ _ _ _ _ _)
      | (with_reducible exact ih2 _ _ _ _ _ _ _)
      | (with_reducible exact ontimeref03_Shift.mono _ _ _ _)
      | (with_reducible exact ontimeref03_bits.mono _ _ _ _)
      | (with_reducible exact LeO.refl _)
      | (with_reducible exact LeO.none _)
      | (with_reducible refine LeO.ite ?_ ?_)
      | (with_reducible refine LeO.bind ?_ (fun _ => ?_))
      | exact ih0 _ _ _ _ _ _ _
      | exact ih1 _ _ _ _ _ _ _
      | exact ih2 _ _ _ _ _ _ _
      | exact ontimeref03_Shift.mono _ _ _ _
      | exact ontimeref03_bits.mono _ _ _ _
      | exact LeO.none _
      | refine LeO.ite ?_ ?_
      | refine LeO.bind ?_ (fun _ => ?_)
    · intro y0 y1 y2 y3 y4 y5 y6
      unfold ontimeref03_Apply.j1
      repeat' first
      | (with_reducible exact ih0 _ _ _ _ _ _ _)
      | (with_reducible exact ih1 _ _ _ _ _ _ _)
      | (with_reducible exact ih2 _ _ _ _ _ _ _)
      | (with_reducible exact ontimeref03_Shift.mono _ _ _ _)
      | (with_reducible exact ontimeref03_bits.mono _ _ _ _)
      | (with_reducible exact LeO.refl _)
      | (with_reducible exact LeO.none _)
      | (with_reducible refine LeO.ite ?_ ?_)
      | (with_reducible refine LeO.bind ?_ (fun _ => ?_))
      | exact ih0 _ _ _ _ _ _ _
      | exact ih1 _ _ _ _ _ _ _
      | exact ih2 _ _ _ _ _ _ _
      | exact ontimeref03_Shift.mono _ _ _ _
      | exact ontimeref03_bits.mono _ _ _ _
      | exact LeO.none _
      | refine LeO.ite ?_ ?_
      | refine LeO.bind ?_ (fun _ => ?_)
    · intro y0 y1 y2 y3 y4 y5 y6
      unfold ontimeref03_Apply.j2
      repeat' first
      | (with_reducible exact ih0 _ _ _ _ _ _ _)
      | (with_reducible exact ih1 _ _ _ _ _ _ _)
      | (with_reducible exact ih2 _ _ _ _ _ _ _)
      | (with_reducible exact ontimeref03_Shift.mono _ _ _ _)
      | (with_reducible exact ontimeref03_bits.mono _ _ _ _)
      | (with_reducible exact LeO.refl _)
      | (with_reducible exact LeO.none _)
      | (with_reducible refine LeO.ite ?_ ?_)
      | (with_reducible refine LeO.bind ?_ (fun _ => ?_))
      | exact ih0 _ _ _ _ _ _ _
      | exact ih1 _ _ _ _ _ _ _
      | exact ih2 _ _ _ _ _ _ _
      | exact ontimeref03_Shift.mono _ _ _ _
      | exact ontimeref03_bits.mono _ _ _ _
      | exact LeO.none _
      | refine LeO.ite ?_ ?_
      | refine LeO.bind ?_ (fun _ => ?_)
theorem ontimeref03_Apply.mono : ∀ a0 a1 a2 k, LeO (ontimeref03_Apply.f k a0 a1 a2) (ontimeref03_Apply.f (k + 1) a0 a1 a2) := by
  intro a0 a1 a2 k
  obtain ⟨ih0, ih1, ih2⟩ := ontimeref03_Apply.mono_l k
  unfold ontimeref03_Apply.f
  repeat' first
      | (with_reducible exact ih0 _ _ _ _ _ _ _)
      | (with_reducible exact ih1 _ _ _ _ _ _ _)
      | (with_reducible exact ih2 _ _ _ _ _ _ _)
      | (with_reducible exact ontimeref03_Shift.mono _ _ _ _)
      | (with_reducible exact ontimeref03_bits.mono _ _ _ _)
      | (with_reducible exact LeO.refl _)
      | (with_reducible exact LeO.none _)
      | (with_reducible refine LeO.ite ?_ ?_)
      | (with_reducible refine LeO.bind ?_ (fun _ => ?_))
      | exact ih0 _ _ _ _ _ _ _
      | exact ih1 _ _ _ _ _ _ _
      | exact ih2 _ _ _ _ _ _ _
      | exact ontimeref03_Shift.mono _ _ _ _
      | exact ontimeref03_bits.mono _ _ _ _
      | exact LeO.none _
      | refine LeO.ite ?_ ?_
      | refine LeO.bind ?_ (fun _ => ?_)
set_option maxHeartbeats 8000000 in
set_option maxRecDepth 100000 in
theorem ontimeref03_Apply.calls (k : Nat) (a0 : Int) (a1 : Int) (a2 : Int) (r1 : Int) (r2 : Int) (w : World) (h : ontimeref03_Apply.f k a0 a1 a2 = some (r1, r2)) :
    Calls Try.prog 20 #[.int .u8 a0, .int .i32 a1, .int .i32 a2] w fun e w' => e = .returned (.tuple #[.int .i32 r1, .int .i64 r2]) ∧ Drawn0 w w' := by
  have H : (if a0 = 6 then ((ontimeref03_Wrap.f (wrap64 ((wrap64 (a1)) + (wrap64 (a2))))).bind fun t118 => (some (t118, 0))) else (if a0 = 7 then ((ontimeref03_Wrap.f (wrap64 ((wrap64 (a1)) - (wrap64 (a2))))).bind fun t119 => (some (t119, 0))) else (if a0 = 8 then ((ontimeref03_Wrap.f (wrap64 ((wrap64 (a1)) * (wrap64 (a2))))).bind fun t120 => (some (t120, 0))) else (if a0 = 9 then (ontimeref03_Apply.j0 k a0 a1 a2 (wrap64 (a1)) (wrap64 (a2)) a0 (a0 == 9)) else (ontimeref03_Apply.j0 k a0 a1 a2 (wrap64 (a1)) (wrap64 (a2)) a0 (a0 == 10)))))) = some (r1, r2) := h
  clear h
  by_cases c4 : a0 = 6
  · rw [if_pos c4] at H
    have c4b0 : (a0 == 6) = true := beq_iff_eq.mpr c4
    have c4b1 : (a0 != 6) = false := bne_eq_false_iff_eq.mpr c4
    clear c4
    replace H := Option.bind_eq_some_iff.mp H
    obtain ⟨t118, A50, H⟩ := H
    replace H : (some (t118, 0)) = some (r1, r2) := H
    have A5 := Aside0.mk A50
    clear A50
    simp only [Option.some.injEq, Prod.mk.injEq] at H
    obtain ⟨rfl, rfl⟩ := H
    go_enter Try.func20, Try.ntmps20
    go_wp2_with (first | ((with_reducible refine gate_callee (f := 46) rfl ?_); refine goesL_ (some 21) rfl rfl Try.func46 (by kernel_rfl) rfl #[.int .i64 (wrap64 ((wrap64 (a1)) + (wrap64 (a2))))] rfl (by (try simp only [List.map_toArray, List.map_cons, List.map_nil]); first | done | rfl | (simp only [List.length_drop, List.length_take]; rfl)) ?_; (with_reducible refine (ontimeref03_Wrap.calls (wrap64 ((wrap64 (a1)) + (wrap64 (a2)))) t118 _ A5.out).mono ?_); rintro e w' ⟨rfl, ⟨nd, rfl⟩⟩; refine ⟨_, rfl, ?_⟩))
    go_ret2
    exact ⟨by first | rfl | (simp; done) | (simp [*]; done), by repeat (first | exact Drawn0.refl _ | apply Drawn0.step)⟩
  · rw [if_neg c4] at H
    have c4b0 : (a0 == 6) = false := beq_eq_false_iff_ne.mpr c4
    have c4b1 : (a0 != 6) = true := bne_iff_ne.mpr c4
    by_cases c6 : a0 = 7
    · rw [if_pos c6] at H
      have c6b0 : (a0 == 7) = true := beq_iff_eq.mpr c6
      have c6b1 : (a0 != 7) = false := bne_eq_false_iff_eq.mpr c6
      clear c6
      replace H := Option.bind_eq_some_iff.mp H
      obtain ⟨t119, A70, H⟩ := H
      replace H : (some (t119, 0)) = some (r1, r2) := H
      have A7 := Aside0.mk A70
      clear A70
      simp only [Option.some.injEq, Prod.mk.injEq] at H
      obtain ⟨rfl, rfl⟩ := H
      go_enter Try.func20, Try.ntmps20
      go_wp2_with (first | ((with_reducible refine gate_callee (f := 46) rfl ?_); refine goesL_ (some 27) rfl rfl Try.func46 (by kernel_rfl) rfl #[.int .i64 (wrap64 ((wrap64 (a1)) - (wrap64 (a2))))] rfl (by (try simp only [List.map_toArray, List.map_cons, List.map_nil]); first | done | rfl | (simp only [List.length_drop, List.length_take]; rfl)) ?_; (with_reducible refine (ontimeref03_Wrap.calls (wrap64 ((wrap64 (a1)) - (wrap64 (a2)))) t119 _ A7.out).mono ?_); rintro e w' ⟨rfl, ⟨nd, rfl⟩⟩; refine ⟨_, rfl, ?_⟩))
      go_ret2
      exact ⟨by first | rfl | (simp; done) | (simp [*]; done), by repeat (first | exact Drawn0.refl _ | apply Drawn0.step)⟩
    · rw [if_neg c6] at H
      have c6b0 : (a0 == 7) = false := beq_eq_false_iff_ne.mpr c6
      have c6b1 : (a0 != 7) = true := bne_iff_ne.mpr c6
      by_cases c8 : a0 = 8
      · rw [if_pos c8] at H
        have c8b0 : (a0 == 8) = true := beq_iff_eq.mpr c8
        have c8b1 : (a0 != 8) = false := bne_eq_false_iff_eq.mpr c8
        clear c8
        replace H := Option.bind_eq_some_iff.mp H
        obtain ⟨t120, A90, H⟩ := H
        replace H : (some (t120, 0)) = some (r1, r2) := H
        have A9 := Aside0.mk A90
        clear A90
        simp only [Option.some.injEq, Prod.mk.injEq] at H
        obtain ⟨rfl, rfl⟩ := H
        go_enter Try.func20, Try.ntmps20
        go_wp2_with (first | ((with_reducible refine gate_callee (f := 46) rfl ?_); refine goesL_ (some 33) rfl rfl Try.func46 (by kernel_rfl) rfl #[.int .i64 (wrap64 ((wrap64 (a1)) * (wrap64 (a2))))] rfl (by (try simp only [List.map_toArray, List.map_cons, List.map_nil]); first | done | rfl | (simp only [List.length_drop, List.length_take]; rfl)) ?_; (with_reducible refine (ontimeref03_Wrap.calls (wrap64 ((wrap64 (a1)) * (wrap64 (a2)))) t120 _ A9.out).mono ?_); rintro e w' ⟨rfl, ⟨nd, rfl⟩⟩; refine ⟨_, rfl, ?_⟩))
        go_ret2
        exact ⟨by first | rfl | (simp; done) | (simp [*]; done), by repeat (first | exact Drawn0.refl _ | apply Drawn0.step)⟩
      · rw [if_neg c8] at H
        have c8b0 : (a0 == 8) = false := beq_eq_false_iff_ne.mpr c8
        have c8b1 : (a0 != 8) = true := bne_iff_ne.mpr c8
        have HC10 := Aside0.mk H
        clear H
        go_enter Try.func20, Try.ntmps20
        go_upto_if 34 with (fail)
        go_cut [34] (fun v34 wc => ∃ (kq : Nat) (x34_9 : Bool), v34 = .bool x34_9 ∧ Aside0 (ontimeref03_Apply.j0 kq a0 a1 a2 (wrap64 (a1)) (wrap64 (a2)) a0 x34_9 = some (r1, r2)) ∧ Aside0 (kq ≤ k) ∧ Drawn0 w wc)
        case first =>
          have H := HC10.out
          clear HC10
          by_cases c11 : a0 = 9
          · rw [if_pos c11] at H
            have c11b0 : (a0 == 9) = true := beq_iff_eq.mpr c11
            have c11b1 : (a0 != 9) = false := bne_eq_false_iff_eq.mpr c11
            clear c11
            (first | rw [c11b0] | (simp only [i64_w, i32_w]; rw [c11b0]) | skip)
            have H' := Aside0.mk H
            clear H
            go_wp2
            go_meet
            case rel => exact ⟨_, ((a0 == 9)), (by first | rfl | (simp; done) | (simp [*]; done)), H', ⟨by first | omega | exact Nat.le_refl _⟩, by repeat (first | exact Drawn0.refl _ | apply Drawn0.step)⟩
          · rw [if_neg c11] at H
            have c11b0 : (a0 == 9) = false := beq_eq_false_iff_ne.mpr c11
            have c11b1 : (a0 != 9) = true := bne_iff_ne.mpr c11
            (first | rw [c11b0] | (simp only [i64_w, i32_w]; rw [c11b0]) | skip)
            have H' := Aside0.mk H
            clear H
            go_wp2
            go_meet
            case rel => exact ⟨_, ((a0 == 10)), (by first | rfl | (simp; done) | (simp [*]; done)), H', ⟨by first | omega | exact Nat.le_refl _⟩, by repeat (first | exact Drawn0.refl _ | apply Drawn0.step)⟩
        case rest =>
          clear HC10
          try clear c1
          try clear c2
          try clear p2
          try clear c4
          try clear c4b0
          try clear c4b1
          try clear c6
          try clear c6b0
          try clear c6b1
          try clear p6
          try clear c8
          try clear c8b0
          try clear c8b1
          try clear c11
          try clear c11b0
          try clear c11b1
          obtain ⟨kq, x34_9, rfl, HA, HJ9, ⟨mc9, rfl⟩⟩ := hcut
          cases kq with
          | zero => exact absurd HA.out (by simp [ontimeref03_Apply.j0])
          | succ kj9 =>
            have H := HA.out
            clear HA
            simp only [ontimeref03_Apply.j0] at H
            by_cases c12 : x34_9 = true
            · subst c12
              have H1 : (if (wrap64 (a2)) = 0 then (some (0, 9)) else ((ontimeref03_Wrap.f (wrap64 (Int.tdiv (wrap64 (a1)) (wrap64 (a2))))).bind fun t121 => (if a0 = 10 then ((ontimeref03_Wrap.f (wrap64 ((wrap64 (a1)) - (wrap64 ((wrap64 (t121)) * (wrap64 (a2))))))).bind fun t122 => (some (t122, 0))) else (some (t121, 0))))) = some (r1, r2) := by rw [if_pos rfl] at H; exact H
              clear H
              have H := H1
              clear H1
              by_cases c13 : (wrap64 (a2)) = 0
              · rw [if_pos c13] at H
                have c13b0 : ((wrap64 (a2)) == 0) = true := beq_iff_eq.mpr c13
                have c13b1 : ((wrap64 (a2)) != 0) = false := bne_eq_false_iff_eq.mpr c13
                clear c13
                simp only [Option.some.injEq, Prod.mk.injEq] at H
                obtain ⟨rfl, rfl⟩ := H
                go_wp2
                go_ret2
                exact ⟨by first | rfl | (simp; done) | (simp [*]; done), by repeat (first | exact Drawn0.refl _ | apply Drawn0.step)⟩
              · rw [if_neg c13] at H
                have c13b0 : ((wrap64 (a2)) == 0) = false := beq_eq_false_iff_ne.mpr c13
                have c13b1 : ((wrap64 (a2)) != 0) = true := bne_iff_ne.mpr c13
                replace H := Option.bind_eq_some_iff.mp H
                obtain ⟨t121, A140, H⟩ := H
                replace H : (if a0 = 10 then ((ontimeref03_Wrap.f (wrap64 ((wrap64 (a1)) - (wrap64 ((wrap64 (t121)) * (wrap64 (a2))))))).bind fun t122 => (some (t122, 0))) else (some (t121, 0))) = some (r1, r2) := H
                have A14 := Aside0.mk A140
                clear A140
                by_cases c15 : a0 = 10
                · rw [if_pos c15] at H
                  have c15b0 : (a0 == 10) = true := beq_iff_eq.mpr c15
                  have c15b1 : (a0 != 10) = false := bne_eq_false_iff_eq.mpr c15
                  clear c15
                  replace H := Option.bind_eq_some_iff.mp H
                  obtain ⟨t122, A160, H⟩ := H
                  replace H : (some (t122, 0)) = some (r1, r2) := H
                  have A16 := Aside0.mk A160
                  clear A160
                  simp only [Option.some.injEq, Prod.mk.injEq] at H
                  obtain ⟨rfl, rfl⟩ := H
                  go_wp2_with (first | ((with_reducible refine gate_callee (f := 46) rfl ?_); refine goesL_ (some 42) rfl rfl Try.func46 (by kernel_rfl) rfl #[.int .i64 (wrap64 (Int.tdiv (wrap64 (a1)) (wrap64 (a2))))] rfl (by (try simp only [List.map_toArray, List.map_cons, List.map_nil]); first | done | rfl | (simp only [List.length_drop, List.length_take]; rfl)) ?_; (with_reducible refine (ontimeref03_Wrap.calls (wrap64 (Int.tdiv (wrap64 (a1)) (wrap64 (a2)))) t121 _ A14.out).mono ?_); rintro e w' ⟨rfl, ⟨nd, rfl⟩⟩; refine ⟨_, rfl, ?_⟩) | ((with_reducible refine gate_callee (f := 46) rfl ?_); refine goesL_ (some 51) rfl rfl Try.func46 (by kernel_rfl) rfl #[.int .i64 (wrap64 ((wrap64 (a1)) - (wrap64 ((wrap64 (t121)) * (wrap64 (a2))))))] rfl (by (try simp only [List.map_toArray, List.map_cons, List.map_nil]); first | done | rfl | (simp only [List.length_drop, List.length_take]; rfl)) ?_; (with_reducible refine (ontimeref03_Wrap.calls (wrap64 ((wrap64 (a1)) - (wrap64 ((wrap64 (t121)) * (wrap64 (a2)))))) t122 _ A16.out).mono ?_); rintro e w' ⟨rfl, ⟨nd, rfl⟩⟩; refine ⟨_, rfl, ?_⟩))
                  go_ret2
                  exact ⟨by first | rfl | (simp; done) | (simp [*]; done), by repeat (first | exact Drawn0.refl _ | apply Drawn0.step)⟩
                · rw [if_neg c15] at H
                  have c15b0 : (a0 == 10) = false := beq_eq_false_iff_ne.mpr c15
                  have c15b1 : (a0 != 10) = true := bne_iff_ne.mpr c15
                  simp only [Option.some.injEq, Prod.mk.injEq] at H
                  obtain ⟨rfl, rfl⟩ := H
                  go_wp2_with (first | ((with_reducible refine gate_callee (f := 46) rfl ?_); refine goesL_ (some 42) rfl rfl Try.func46 (by kernel_rfl) rfl #[.int .i64 (wrap64 (Int.tdiv (wrap64 (a1)) (wrap64 (a2))))] rfl (by (try simp only [List.map_toArray, List.map_cons, List.map_nil]); first | done | rfl | (simp only [List.length_drop, List.length_take]; rfl)) ?_; (with_reducible refine (ontimeref03_Wrap.calls (wrap64 (Int.tdiv (wrap64 (a1)) (wrap64 (a2)))) t121 _ A14.out).mono ?_); rintro e w' ⟨rfl, ⟨nd, rfl⟩⟩; refine ⟨_, rfl, ?_⟩))
                  go_ret2
                  exact ⟨by first | rfl | (simp; done) | (simp [*]; done), by repeat (first | exact Drawn0.refl _ | apply Drawn0.step)⟩
            · replace c12 := Bool.eq_false_iff.mpr c12
              subst c12
              have H1 : (if a0 = 11 then (ontimeref03_Apply.j1 kj9 a0 a1 a2 (wrap64 (a1)) (wrap64 (a2)) a0 (a0 == 11)) else (if a0 = 12 then (ontimeref03_Apply.j1 kj9 a0 a1 a2 (wrap64 (a1)) (wrap64 (a2)) a0 (a0 == 12)) else (ontimeref03_Apply.j1 kj9 a0 a1 a2 (wrap64 (a1)) (wrap64 (a2)) a0 (a0 == 13)))) = some (r1, r2) := by rw [if_neg (show ¬ (false = true) by decide)] at H; exact H
              clear H
              have H := H1
              clear H1
              have HC17 := Aside0.mk H
              clear H
              go_upto_if 53 with (fail)
              go_cut [53] (fun v53 wc => ∃ (kq : Nat) (x53_16 : Bool), v53 = .bool x53_16 ∧ Aside0 (ontimeref03_Apply.j1 kq a0 a1 a2 (wrap64 (a1)) (wrap64 (a2)) a0 x53_16 = some (r1, r2)) ∧ Aside0 (kq ≤ kj9) ∧ Drawn0 w wc)
              case first =>
                have H := HC17.out
                clear HC17
                by_cases c18 : a0 = 11
                · rw [if_pos c18] at H
                  have c18b0 : (a0 == 11) = true := beq_iff_eq.mpr c18
                  have c18b1 : (a0 != 11) = false := bne_eq_false_iff_eq.mpr c18
                  clear c18
                  (first | rw [c18b0] | (simp only [i64_w, i32_w]; rw [c18b0]) | skip)
                  have H' := Aside0.mk H
                  clear H
                  go_wp2
                  go_meet
                  case rel => exact ⟨_, ((a0 == 11)), (by first | rfl | (simp; done) | (simp [*]; done)), H', ⟨by have := HJ9.out; first | omega | exact Nat.le_refl _⟩, by repeat (first | exact Drawn0.refl _ | apply Drawn0.step)⟩
                · rw [if_neg c18] at H
                  have c18b0 : (a0 == 11) = false := beq_eq_false_iff_ne.mpr c18
                  have c18b1 : (a0 != 11) = true := bne_iff_ne.mpr c18
                  (first | rw [c18b0] | (simp only [i64_w, i32_w]; rw [c18b0]) | skip)
                  by_cases c19 : a0 = 12
                  · rw [if_pos c19] at H
                    have c19b0 : (a0 == 12) = true := beq_iff_eq.mpr c19
                    have c19b1 : (a0 != 12) = false := bne_eq_false_iff_eq.mpr c19
                    clear c19
                    have H' := Aside0.mk H
                    clear H
                    go_wp2
                    go_meet
                    case rel => exact ⟨_, ((a0 == 12)), (by first | rfl | (simp; done) | (simp [*]; done)), H', ⟨by have := HJ9.out; first | omega | exact Nat.le_refl _⟩, by repeat (first | exact Drawn0.refl _ | apply Drawn0.step)⟩
                  · rw [if_neg c19] at H
                    have c19b0 : (a0 == 12) = false := beq_eq_false_iff_ne.mpr c19
                    have c19b1 : (a0 != 12) = true := bne_iff_ne.mpr c19
                    have H' := Aside0.mk H
                    clear H
                    go_wp2
                    go_meet
                    case rel => exact ⟨_, ((a0 == 13)), (by first | rfl | (simp; done) | (simp [*]; done)), H', ⟨by have := HJ9.out; first | omega | exact Nat.le_refl _⟩, by repeat (first | exact Drawn0.refl _ | apply Drawn0.step)⟩
              case rest =>
                clear HC17
                try clear c1
                try clear c2
                try clear p2
                try clear c4
                try clear c4b0
                try clear c4b1
                try clear c6
                try clear c6b0
                try clear c6b1
                try clear p6
                try clear c8
                try clear c8b0
                try clear c8b1
                try clear c9
                try clear c11
                try clear c11b0
                try clear c11b1
                try clear c12
                try clear c13
                try clear c13b0
                try clear c13b1
                try clear c15
                try clear c15b0
                try clear c15b1
                try clear c18
                try clear c18b0
                try clear c18b1
                try clear c19
                try clear c19b0
                try clear c19b1
                try clear p2
                try clear p6
                obtain ⟨kq, x53_16, rfl, HA, HJ16, ⟨mc16, rfl⟩⟩ := hcut
                cases kq with
                | zero => exact absurd HA.out (by simp [ontimeref03_Apply.j1])
                | succ kj16 =>
                  have H := HA.out
                  clear HA
                  simp only [ontimeref03_Apply.j1] at H
                  by_cases c20 : x53_16 = true
                  · subst c20
                    have H1 : ((ontimeref03_bits.f kj16 a0 a1 a2).bind fun t123 => (some (t123, 0))) = some (r1, r2) := by rw [if_pos rfl] at H; exact H
                    clear H
                    have H := H1
                    clear H1
                    replace H := Option.bind_eq_some_iff.mp H
                    obtain ⟨t123, A210, H⟩ := H
                    replace H : (some (t123, 0)) = some (r1, r2) := H
                    have A21 := Aside0.mk A210
                    clear A210
                    simp only [Option.some.injEq, Prod.mk.injEq] at H
                    obtain ⟨rfl, rfl⟩ := H
                    go_wp2_with (first | ((with_reducible refine gate_callee (f := 47) rfl ?_); refine goesL_ (some 60) rfl rfl Try.func47 (by kernel_rfl) rfl #[.int .u8 a0, .int .i32 a1, .int .i32 a2] rfl (by (try simp only [List.map_toArray, List.map_cons, List.map_nil]); first | done | rfl | (simp only [List.length_drop, List.length_take]; rfl)) ?_; (with_reducible refine (ontimeref03_bits.calls kj16 a0 a1 a2 t123 _ A21.out).mono ?_); rintro e w' ⟨rfl, ⟨nd, rfl⟩⟩; refine ⟨_, rfl, ?_⟩))
                    go_ret2
                    exact ⟨by first | rfl | (simp; done) | (simp [*]; done), by repeat (first | exact Drawn0.refl _ | apply Drawn0.step)⟩
                  · replace c20 := Bool.eq_false_iff.mpr c20
                    subst c20
                    have H1 : (if a0 = 14 then (ontimeref03_Apply.j2 kj16 a0 a1 a2 (wrap64 (a1)) (wrap64 (a2)) a0 (a0 == 14)) else (ontimeref03_Apply.j2 kj16 a0 a1 a2 (wrap64 (a1)) (wrap64 (a2)) a0 (a0 == 15))) = some (r1, r2) := by rw [if_neg (show ¬ (false = true) by decide)] at H; exact H
                    clear H
                    have H := H1
                    clear H1
                    have HC22 := Aside0.mk H
                    clear H
                    go_upto_if 61 with (fail)
                    go_cut [61] (fun v61 wc => ∃ (kq : Nat) (x61_21 : Bool), v61 = .bool x61_21 ∧ Aside0 (ontimeref03_Apply.j2 kq a0 a1 a2 (wrap64 (a1)) (wrap64 (a2)) a0 x61_21 = some (r1, r2)) ∧ Aside0 (kq ≤ kj16) ∧ Drawn0 w wc)
                    case first =>
                      have H := HC22.out
                      clear HC22
                      by_cases c23 : a0 = 14
                      · rw [if_pos c23] at H
                        have c23b0 : (a0 == 14) = true := beq_iff_eq.mpr c23
                        have c23b1 : (a0 != 14) = false := bne_eq_false_iff_eq.mpr c23
                        clear c23
                        (first | rw [c23b0] | (simp only [i64_w, i32_w]; rw [c23b0]) | skip)
                        have H' := Aside0.mk H
                        clear H
                        go_wp2
                        go_meet
                        case rel => exact ⟨_, ((a0 == 14)), (by first | rfl | (simp; done) | (simp [*]; done)), H', ⟨by have := HJ9.out; have := HJ16.out; first | omega | exact Nat.le_refl _⟩, by repeat (first | exact Drawn0.refl _ | apply Drawn0.step)⟩
                      · rw [if_neg c23] at H
                        have c23b0 : (a0 == 14) = false := beq_eq_false_iff_ne.mpr c23
                        have c23b1 : (a0 != 14) = true := bne_iff_ne.mpr c23
                        (first | rw [c23b0] | (simp only [i64_w, i32_w]; rw [c23b0]) | skip)
                        have H' := Aside0.mk H
                        clear H
                        go_wp2
                        go_meet
                        case rel => exact ⟨_, ((a0 == 15)), (by first | rfl | (simp; done) | (simp [*]; done)), H', ⟨by have := HJ9.out; have := HJ16.out; first | omega | exact Nat.le_refl _⟩, by repeat (first | exact Drawn0.refl _ | apply Drawn0.step)⟩
                    case rest =>
                      clear HC22
                      try clear c1
                      try clear c2
                      try clear p2
                      try clear c4
                      try clear c4b0
                      try clear c4b1
                      try clear c6
                      try clear c6b0
                      try clear c6b1
                      try clear p6
                      try clear c8
                      try clear c8b0
                      try clear c8b1
                      try clear c9
                      try clear c11
                      try clear c11b0
                      try clear c11b1
                      try clear c12
                      try clear c13
                      try clear c13b0
                      try clear c13b1
                      try clear c15
                      try clear c15b0
                      try clear c15b1
                      try clear c16
                      try clear c18
                      try clear c18b0
                      try clear c18b1
                      try clear c19
                      try clear c19b0
                      try clear c19b1
                      try clear c20
                      try clear c23
                      try clear c23b0
                      try clear c23b1
                      try clear p2
                      try clear p6
                      obtain ⟨kq, x61_21, rfl, HA, HJ21, ⟨mc21, rfl⟩⟩ := hcut
                      cases kq with
                      | zero => exact absurd HA.out (by simp [ontimeref03_Apply.j2])
                      | succ kj21 =>
                        have H := HA.out
                        clear HA
                        simp only [ontimeref03_Apply.j2] at H
                        by_cases c24 : x61_21 = true
                        · subst c24
                          have H1 : ((ontimeref03_count.f a2).bind fun t124 => ((ontimeref03_Shift.f kj21 a1 t124 (a0 == 14)).bind fun t125 => (some (t125, 0)))) = some (r1, r2) := by rw [if_pos rfl] at H; exact H
                          clear H
                          have H := H1
                          clear H1
                          replace H := Option.bind_eq_some_iff.mp H
                          obtain ⟨t124, A250, H⟩ := H
                          replace H : ((ontimeref03_Shift.f kj21 a1 t124 (a0 == 14)).bind fun t125 => (some (t125, 0))) = some (r1, r2) := H
                          have A25 := Aside0.mk A250
                          clear A250
                          replace H := Option.bind_eq_some_iff.mp H
                          obtain ⟨t125, A260, H⟩ := H
                          replace H : (some (t125, 0)) = some (r1, r2) := H
                          have A26 := Aside0.mk A260
                          clear A260
                          simp only [Option.some.injEq, Prod.mk.injEq] at H
                          obtain ⟨rfl, rfl⟩ := H
                          go_wp2_with (first | ((with_reducible refine gate_callee (f := 49) rfl ?_); refine goesL_ (some 66) rfl rfl Try.func49 (by kernel_rfl) rfl #[.int .i32 a2] rfl (by (try simp only [List.map_toArray, List.map_cons, List.map_nil]); first | done | rfl | (simp only [List.length_drop, List.length_take]; rfl)) ?_; (with_reducible refine (ontimeref03_count.calls a2 t124 _ A25.out).mono ?_); rintro e w' ⟨rfl, ⟨nd, rfl⟩⟩; refine ⟨_, rfl, ?_⟩) | ((with_reducible refine gate_callee (f := 48) rfl ?_); refine goesL_ (some 69) rfl rfl Try.func48 (by kernel_rfl) rfl #[.int .i32 a1, .int .i64 t124, .bool (a0 == 14)] rfl (by (try simp only [List.map_toArray, List.map_cons, List.map_nil]); first | done | rfl | (simp only [List.length_drop, List.length_take]; rfl)) ?_; (with_reducible refine (ontimeref03_Shift.calls kj21 a1 t124 (a0 == 14) t125 _ A26.out).mono ?_); rintro e w' ⟨rfl, ⟨nd, rfl⟩⟩; refine ⟨_, rfl, ?_⟩))
                          go_ret2
                          exact ⟨by first | rfl | (simp; done) | (simp [*]; done), by repeat (first | exact Drawn0.refl _ | apply Drawn0.step)⟩
                        · replace c24 := Bool.eq_false_iff.mpr c24
                          subst c24
                          have H1 : (if a0 = 16 then ((ontimeref03_truth.f ((wrap64 (a1)) == (wrap64 (a2)))).bind fun t126 => (some (t126, 0))) else (if a0 = 17 then ((ontimeref03_truth.f ((wrap64 (a1)) != (wrap64 (a2)))).bind fun t127 => (some (t127, 0))) else (if a0 = 18 then ((ontimeref03_truth.f (decide ((wrap64 (a1)) < (wrap64 (a2))))).bind fun t128 => (some (t128, 0))) else (if a0 = 19 then ((ontimeref03_truth.f (decide ((wrap64 (a1)) ≤ (wrap64 (a2))))).bind fun t129 => (some (t129, 0))) else (if a0 = 20 then ((ontimeref03_truth.f (decide ((wrap64 (a1)) > (wrap64 (a2))))).bind fun t130 => (some (t130, 0))) else (if a0 = 21 then ((ontimeref03_truth.f (decide ((wrap64 (a1)) ≥ (wrap64 (a2))))).bind fun t131 => (some (t131, 0))) else (if a0 = 22 then (if (wrap64 (a1)) = 0 then ((ontimeref03_truth.f false).bind fun t132 => (some (t132, 0))) else ((ontimeref03_truth.f ((wrap64 (a2)) != 0)).bind fun t133 => (some (t133, 0)))) else (if a0 = 23 then (if (wrap64 (a1)) = 0 then ((ontimeref03_truth.f ((wrap64 (a2)) != 0)).bind fun t134 => (some (t134, 0))) else ((ontimeref03_truth.f true).bind fun t135 => (some (t135, 0)))) else (some (0, 1)))))))))) = some (r1, r2) := by rw [if_neg (show ¬ (false = true) by decide)] at H; exact H
                          clear H
                          have H := H1
                          clear H1
                          by_cases c27 : a0 = 16
                          · rw [if_pos c27] at H
                            have c27b0 : (a0 == 16) = true := beq_iff_eq.mpr c27
                            have c27b1 : (a0 != 16) = false := bne_eq_false_iff_eq.mpr c27
                            clear c27
                            replace H := Option.bind_eq_some_iff.mp H
                            obtain ⟨t126, A280, H⟩ := H
                            replace H : (some (t126, 0)) = some (r1, r2) := H
                            have A28 := Aside0.mk A280
                            clear A280
                            simp only [Option.some.injEq, Prod.mk.injEq] at H
                            obtain ⟨rfl, rfl⟩ := H
                            go_wp2_with (first | ((with_reducible refine gate_callee (f := 50) rfl ?_); refine goesL_ (some 75) rfl rfl Try.func50 (by kernel_rfl) rfl #[.bool ((wrap64 (a1)) == (wrap64 (a2)))] rfl (by (try simp only [List.map_toArray, List.map_cons, List.map_nil]); first | done | rfl | (simp only [List.length_drop, List.length_take]; rfl)) ?_; (with_reducible refine (ontimeref03_truth.calls ((wrap64 (a1)) == (wrap64 (a2))) t126 _ A28.out).mono ?_); rintro e w' ⟨rfl, ⟨nd, rfl⟩⟩; refine ⟨_, rfl, ?_⟩))
                            go_ret2
                            exact ⟨by first | rfl | (simp; done) | (simp [*]; done), by repeat (first | exact Drawn0.refl _ | apply Drawn0.step)⟩
                          · rw [if_neg c27] at H
                            have c27b0 : (a0 == 16) = false := beq_eq_false_iff_ne.mpr c27
                            have c27b1 : (a0 != 16) = true := bne_iff_ne.mpr c27
                            by_cases c29 : a0 = 17
                            · rw [if_pos c29] at H
                              have c29b0 : (a0 == 17) = true := beq_iff_eq.mpr c29
                              have c29b1 : (a0 != 17) = false := bne_eq_false_iff_eq.mpr c29
                              clear c29
                              replace H := Option.bind_eq_some_iff.mp H
                              obtain ⟨t127, A300, H⟩ := H
                              replace H : (some (t127, 0)) = some (r1, r2) := H
                              have A30 := Aside0.mk A300
                              clear A300
                              simp only [Option.some.injEq, Prod.mk.injEq] at H
                              obtain ⟨rfl, rfl⟩ := H
                              go_wp2_with (first | ((with_reducible refine gate_callee (f := 50) rfl ?_); refine goesL_ (some 81) rfl rfl Try.func50 (by kernel_rfl) rfl #[.bool ((wrap64 (a1)) != (wrap64 (a2)))] rfl (by (try simp only [List.map_toArray, List.map_cons, List.map_nil]); first | done | rfl | (simp only [List.length_drop, List.length_take]; rfl)) ?_; (with_reducible refine (ontimeref03_truth.calls ((wrap64 (a1)) != (wrap64 (a2))) t127 _ A30.out).mono ?_); rintro e w' ⟨rfl, ⟨nd, rfl⟩⟩; refine ⟨_, rfl, ?_⟩))
                              go_ret2
                              exact ⟨by first | rfl | (simp; done) | (simp [*]; done), by repeat (first | exact Drawn0.refl _ | apply Drawn0.step)⟩
                            · rw [if_neg c29] at H
                              have c29b0 : (a0 == 17) = false := beq_eq_false_iff_ne.mpr c29
                              have c29b1 : (a0 != 17) = true := bne_iff_ne.mpr c29
                              by_cases c31 : a0 = 18
                              · rw [if_pos c31] at H
                                have c31b0 : (a0 == 18) = true := beq_iff_eq.mpr c31
                                have c31b1 : (a0 != 18) = false := bne_eq_false_iff_eq.mpr c31
                                clear c31
                                replace H := Option.bind_eq_some_iff.mp H
                                obtain ⟨t128, A320, H⟩ := H
                                replace H : (some (t128, 0)) = some (r1, r2) := H
                                have A32 := Aside0.mk A320
                                clear A320
                                simp only [Option.some.injEq, Prod.mk.injEq] at H
                                obtain ⟨rfl, rfl⟩ := H
                                go_wp2_with (first | ((with_reducible refine gate_callee (f := 50) rfl ?_); refine goesL_ (some 87) rfl rfl Try.func50 (by kernel_rfl) rfl #[.bool (decide ((wrap64 (a1)) < (wrap64 (a2))))] rfl (by (try simp only [List.map_toArray, List.map_cons, List.map_nil]); first | done | rfl | (simp only [List.length_drop, List.length_take]; rfl)) ?_; (with_reducible refine (ontimeref03_truth.calls (decide ((wrap64 (a1)) < (wrap64 (a2)))) t128 _ A32.out).mono ?_); rintro e w' ⟨rfl, ⟨nd, rfl⟩⟩; refine ⟨_, rfl, ?_⟩))
                                go_ret2
                                exact ⟨by first | rfl | (simp; done) | (simp [*]; done), by repeat (first | exact Drawn0.refl _ | apply Drawn0.step)⟩
                              · rw [if_neg c31] at H
                                have c31b0 : (a0 == 18) = false := beq_eq_false_iff_ne.mpr c31
                                have c31b1 : (a0 != 18) = true := bne_iff_ne.mpr c31
                                by_cases c33 : a0 = 19
                                · rw [if_pos c33] at H
                                  have c33b0 : (a0 == 19) = true := beq_iff_eq.mpr c33
                                  have c33b1 : (a0 != 19) = false := bne_eq_false_iff_eq.mpr c33
                                  clear c33
                                  replace H := Option.bind_eq_some_iff.mp H
                                  obtain ⟨t129, A340, H⟩ := H
                                  replace H : (some (t129, 0)) = some (r1, r2) := H
                                  have A34 := Aside0.mk A340
                                  clear A340
                                  simp only [Option.some.injEq, Prod.mk.injEq] at H
                                  obtain ⟨rfl, rfl⟩ := H
                                  go_wp2_with (first | ((with_reducible refine gate_callee (f := 50) rfl ?_); refine goesL_ (some 93) rfl rfl Try.func50 (by kernel_rfl) rfl #[.bool (decide ((wrap64 (a1)) ≤ (wrap64 (a2))))] rfl (by (try simp only [List.map_toArray, List.map_cons, List.map_nil]); first | done | rfl | (simp only [List.length_drop, List.length_take]; rfl)) ?_; (with_reducible refine (ontimeref03_truth.calls (decide ((wrap64 (a1)) ≤ (wrap64 (a2)))) t129 _ A34.out).mono ?_); rintro e w' ⟨rfl, ⟨nd, rfl⟩⟩; refine ⟨_, rfl, ?_⟩))
                                  go_ret2
                                  exact ⟨by first | rfl | (simp; done) | (simp [*]; done), by repeat (first | exact Drawn0.refl _ | apply Drawn0.step)⟩
                                · rw [if_neg c33] at H
                                  have c33b0 : (a0 == 19) = false := beq_eq_false_iff_ne.mpr c33
                                  have c33b1 : (a0 != 19) = true := bne_iff_ne.mpr c33
                                  by_cases c35 : a0 = 20
                                  · rw [if_pos c35] at H
                                    have c35b0 : (a0 == 20) = true := beq_iff_eq.mpr c35
                                    have c35b1 : (a0 != 20) = false := bne_eq_false_iff_eq.mpr c35
                                    clear c35
                                    replace H := Option.bind_eq_some_iff.mp H
                                    obtain ⟨t130, A360, H⟩ := H
                                    replace H : (some (t130, 0)) = some (r1, r2) := H
                                    have A36 := Aside0.mk A360
                                    clear A360
                                    simp only [Option.some.injEq, Prod.mk.injEq] at H
                                    obtain ⟨rfl, rfl⟩ := H
                                    go_wp2_with (first | ((with_reducible refine gate_callee (f := 50) rfl ?_); refine goesL_ (some 99) rfl rfl Try.func50 (by kernel_rfl) rfl #[.bool (decide ((wrap64 (a1)) > (wrap64 (a2))))] rfl (by (try simp only [List.map_toArray, List.map_cons, List.map_nil]); first | done | rfl | (simp only [List.length_drop, List.length_take]; rfl)) ?_; (with_reducible refine (ontimeref03_truth.calls (decide ((wrap64 (a1)) > (wrap64 (a2)))) t130 _ A36.out).mono ?_); rintro e w' ⟨rfl, ⟨nd, rfl⟩⟩; refine ⟨_, rfl, ?_⟩))
                                    go_ret2
                                    exact ⟨by first | rfl | (simp; done) | (simp [*]; done), by repeat (first | exact Drawn0.refl _ | apply Drawn0.step)⟩
                                  · rw [if_neg c35] at H
                                    have c35b0 : (a0 == 20) = false := beq_eq_false_iff_ne.mpr c35
                                    have c35b1 : (a0 != 20) = true := bne_iff_ne.mpr c35
                                    by_cases c37 : a0 = 21
                                    · rw [if_pos c37] at H
                                      have c37b0 : (a0 == 21) = true := beq_iff_eq.mpr c37
                                      have c37b1 : (a0 != 21) = false := bne_eq_false_iff_eq.mpr c37
                                      clear c37
                                      replace H := Option.bind_eq_some_iff.mp H
                                      obtain ⟨t131, A380, H⟩ := H
                                      replace H : (some (t131, 0)) = some (r1, r2) := H
                                      have A38 := Aside0.mk A380
                                      clear A380
                                      simp only [Option.some.injEq, Prod.mk.injEq] at H
                                      obtain ⟨rfl, rfl⟩ := H
                                      go_wp2_with (first | ((with_reducible refine gate_callee (f := 50) rfl ?_); refine goesL_ (some 105) rfl rfl Try.func50 (by kernel_rfl) rfl #[.bool (decide ((wrap64 (a1)) ≥ (wrap64 (a2))))] rfl (by (try simp only [List.map_toArray, List.map_cons, List.map_nil]); first | done | rfl | (simp only [List.length_drop, List.length_take]; rfl)) ?_; (with_reducible refine (ontimeref03_truth.calls (decide ((wrap64 (a1)) ≥ (wrap64 (a2)))) t131 _ A38.out).mono ?_); rintro e w' ⟨rfl, ⟨nd, rfl⟩⟩; refine ⟨_, rfl, ?_⟩))
                                      go_ret2
                                      exact ⟨by first | rfl | (simp; done) | (simp [*]; done), by repeat (first | exact Drawn0.refl _ | apply Drawn0.step)⟩
                                    · rw [if_neg c37] at H
                                      have c37b0 : (a0 == 21) = false := beq_eq_false_iff_ne.mpr c37
                                      have c37b1 : (a0 != 21) = true := bne_iff_ne.mpr c37
                                      by_cases c39 : a0 = 22
                                      · rw [if_pos c39] at H
                                        have c39b0 : (a0 == 22) = true := beq_iff_eq.mpr c39
                                        have c39b1 : (a0 != 22) = false := bne_eq_false_iff_eq.mpr c39
                                        clear c39
                                        by_cases c40 : (wrap64 (a1)) = 0
                                        · rw [if_pos c40] at H
                                          have c40b0 : ((wrap64 (a1)) == 0) = true := beq_iff_eq.mpr c40
                                          have c40b1 : ((wrap64 (a1)) != 0) = false := bne_eq_false_iff_eq.mpr c40
                                          clear c40
                                          replace H := Option.bind_eq_some_iff.mp H
                                          obtain ⟨t132, A410, H⟩ := H
                                          replace H : (some (t132, 0)) = some (r1, r2) := H
                                          have A41 := Aside0.mk A410
                                          clear A410
                                          simp only [Option.some.injEq, Prod.mk.injEq] at H
                                          obtain ⟨rfl, rfl⟩ := H
                                          go_wp2_with (first | ((with_reducible refine gate_callee (f := 50) rfl ?_); refine goesL_ (some 114) rfl rfl Try.func50 (by kernel_rfl) rfl #[.bool false] rfl (by (try simp only [List.map_toArray, List.map_cons, List.map_nil]); first | done | rfl | (simp only [List.length_drop, List.length_take]; rfl)) ?_; (with_reducible refine (ontimeref03_truth.calls false t132 _ A41.out).mono ?_); rintro e w' ⟨rfl, ⟨nd, rfl⟩⟩; refine ⟨_, rfl, ?_⟩))
                                          go_ret2
                                          exact ⟨by first | rfl | (simp; done) | (simp [*]; done), by repeat (first | exact Drawn0.refl _ | apply Drawn0.step)⟩
                                        · rw [if_neg c40] at H
                                          have c40b0 : ((wrap64 (a1)) == 0) = false := beq_eq_false_iff_ne.mpr c40
                                          have c40b1 : ((wrap64 (a1)) != 0) = true := bne_iff_ne.mpr c40
                                          replace H := Option.bind_eq_some_iff.mp H
                                          obtain ⟨t133, A420, H⟩ := H
                                          replace H : (some (t133, 0)) = some (r1, r2) := H
                                          have A42 := Aside0.mk A420
                                          clear A420
                                          simp only [Option.some.injEq, Prod.mk.injEq] at H
                                          obtain ⟨rfl, rfl⟩ := H
                                          go_wp2_with (first | ((with_reducible refine gate_callee (f := 50) rfl ?_); refine goesL_ (some 114) rfl rfl Try.func50 (by kernel_rfl) rfl #[.bool ((wrap64 (a2)) != 0)] rfl (by (try simp only [List.map_toArray, List.map_cons, List.map_nil]); first | done | rfl | (simp only [List.length_drop, List.length_take]; rfl)) ?_; (with_reducible refine (ontimeref03_truth.calls ((wrap64 (a2)) != 0) t133 _ A42.out).mono ?_); rintro e w' ⟨rfl, ⟨nd, rfl⟩⟩; refine ⟨_, rfl, ?_⟩))
                                          go_ret2
                                          exact ⟨by first | rfl | (simp; done) | (simp [*]; done), by repeat (first | exact Drawn0.refl _ | apply Drawn0.step)⟩
                                      · rw [if_neg c39] at H
                                        have c39b0 : (a0 == 22) = false := beq_eq_false_iff_ne.mpr c39
                                        have c39b1 : (a0 != 22) = true := bne_iff_ne.mpr c39
                                        by_cases c43 : a0 = 23
                                        · rw [if_pos c43] at H
                                          have c43b0 : (a0 == 23) = true := beq_iff_eq.mpr c43
                                          have c43b1 : (a0 != 23) = false := bne_eq_false_iff_eq.mpr c43
                                          clear c43
                                          by_cases c44 : (wrap64 (a1)) = 0
                                          · rw [if_pos c44] at H
                                            have c44b0 : ((wrap64 (a1)) == 0) = true := beq_iff_eq.mpr c44
                                            have c44b1 : ((wrap64 (a1)) != 0) = false := bne_eq_false_iff_eq.mpr c44
                                            clear c44
                                            replace H := Option.bind_eq_some_iff.mp H
                                            obtain ⟨t134, A450, H⟩ := H
                                            replace H : (some (t134, 0)) = some (r1, r2) := H
                                            have A45 := Aside0.mk A450
                                            clear A450
                                            simp only [Option.some.injEq, Prod.mk.injEq] at H
                                            obtain ⟨rfl, rfl⟩ := H
                                            go_wp2_with (first | ((with_reducible refine gate_callee (f := 50) rfl ?_); refine goesL_ (some 123) rfl rfl Try.func50 (by kernel_rfl) rfl #[.bool ((wrap64 (a2)) != 0)] rfl (by (try simp only [List.map_toArray, List.map_cons, List.map_nil]); first | done | rfl | (simp only [List.length_drop, List.length_take]; rfl)) ?_; (with_reducible refine (ontimeref03_truth.calls ((wrap64 (a2)) != 0) t134 _ A45.out).mono ?_); rintro e w' ⟨rfl, ⟨nd, rfl⟩⟩; refine ⟨_, rfl, ?_⟩))
                                            go_ret2
                                            exact ⟨by first | rfl | (simp; done) | (simp [*]; done), by repeat (first | exact Drawn0.refl _ | apply Drawn0.step)⟩
                                          · rw [if_neg c44] at H
                                            have c44b0 : ((wrap64 (a1)) == 0) = false := beq_eq_false_iff_ne.mpr c44
                                            have c44b1 : ((wrap64 (a1)) != 0) = true := bne_iff_ne.mpr c44
                                            replace H := Option.bind_eq_some_iff.mp H
                                            obtain ⟨t135, A460, H⟩ := H
                                            replace H : (some (t135, 0)) = some (r1, r2) := H
                                            have A46 := Aside0.mk A460
                                            clear A460
                                            simp only [Option.some.injEq, Prod.mk.injEq] at H
                                            obtain ⟨rfl, rfl⟩ := H
                                            go_wp2_with (first | ((with_reducible refine gate_callee (f := 50) rfl ?_); refine goesL_ (some 123) rfl rfl Try.func50 (by kernel_rfl) rfl #[.bool true] rfl (by (try simp only [List.map_toArray, List.map_cons, List.map_nil]); first | done | rfl | (simp only [List.length_drop, List.length_take]; rfl)) ?_; (with_reducible refine (ontimeref03_truth.calls true t135 _ A46.out).mono ?_); rintro e w' ⟨rfl, ⟨nd, rfl⟩⟩; refine ⟨_, rfl, ?_⟩))
                                            go_ret2
                                            exact ⟨by first | rfl | (simp; done) | (simp [*]; done), by repeat (first | exact Drawn0.refl _ | apply Drawn0.step)⟩
                                        · rw [if_neg c43] at H
                                          have c43b0 : (a0 == 23) = false := beq_eq_false_iff_ne.mpr c43
                                          have c43b1 : (a0 != 23) = true := bne_iff_ne.mpr c43
                                          simp only [Option.some.injEq, Prod.mk.injEq] at H
                                          obtain ⟨rfl, rfl⟩ := H
                                          go_wp2
                                          go_ret2
                                          exact ⟨by first | rfl | (simp; done) | (simp [*]; done), by repeat (first | exact Drawn0.refl _ | apply Drawn0.step)⟩

/-! ### ontimelaw03_awake: function 21 -/
def ontimelaw03_awake.f (k : Nat)  : Option (Bool) := (word_Apply.f k 6 2147483647 1).bind fun bt136 => ((word_Apply.f k 10 (-7) 2).bind fun bt138 => ((word_Apply.f k 15 (-7) 33).bind fun bt140 => (if bt136.2 = 0 then (if bt138.2 = 0 then (if bt140.2 = 0 then (if bt136.1 = (-2147483648) then (if bt138.1 = (-1) then (some (bt140.1 == (-4))) else (some false)) else (some false)) else (some false)) else (some false)) else (some false))))
theorem ontimelaw03_awake.mono : ∀ k, LeO (ontimelaw03_awake.f k ) (ontimelaw03_awake.f (k + 1) ) := by
  intro  k
  unfold ontimelaw03_awake.f
  repeat' first
      | (with_reducible exact word_Apply.mono _ _ _ _)
      | (with_reducible exact LeO.refl _)
      | (with_reducible exact LeO.none _)
      | (with_reducible refine LeO.ite ?_ ?_)
      | (with_reducible refine LeO.bind ?_ (fun _ => ?_))
      | exact word_Apply.mono _ _ _ _
      | exact LeO.none _
      | refine LeO.ite ?_ ?_
      | refine LeO.bind ?_ (fun _ => ?_)
set_option maxHeartbeats 8000000 in
set_option maxRecDepth 100000 in
theorem ontimelaw03_awake.calls (k : Nat)  (r : Bool) (w : World) (h : ontimelaw03_awake.f k  = some r) :
    Calls Try.prog 21 #[] w fun e w' => e = .returned (.bool r) ∧ Drawn0 w w' := by
  have H : ((word_Apply.f k 6 2147483647 1).bind fun bt136 => ((word_Apply.f k 10 (-7) 2).bind fun bt138 => ((word_Apply.f k 15 (-7) 33).bind fun bt140 => (if bt136.2 = 0 then (if bt138.2 = 0 then (if bt140.2 = 0 then (if bt136.1 = (-2147483648) then (if bt138.1 = (-1) then (some (bt140.1 == (-4))) else (some false)) else (some false)) else (some false)) else (some false)) else (some false))))) = some r := h
  clear h
  replace H := Option.bind_eq_some_iff.mp H
  obtain ⟨⟨t136, t137⟩, A10, H⟩ := H
  replace H : ((word_Apply.f k 10 (-7) 2).bind fun bt138 => ((word_Apply.f k 15 (-7) 33).bind fun bt140 => (if t137 = 0 then (if bt138.2 = 0 then (if bt140.2 = 0 then (if t136 = (-2147483648) then (if bt138.1 = (-1) then (some (bt140.1 == (-4))) else (some false)) else (some false)) else (some false)) else (some false)) else (some false)))) = some r := H
  have A1 := Aside0.mk A10
  clear A10
  replace H := Option.bind_eq_some_iff.mp H
  obtain ⟨⟨t138, t139⟩, A20, H⟩ := H
  replace H : ((word_Apply.f k 15 (-7) 33).bind fun bt140 => (if t137 = 0 then (if t139 = 0 then (if bt140.2 = 0 then (if t136 = (-2147483648) then (if t138 = (-1) then (some (bt140.1 == (-4))) else (some false)) else (some false)) else (some false)) else (some false)) else (some false))) = some r := H
  have A2 := Aside0.mk A20
  clear A20
  replace H := Option.bind_eq_some_iff.mp H
  obtain ⟨⟨t140, t141⟩, A30, H⟩ := H
  replace H : (if t137 = 0 then (if t139 = 0 then (if t141 = 0 then (if t136 = (-2147483648) then (if t138 = (-1) then (some (t140 == (-4))) else (some false)) else (some false)) else (some false)) else (some false)) else (some false)) = some r := H
  have A3 := Aside0.mk A30
  clear A30
  by_cases c4 : t137 = 0
  · rw [if_pos c4] at H
    have c4b0 : (t137 == 0) = true := beq_iff_eq.mpr c4
    have c4b1 : (t137 != 0) = false := bne_eq_false_iff_eq.mpr c4
    clear c4
    by_cases c5 : t139 = 0
    · rw [if_pos c5] at H
      have c5b0 : (t139 == 0) = true := beq_iff_eq.mpr c5
      have c5b1 : (t139 != 0) = false := bne_eq_false_iff_eq.mpr c5
      clear c5
      by_cases c6 : t141 = 0
      · rw [if_pos c6] at H
        have c6b0 : (t141 == 0) = true := beq_iff_eq.mpr c6
        have c6b1 : (t141 != 0) = false := bne_eq_false_iff_eq.mpr c6
        clear c6
        by_cases c7 : t136 = (-2147483648)
        · rw [if_pos c7] at H
          have c7b0 : (t136 == (-2147483648)) = true := beq_iff_eq.mpr c7
          have c7b1 : (t136 != (-2147483648)) = false := bne_eq_false_iff_eq.mpr c7
          clear c7
          by_cases c8 : t138 = (-1)
          · rw [if_pos c8] at H
            have c8b0 : (t138 == (-1)) = true := beq_iff_eq.mpr c8
            have c8b1 : (t138 != (-1)) = false := bne_eq_false_iff_eq.mpr c8
            clear c8
            obtain rfl := Option.some.inj H
            go_enter Try.func21, Try.ntmps21
            go_wp2_with (first | ((with_reducible refine gate_callee (f := 19) rfl ?_); refine goesL_ (some 8) rfl rfl Try.func19 (by kernel_rfl) rfl #[.int .u8 6, .int .i32 2147483647, .int .i32 1] rfl (by (try simp only [List.map_toArray, List.map_cons, List.map_nil]); first | done | rfl | (simp only [List.length_drop, List.length_take]; rfl)) ?_; (with_reducible refine (word_Apply.calls k 6 2147483647 1 t136 t137 _ A1.out).mono ?_); rintro e w' ⟨rfl, ⟨nd, rfl⟩⟩; refine ⟨_, rfl, ?_⟩) | ((with_reducible refine gate_callee (f := 19) rfl ?_); refine goesL_ (some 12) rfl rfl Try.func19 (by kernel_rfl) rfl #[.int .u8 10, .int .i32 (-7), .int .i32 2] rfl (by (try simp only [List.map_toArray, List.map_cons, List.map_nil]); first | done | rfl | (simp only [List.length_drop, List.length_take]; rfl)) ?_; (with_reducible refine (word_Apply.calls k 10 (-7) 2 t138 t139 _ A2.out).mono ?_); rintro e w' ⟨rfl, ⟨nd, rfl⟩⟩; refine ⟨_, rfl, ?_⟩) | ((with_reducible refine gate_callee (f := 19) rfl ?_); refine goesL_ (some 16) rfl rfl Try.func19 (by kernel_rfl) rfl #[.int .u8 15, .int .i32 (-7), .int .i32 33] rfl (by (try simp only [List.map_toArray, List.map_cons, List.map_nil]); first | done | rfl | (simp only [List.length_drop, List.length_take]; rfl)) ?_; (with_reducible refine (word_Apply.calls k 15 (-7) 33 t140 t141 _ A3.out).mono ?_); rintro e w' ⟨rfl, ⟨nd, rfl⟩⟩; refine ⟨_, rfl, ?_⟩))
            go_ret
            exact ⟨by first | rfl | (simp; done) | (simp [*]; done), by repeat (first | exact Drawn0.refl _ | apply Drawn0.step)⟩
          · rw [if_neg c8] at H
            have c8b0 : (t138 == (-1)) = false := beq_eq_false_iff_ne.mpr c8
            have c8b1 : (t138 != (-1)) = true := bne_iff_ne.mpr c8
            obtain rfl := Option.some.inj H
            go_enter Try.func21, Try.ntmps21
            go_wp2_with (first | ((with_reducible refine gate_callee (f := 19) rfl ?_); refine goesL_ (some 8) rfl rfl Try.func19 (by kernel_rfl) rfl #[.int .u8 6, .int .i32 2147483647, .int .i32 1] rfl (by (try simp only [List.map_toArray, List.map_cons, List.map_nil]); first | done | rfl | (simp only [List.length_drop, List.length_take]; rfl)) ?_; (with_reducible refine (word_Apply.calls k 6 2147483647 1 t136 t137 _ A1.out).mono ?_); rintro e w' ⟨rfl, ⟨nd, rfl⟩⟩; refine ⟨_, rfl, ?_⟩) | ((with_reducible refine gate_callee (f := 19) rfl ?_); refine goesL_ (some 12) rfl rfl Try.func19 (by kernel_rfl) rfl #[.int .u8 10, .int .i32 (-7), .int .i32 2] rfl (by (try simp only [List.map_toArray, List.map_cons, List.map_nil]); first | done | rfl | (simp only [List.length_drop, List.length_take]; rfl)) ?_; (with_reducible refine (word_Apply.calls k 10 (-7) 2 t138 t139 _ A2.out).mono ?_); rintro e w' ⟨rfl, ⟨nd, rfl⟩⟩; refine ⟨_, rfl, ?_⟩) | ((with_reducible refine gate_callee (f := 19) rfl ?_); refine goesL_ (some 16) rfl rfl Try.func19 (by kernel_rfl) rfl #[.int .u8 15, .int .i32 (-7), .int .i32 33] rfl (by (try simp only [List.map_toArray, List.map_cons, List.map_nil]); first | done | rfl | (simp only [List.length_drop, List.length_take]; rfl)) ?_; (with_reducible refine (word_Apply.calls k 15 (-7) 33 t140 t141 _ A3.out).mono ?_); rintro e w' ⟨rfl, ⟨nd, rfl⟩⟩; refine ⟨_, rfl, ?_⟩))
            go_ret
            exact ⟨by first | rfl | (simp; done) | (simp [*]; done), by repeat (first | exact Drawn0.refl _ | apply Drawn0.step)⟩
        · rw [if_neg c7] at H
          have c7b0 : (t136 == (-2147483648)) = false := beq_eq_false_iff_ne.mpr c7
          have c7b1 : (t136 != (-2147483648)) = true := bne_iff_ne.mpr c7
          obtain rfl := Option.some.inj H
          go_enter Try.func21, Try.ntmps21
          go_wp2_with (first | ((with_reducible refine gate_callee (f := 19) rfl ?_); refine goesL_ (some 8) rfl rfl Try.func19 (by kernel_rfl) rfl #[.int .u8 6, .int .i32 2147483647, .int .i32 1] rfl (by (try simp only [List.map_toArray, List.map_cons, List.map_nil]); first | done | rfl | (simp only [List.length_drop, List.length_take]; rfl)) ?_; (with_reducible refine (word_Apply.calls k 6 2147483647 1 t136 t137 _ A1.out).mono ?_); rintro e w' ⟨rfl, ⟨nd, rfl⟩⟩; refine ⟨_, rfl, ?_⟩) | ((with_reducible refine gate_callee (f := 19) rfl ?_); refine goesL_ (some 12) rfl rfl Try.func19 (by kernel_rfl) rfl #[.int .u8 10, .int .i32 (-7), .int .i32 2] rfl (by (try simp only [List.map_toArray, List.map_cons, List.map_nil]); first | done | rfl | (simp only [List.length_drop, List.length_take]; rfl)) ?_; (with_reducible refine (word_Apply.calls k 10 (-7) 2 t138 t139 _ A2.out).mono ?_); rintro e w' ⟨rfl, ⟨nd, rfl⟩⟩; refine ⟨_, rfl, ?_⟩) | ((with_reducible refine gate_callee (f := 19) rfl ?_); refine goesL_ (some 16) rfl rfl Try.func19 (by kernel_rfl) rfl #[.int .u8 15, .int .i32 (-7), .int .i32 33] rfl (by (try simp only [List.map_toArray, List.map_cons, List.map_nil]); first | done | rfl | (simp only [List.length_drop, List.length_take]; rfl)) ?_; (with_reducible refine (word_Apply.calls k 15 (-7) 33 t140 t141 _ A3.out).mono ?_); rintro e w' ⟨rfl, ⟨nd, rfl⟩⟩; refine ⟨_, rfl, ?_⟩))
          go_ret
          exact ⟨by first | rfl | (simp; done) | (simp [*]; done), by repeat (first | exact Drawn0.refl _ | apply Drawn0.step)⟩
      · rw [if_neg c6] at H
        have c6b0 : (t141 == 0) = false := beq_eq_false_iff_ne.mpr c6
        have c6b1 : (t141 != 0) = true := bne_iff_ne.mpr c6
        obtain rfl := Option.some.inj H
        go_enter Try.func21, Try.ntmps21
        go_wp2_with (first | ((with_reducible refine gate_callee (f := 19) rfl ?_); refine goesL_ (some 8) rfl rfl Try.func19 (by kernel_rfl) rfl #[.int .u8 6, .int .i32 2147483647, .int .i32 1] rfl (by (try simp only [List.map_toArray, List.map_cons, List.map_nil]); first | done | rfl | (simp only [List.length_drop, List.length_take]; rfl)) ?_; (with_reducible refine (word_Apply.calls k 6 2147483647 1 t136 t137 _ A1.out).mono ?_); rintro e w' ⟨rfl, ⟨nd, rfl⟩⟩; refine ⟨_, rfl, ?_⟩) | ((with_reducible refine gate_callee (f := 19) rfl ?_); refine goesL_ (some 12) rfl rfl Try.func19 (by kernel_rfl) rfl #[.int .u8 10, .int .i32 (-7), .int .i32 2] rfl (by (try simp only [List.map_toArray, List.map_cons, List.map_nil]); first | done | rfl | (simp only [List.length_drop, List.length_take]; rfl)) ?_; (with_reducible refine (word_Apply.calls k 10 (-7) 2 t138 t139 _ A2.out).mono ?_); rintro e w' ⟨rfl, ⟨nd, rfl⟩⟩; refine ⟨_, rfl, ?_⟩) | ((with_reducible refine gate_callee (f := 19) rfl ?_); refine goesL_ (some 16) rfl rfl Try.func19 (by kernel_rfl) rfl #[.int .u8 15, .int .i32 (-7), .int .i32 33] rfl (by (try simp only [List.map_toArray, List.map_cons, List.map_nil]); first | done | rfl | (simp only [List.length_drop, List.length_take]; rfl)) ?_; (with_reducible refine (word_Apply.calls k 15 (-7) 33 t140 t141 _ A3.out).mono ?_); rintro e w' ⟨rfl, ⟨nd, rfl⟩⟩; refine ⟨_, rfl, ?_⟩))
        go_ret
        exact ⟨by first | rfl | (simp; done) | (simp [*]; done), by repeat (first | exact Drawn0.refl _ | apply Drawn0.step)⟩
    · rw [if_neg c5] at H
      have c5b0 : (t139 == 0) = false := beq_eq_false_iff_ne.mpr c5
      have c5b1 : (t139 != 0) = true := bne_iff_ne.mpr c5
      obtain rfl := Option.some.inj H
      go_enter Try.func21, Try.ntmps21
      go_wp2_with (first | ((with_reducible refine gate_callee (f := 19) rfl ?_); refine goesL_ (some 8) rfl rfl Try.func19 (by kernel_rfl) rfl #[.int .u8 6, .int .i32 2147483647, .int .i32 1] rfl (by (try simp only [List.map_toArray, List.map_cons, List.map_nil]); first | done | rfl | (simp only [List.length_drop, List.length_take]; rfl)) ?_; (with_reducible refine (word_Apply.calls k 6 2147483647 1 t136 t137 _ A1.out).mono ?_); rintro e w' ⟨rfl, ⟨nd, rfl⟩⟩; refine ⟨_, rfl, ?_⟩) | ((with_reducible refine gate_callee (f := 19) rfl ?_); refine goesL_ (some 12) rfl rfl Try.func19 (by kernel_rfl) rfl #[.int .u8 10, .int .i32 (-7), .int .i32 2] rfl (by (try simp only [List.map_toArray, List.map_cons, List.map_nil]); first | done | rfl | (simp only [List.length_drop, List.length_take]; rfl)) ?_; (with_reducible refine (word_Apply.calls k 10 (-7) 2 t138 t139 _ A2.out).mono ?_); rintro e w' ⟨rfl, ⟨nd, rfl⟩⟩; refine ⟨_, rfl, ?_⟩) | ((with_reducible refine gate_callee (f := 19) rfl ?_); refine goesL_ (some 16) rfl rfl Try.func19 (by kernel_rfl) rfl #[.int .u8 15, .int .i32 (-7), .int .i32 33] rfl (by (try simp only [List.map_toArray, List.map_cons, List.map_nil]); first | done | rfl | (simp only [List.length_drop, List.length_take]; rfl)) ?_; (with_reducible refine (word_Apply.calls k 15 (-7) 33 t140 t141 _ A3.out).mono ?_); rintro e w' ⟨rfl, ⟨nd, rfl⟩⟩; refine ⟨_, rfl, ?_⟩))
      go_ret
      exact ⟨by first | rfl | (simp; done) | (simp [*]; done), by repeat (first | exact Drawn0.refl _ | apply Drawn0.step)⟩
  · rw [if_neg c4] at H
    have c4b0 : (t137 == 0) = false := beq_eq_false_iff_ne.mpr c4
    have c4b1 : (t137 != 0) = true := bne_iff_ne.mpr c4
    obtain rfl := Option.some.inj H
    go_enter Try.func21, Try.ntmps21
    go_wp2_with (first | ((with_reducible refine gate_callee (f := 19) rfl ?_); refine goesL_ (some 8) rfl rfl Try.func19 (by kernel_rfl) rfl #[.int .u8 6, .int .i32 2147483647, .int .i32 1] rfl (by (try simp only [List.map_toArray, List.map_cons, List.map_nil]); first | done | rfl | (simp only [List.length_drop, List.length_take]; rfl)) ?_; (with_reducible refine (word_Apply.calls k 6 2147483647 1 t136 t137 _ A1.out).mono ?_); rintro e w' ⟨rfl, ⟨nd, rfl⟩⟩; refine ⟨_, rfl, ?_⟩) | ((with_reducible refine gate_callee (f := 19) rfl ?_); refine goesL_ (some 12) rfl rfl Try.func19 (by kernel_rfl) rfl #[.int .u8 10, .int .i32 (-7), .int .i32 2] rfl (by (try simp only [List.map_toArray, List.map_cons, List.map_nil]); first | done | rfl | (simp only [List.length_drop, List.length_take]; rfl)) ?_; (with_reducible refine (word_Apply.calls k 10 (-7) 2 t138 t139 _ A2.out).mono ?_); rintro e w' ⟨rfl, ⟨nd, rfl⟩⟩; refine ⟨_, rfl, ?_⟩) | ((with_reducible refine gate_callee (f := 19) rfl ?_); refine goesL_ (some 16) rfl rfl Try.func19 (by kernel_rfl) rfl #[.int .u8 15, .int .i32 (-7), .int .i32 33] rfl (by (try simp only [List.map_toArray, List.map_cons, List.map_nil]); first | done | rfl | (simp only [List.length_drop, List.length_take]; rfl)) ?_; (with_reducible refine (word_Apply.calls k 15 (-7) 33 t140 t141 _ A3.out).mono ?_); rintro e w' ⟨rfl, ⟨nd, rfl⟩⟩; refine ⟨_, rfl, ?_⟩))
    go_ret
    exact ⟨by first | rfl | (simp; done) | (simp [*]; done), by repeat (first | exact Drawn0.refl _ | apply Drawn0.step)⟩

/-! ### ontimelaw03_WordApply: function 3 -/
def ontimelaw03_WordApply.f (k : Nat) (a0 : Int) (a1 : Int) (a2 : Int) : Option (Bool) := (word_Apply.f k a0 a1 a2).bind fun bt142 => ((ontimeref03_Apply.f k a0 a1 a2).bind fun bt144 => ((ontimelaw03_awake.f k).bind fun t146 => (if t146 = true then (if bt142.1 = bt144.1 then (some (bt142.2 == bt144.2)) else (some false)) else (some false))))
theorem ontimelaw03_WordApply.mono : ∀ a0 a1 a2 k, LeO (ontimelaw03_WordApply.f k a0 a1 a2) (ontimelaw03_WordApply.f (k + 1) a0 a1 a2) := by
  intro a0 a1 a2 k
  unfold ontimelaw03_WordApply.f
  repeat' first
      | (with_reducible exact ontimelaw03_awake.mono _)
      | (with_reducible exact ontimeref03_Apply.mono _ _ _ _)
      | (with_reducible exact word_Apply.mono _ _ _ _)
      | (with_reducible exact LeO.refl _)
      | (with_reducible exact LeO.none _)
      | (with_reducible refine LeO.ite ?_ ?_)
      | (with_reducible refine LeO.bind ?_ (fun _ => ?_))
      | exact ontimelaw03_awake.mono _
      | exact ontimeref03_Apply.mono _ _ _ _
      | exact word_Apply.mono _ _ _ _
      | exact LeO.none _
      | refine LeO.ite ?_ ?_
      | refine LeO.bind ?_ (fun _ => ?_)
set_option maxHeartbeats 8000000 in
set_option maxRecDepth 100000 in
theorem ontimelaw03_WordApply.calls (k : Nat) (a0 : Int) (a1 : Int) (a2 : Int) (r : Bool) (w : World) (h : ontimelaw03_WordApply.f k a0 a1 a2 = some r) :
    Calls Try.prog 3 #[.int .u8 a0, .int .i32 a1, .int .i32 a2] w fun e w' => e = .returned (.bool r) ∧ Drawn0 w w' := by
  have H : ((word_Apply.f k a0 a1 a2).bind fun bt142 => ((ontimeref03_Apply.f k a0 a1 a2).bind fun bt144 => ((ontimelaw03_awake.f k).bind fun t146 => (if t146 = true then (if bt142.1 = bt144.1 then (some (bt142.2 == bt144.2)) else (some false)) else (some false))))) = some r := h
  clear h
  replace H := Option.bind_eq_some_iff.mp H
  obtain ⟨⟨t142, t143⟩, A40, H⟩ := H
  replace H : ((ontimeref03_Apply.f k a0 a1 a2).bind fun bt144 => ((ontimelaw03_awake.f k).bind fun t146 => (if t146 = true then (if t142 = bt144.1 then (some (t143 == bt144.2)) else (some false)) else (some false)))) = some r := H
  have A4 := Aside0.mk A40
  clear A40
  replace H := Option.bind_eq_some_iff.mp H
  obtain ⟨⟨t144, t145⟩, A50, H⟩ := H
  replace H : ((ontimelaw03_awake.f k).bind fun t146 => (if t146 = true then (if t142 = t144 then (some (t143 == t145)) else (some false)) else (some false))) = some r := H
  have A5 := Aside0.mk A50
  clear A50
  replace H := Option.bind_eq_some_iff.mp H
  obtain ⟨t146, A60, H⟩ := H
  replace H : (if t146 = true then (if t142 = t144 then (some (t143 == t145)) else (some false)) else (some false)) = some r := H
  have A6 := Aside0.mk A60
  clear A60
  by_cases c7 : t146 = true
  · subst c7
    have H1 : (if t142 = t144 then (some (t143 == t145)) else (some false)) = some r := by rw [if_pos rfl] at H; exact H
    clear H
    have H := H1
    clear H1
    by_cases c8 : t142 = t144
    · rw [if_pos c8] at H
      have c8b0 : (t142 == t144) = true := beq_iff_eq.mpr c8
      have c8b1 : (t142 != t144) = false := bne_eq_false_iff_eq.mpr c8
      clear c8
      obtain rfl := Option.some.inj H
      go_enter Try.func3, Try.ntmps3
      go_wp2_with (first | ((with_reducible refine gate_callee (f := 19) rfl ?_); refine goesL_ (some 15) rfl rfl Try.func19 (by kernel_rfl) rfl #[.int .u8 a0, .int .i32 a1, .int .i32 a2] rfl (by (try simp only [List.map_toArray, List.map_cons, List.map_nil]); first | done | rfl | (simp only [List.length_drop, List.length_take]; rfl)) ?_; (with_reducible refine (word_Apply.calls k a0 a1 a2 t142 t143 _ A4.out).mono ?_); rintro e w' ⟨rfl, ⟨nd, rfl⟩⟩; refine ⟨_, rfl, ?_⟩) | ((with_reducible refine gate_callee (f := 20) rfl ?_); refine goesL_ (some 22) rfl rfl Try.func20 (by kernel_rfl) rfl #[.int .u8 a0, .int .i32 a1, .int .i32 a2] rfl (by (try simp only [List.map_toArray, List.map_cons, List.map_nil]); first | done | rfl | (simp only [List.length_drop, List.length_take]; rfl)) ?_; (with_reducible refine (ontimeref03_Apply.calls k a0 a1 a2 t144 t145 _ A5.out).mono ?_); rintro e w' ⟨rfl, ⟨nd, rfl⟩⟩; refine ⟨_, rfl, ?_⟩) | ((with_reducible refine gate_callee (f := 21) rfl ?_); refine goesL_ (some 25) rfl rfl Try.func21 (by kernel_rfl) rfl #[] rfl (by (try simp only [List.map_toArray, List.map_cons, List.map_nil]); first | done | rfl | (simp only [List.length_drop, List.length_take]; rfl)) ?_; (with_reducible refine (ontimelaw03_awake.calls k  true _ A6.out).mono ?_); rintro e w' ⟨rfl, ⟨nd, rfl⟩⟩; refine ⟨_, rfl, ?_⟩))
      go_ret
      exact ⟨by first | rfl | (simp; done) | (simp [*]; done), by repeat (first | exact Drawn0.refl _ | apply Drawn0.step)⟩
    · rw [if_neg c8] at H
      have c8b0 : (t142 == t144) = false := beq_eq_false_iff_ne.mpr c8
      have c8b1 : (t142 != t144) = true := bne_iff_ne.mpr c8
      obtain rfl := Option.some.inj H
      go_enter Try.func3, Try.ntmps3
      go_wp2_with (first | ((with_reducible refine gate_callee (f := 19) rfl ?_); refine goesL_ (some 15) rfl rfl Try.func19 (by kernel_rfl) rfl #[.int .u8 a0, .int .i32 a1, .int .i32 a2] rfl (by (try simp only [List.map_toArray, List.map_cons, List.map_nil]); first | done | rfl | (simp only [List.length_drop, List.length_take]; rfl)) ?_; (with_reducible refine (word_Apply.calls k a0 a1 a2 t142 t143 _ A4.out).mono ?_); rintro e w' ⟨rfl, ⟨nd, rfl⟩⟩; refine ⟨_, rfl, ?_⟩) | ((with_reducible refine gate_callee (f := 20) rfl ?_); refine goesL_ (some 22) rfl rfl Try.func20 (by kernel_rfl) rfl #[.int .u8 a0, .int .i32 a1, .int .i32 a2] rfl (by (try simp only [List.map_toArray, List.map_cons, List.map_nil]); first | done | rfl | (simp only [List.length_drop, List.length_take]; rfl)) ?_; (with_reducible refine (ontimeref03_Apply.calls k a0 a1 a2 t144 t145 _ A5.out).mono ?_); rintro e w' ⟨rfl, ⟨nd, rfl⟩⟩; refine ⟨_, rfl, ?_⟩) | ((with_reducible refine gate_callee (f := 21) rfl ?_); refine goesL_ (some 25) rfl rfl Try.func21 (by kernel_rfl) rfl #[] rfl (by (try simp only [List.map_toArray, List.map_cons, List.map_nil]); first | done | rfl | (simp only [List.length_drop, List.length_take]; rfl)) ?_; (with_reducible refine (ontimelaw03_awake.calls k  true _ A6.out).mono ?_); rintro e w' ⟨rfl, ⟨nd, rfl⟩⟩; refine ⟨_, rfl, ?_⟩))
      go_ret
      exact ⟨by first | rfl | (simp; done) | (simp [*]; done), by repeat (first | exact Drawn0.refl _ | apply Drawn0.step)⟩
  · replace c7 := Bool.eq_false_iff.mpr c7
    subst c7
    have H1 : (some false) = some r := by rw [if_neg (show ¬ (false = true) by decide)] at H; exact H
    clear H
    have H := H1
    clear H1
    obtain rfl := Option.some.inj H
    go_enter Try.func3, Try.ntmps3
    go_wp2_with (first | ((with_reducible refine gate_callee (f := 19) rfl ?_); refine goesL_ (some 15) rfl rfl Try.func19 (by kernel_rfl) rfl #[.int .u8 a0, .int .i32 a1, .int .i32 a2] rfl (by (try simp only [List.map_toArray, List.map_cons, List.map_nil]); first | done | rfl | (simp only [List.length_drop, List.length_take]; rfl)) ?_; (with_reducible refine (word_Apply.calls k a0 a1 a2 t142 t143 _ A4.out).mono ?_); rintro e w' ⟨rfl, ⟨nd, rfl⟩⟩; refine ⟨_, rfl, ?_⟩) | ((with_reducible refine gate_callee (f := 20) rfl ?_); refine goesL_ (some 22) rfl rfl Try.func20 (by kernel_rfl) rfl #[.int .u8 a0, .int .i32 a1, .int .i32 a2] rfl (by (try simp only [List.map_toArray, List.map_cons, List.map_nil]); first | done | rfl | (simp only [List.length_drop, List.length_take]; rfl)) ?_; (with_reducible refine (ontimeref03_Apply.calls k a0 a1 a2 t144 t145 _ A5.out).mono ?_); rintro e w' ⟨rfl, ⟨nd, rfl⟩⟩; refine ⟨_, rfl, ?_⟩) | ((with_reducible refine gate_callee (f := 21) rfl ?_); refine goesL_ (some 25) rfl rfl Try.func21 (by kernel_rfl) rfl #[] rfl (by (try simp only [List.map_toArray, List.map_cons, List.map_nil]); first | done | rfl | (simp only [List.length_drop, List.length_take]; rfl)) ?_; (with_reducible refine (ontimelaw03_awake.calls k  false _ A6.out).mono ?_); rintro e w' ⟨rfl, ⟨nd, rfl⟩⟩; refine ⟨_, rfl, ?_⟩))
    go_ret
    exact ⟨by first | rfl | (simp; done) | (simp [*]; done), by repeat (first | exact Drawn0.refl _ | apply Drawn0.step)⟩

/-- THE ONE PURE STATEMENT of ontimelaw03_WordApply: yours. -/
def ontimelaw03_WordApply.Pure : Prop := ∀ (a0 : Int) (a1 : Int) (a2 : Int), (Lit.int .u8 a0).wf = true → (Lit.int .i32 a1).wf = true → (Lit.int .i32 a2).wf = true → ∃ k, ontimelaw03_WordApply.f k a0 a1 a2 = some true
theorem ontimelaw03_WordApply.walk (P : ontimelaw03_WordApply.Pure) (a0 : Int) (a1 : Int) (a2 : Int) (w : World) (w0 : (Lit.int .u8 a0).wf = true) (w1 : (Lit.int .i32 a1).wf = true) (w2 : (Lit.int .i32 a2).wf = true) :
    Calls Try.prog 3 #[.int .u8 a0, .int .i32 a1, .int .i32 a2] w fun e w' => e = .returned (.bool true) ∧ Below w.heap.size w w' := by
  obtain ⟨k, h⟩ := P a0 a1 a2 w0 w1 w2
  refine (ontimelaw03_WordApply.calls k a0 a1 a2 true w h).mono ?_
  rintro e w' ⟨rfl, hd⟩
  exact ⟨rfl, hd.below⟩

end Go.Proofs.Ytoalomjmmlnclaa.PWordApply
