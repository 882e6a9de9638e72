-- PRINTED BY print.sh 35421559b90ae4d0a3588c463048766b98c2df88dd9212a6774a882060cdf62d: not written by this session
import Derived.Test.YtoalomjmmlnclaaPWordRingx0
namespace Go.Proofs.Ytoalomjmmlnclaa.PWordRing
open Go.RowKit Go.Proofs.YtoalomjmmlnclaaW.PrintWords Go.Proofs.YtoalomjmmlnclaaW.PrintLast Go.Proofs.YtoalomjmmlnclaaW.PrintMore
attribute [local go_sem] max2_int min2_int max_two min_two max_three min_three max_four min_four   -- for this text's walks alone
set_option linter.unusedVariables false
set_option linter.unusedSimpArgs false

/-! ### word_truth: function 51 -/
def word_truth.f (a0 : Bool) : Option (Int) := if a0 = true then (some 1) else (some 0)
set_option maxHeartbeats 8000000 in
set_option maxRecDepth 100000 in
theorem word_truth.calls (a0 : Bool) (r : Int) (w : World) (h : word_truth.f a0 = some r) :
    Calls Try.prog 51 #[.bool a0] w fun e w' => e = .returned (.int .i32 r) ∧ Drawn0 w w' := by
  have H : (if a0 = true then (some 1) else (some 0)) = some r := h
  clear h
  by_cases c2 : a0 = true
  · subst c2
    have H1 : (some 1) = some r := by rw [if_pos rfl] at H; exact H
    clear H
    have H := H1
    clear H1
    obtain rfl := Option.some.inj H
    go_enter Try.func51, Try.ntmps51
    go_wp2
    go_ret
    exact ⟨by first | rfl | (simp; done) | (simp [*]; done), by repeat (first | exact Drawn0.refl _ | apply Drawn0.step)⟩
  · replace c2 := Bool.eq_false_iff.mpr c2
    subst c2
    have H1 : (some 0) = some r := by rw [if_neg (show ¬ (false = true) by decide)] at H; exact H
    clear H
    have H := H1
    clear H1
    obtain rfl := Option.some.inj H
    go_enter Try.func51, Try.ntmps51
    go_wp2
    go_ret
    exact ⟨by first | rfl | (simp; done) | (simp [*]; done), by repeat (first | exact Drawn0.refl _ | apply Drawn0.step)⟩

/-! ### word_compare: function 45 -/
def word_compare.f (a0 : Int) (a1 : Int) (a2 : Int) : Option (Int × Bool) := if a0 = 16 then ((word_truth.f (a1 == a2)).bind fun t101 => (some (t101, true))) else (if a0 = 17 then ((word_truth.f (a1 != a2)).bind fun t102 => (some (t102, true))) else (if a0 = 18 then ((word_truth.f (decide (a1 < a2))).bind fun t103 => (some (t103, true))) else (if a0 = 19 then ((word_truth.f (decide (a1 ≤ a2))).bind fun t104 => (some (t104, true))) else (if a0 = 20 then ((word_truth.f (decide (a1 > a2))).bind fun t105 => (some (t105, true))) else (if a0 = 21 then ((word_truth.f (decide (a1 ≥ a2))).bind fun t106 => (some (t106, true))) else (if a0 = 22 then (if a1 = 0 then ((word_truth.f false).bind fun t107 => (some (t107, true))) else ((word_truth.f (a2 != 0)).bind fun t108 => (some (t108, true)))) else (if a0 = 23 then (if a1 = 0 then ((word_truth.f (a2 != 0)).bind fun t109 => (some (t109, true))) else ((word_truth.f true).bind fun t110 => (some (t110, true)))) else (some (0, false)))))))))
set_option maxHeartbeats 8000000 in
set_option maxRecDepth 100000 in
theorem word_compare.calls (a0 : Int) (a1 : Int) (a2 : Int) (r1 : Int) (r2 : Bool) (w : World) (h : word_compare.f a0 a1 a2 = some (r1, r2)) :
    Calls Try.prog 45 #[.int .u8 a0, .int .i32 a1, .int .i32 a2] w fun e w' => e = .returned (.tuple #[.int .i32 r1, .bool r2]) ∧ Drawn0 w w' := by
  have H : (if a0 = 16 then ((word_truth.f (a1 == a2)).bind fun t101 => (some (t101, true))) else (if a0 = 17 then ((word_truth.f (a1 != a2)).bind fun t102 => (some (t102, true))) else (if a0 = 18 then ((word_truth.f (decide (a1 < a2))).bind fun t103 => (some (t103, true))) else (if a0 = 19 then ((word_truth.f (decide (a1 ≤ a2))).bind fun t104 => (some (t104, true))) else (if a0 = 20 then ((word_truth.f (decide (a1 > a2))).bind fun t105 => (some (t105, true))) else (if a0 = 21 then ((word_truth.f (decide (a1 ≥ a2))).bind fun t106 => (some (t106, true))) else (if a0 = 22 then (if a1 = 0 then ((word_truth.f false).bind fun t107 => (some (t107, true))) else ((word_truth.f (a2 != 0)).bind fun t108 => (some (t108, true)))) else (if a0 = 23 then (if a1 = 0 then ((word_truth.f (a2 != 0)).bind fun t109 => (some (t109, true))) else ((word_truth.f true).bind fun t110 => (some (t110, true)))) else (some (0, false)))))))))) = some (r1, r2) := h
  clear h
  by_cases c4 : a0 = 16
  · rw [if_pos c4] at H
    have c4b0 : (a0 == 16) = true := beq_iff_eq.mpr c4
    have c4b1 : (a0 != 16) = false := bne_eq_false_iff_eq.mpr c4
    clear c4
    replace H := Option.bind_eq_some_iff.mp H
    obtain ⟨t101, A50, H⟩ := H
    replace H : (some (t101, true)) = some (r1, r2) := H
    have A5 := Aside0.mk A50
    clear A50
    simp only [Option.some.injEq, Prod.mk.injEq] at H
    obtain ⟨rfl, rfl⟩ := H
    go_enter Try.func45, Try.ntmps45
    go_wp2_with (first | ((with_reducible refine gate_callee (f := 51) rfl ?_); refine goesL_ (some 14) rfl rfl Try.func51 (by kernel_rfl) rfl #[.bool (a1 == a2)] rfl (by (try simp only [List.map_toArray, List.map_cons, List.map_nil]); first | done | rfl | (simp only [List.length_drop, List.length_take]; rfl)) ?_; (with_reducible refine (word_truth.calls (a1 == a2) t101 _ A5.out).mono ?_); rintro e w' ⟨rfl, ⟨nd, rfl⟩⟩; refine ⟨_, rfl, ?_⟩))
    go_ret2
    exact ⟨by first | rfl | (simp; done) | (simp [*]; done), by repeat (first | exact Drawn0.refl _ | apply Drawn0.step)⟩
  · rw [if_neg c4] at H
    have c4b0 : (a0 == 16) = false := beq_eq_false_iff_ne.mpr c4
    have c4b1 : (a0 != 16) = true := bne_iff_ne.mpr c4
    by_cases c6 : a0 = 17
    · rw [if_pos c6] at H
      have c6b0 : (a0 == 17) = true := beq_iff_eq.mpr c6
      have c6b1 : (a0 != 17) = false := bne_eq_false_iff_eq.mpr c6
      clear c6
      replace H := Option.bind_eq_some_iff.mp H
      obtain ⟨t102, A70, H⟩ := H
      replace H : (some (t102, true)) = some (r1, r2) := H
      have A7 := Aside0.mk A70
      clear A70
      simp only [Option.some.injEq, Prod.mk.injEq] at H
      obtain ⟨rfl, rfl⟩ := H
      go_enter Try.func45, Try.ntmps45
      go_wp2_with (first | ((with_reducible refine gate_callee (f := 51) rfl ?_); refine goesL_ (some 20) rfl rfl Try.func51 (by kernel_rfl) rfl #[.bool (a1 != a2)] rfl (by (try simp only [List.map_toArray, List.map_cons, List.map_nil]); first | done | rfl | (simp only [List.length_drop, List.length_take]; rfl)) ?_; (with_reducible refine (word_truth.calls (a1 != a2) t102 _ A7.out).mono ?_); rintro e w' ⟨rfl, ⟨nd, rfl⟩⟩; refine ⟨_, rfl, ?_⟩))
      go_ret2
      exact ⟨by first | rfl | (simp; done) | (simp [*]; done), by repeat (first | exact Drawn0.refl _ | apply Drawn0.step)⟩
    · rw [if_neg c6] at H
      have c6b0 : (a0 == 17) = false := beq_eq_false_iff_ne.mpr c6
      have c6b1 : (a0 != 17) = true := bne_iff_ne.mpr c6
      by_cases c8 : a0 = 18
      · rw [if_pos c8] at H
        have c8b0 : (a0 == 18) = true := beq_iff_eq.mpr c8
        have c8b1 : (a0 != 18) = false := bne_eq_false_iff_eq.mpr c8
        clear c8
        replace H := Option.bind_eq_some_iff.mp H
        obtain ⟨t103, A90, H⟩ := H
        replace H : (some (t103, true)) = some (r1, r2) := H
        have A9 := Aside0.mk A90
        clear A90
        simp only [Option.some.injEq, Prod.mk.injEq] at H
        obtain ⟨rfl, rfl⟩ := H
        go_enter Try.func45, Try.ntmps45
        go_wp2_with (first | ((with_reducible refine gate_callee (f := 51) rfl ?_); refine goesL_ (some 26) rfl rfl Try.func51 (by kernel_rfl) rfl #[.bool (decide (a1 < a2))] rfl (by (try simp only [List.map_toArray, List.map_cons, List.map_nil]); first | done | rfl | (simp only [List.length_drop, List.length_take]; rfl)) ?_; (with_reducible refine (word_truth.calls (decide (a1 < a2)) t103 _ A9.out).mono ?_); rintro e w' ⟨rfl, ⟨nd, rfl⟩⟩; refine ⟨_, rfl, ?_⟩))
        go_ret2
        exact ⟨by first | rfl | (simp; done) | (simp [*]; done), by repeat (first | exact Drawn0.refl _ | apply Drawn0.step)⟩
      · rw [if_neg c8] at H
        have c8b0 : (a0 == 18) = false := beq_eq_false_iff_ne.mpr c8
        have c8b1 : (a0 != 18) = true := bne_iff_ne.mpr c8
        by_cases c10 : a0 = 19
        · rw [if_pos c10] at H
          have c10b0 : (a0 == 19) = true := beq_iff_eq.mpr c10
          have c10b1 : (a0 != 19) = false := bne_eq_false_iff_eq.mpr c10
          clear c10
          replace H := Option.bind_eq_some_iff.mp H
          obtain ⟨t104, A110, H⟩ := H
          replace H : (some (t104, true)) = some (r1, r2) := H
          have A11 := Aside0.mk A110
          clear A110
          simp only [Option.some.injEq, Prod.mk.injEq] at H
          obtain ⟨rfl, rfl⟩ := H
          go_enter Try.func45, Try.ntmps45
          go_wp2_with (first | ((with_reducible refine gate_callee (f := 51) rfl ?_); refine goesL_ (some 32) rfl rfl Try.func51 (by kernel_rfl) rfl #[.bool (decide (a1 ≤ a2))] rfl (by (try simp only [List.map_toArray, List.map_cons, List.map_nil]); first | done | rfl | (simp only [List.length_drop, List.length_take]; rfl)) ?_; (with_reducible refine (word_truth.calls (decide (a1 ≤ a2)) t104 _ A11.out).mono ?_); rintro e w' ⟨rfl, ⟨nd, rfl⟩⟩; refine ⟨_, rfl, ?_⟩))
          go_ret2
          exact ⟨by first | rfl | (simp; done) | (simp [*]; done), by repeat (first | exact Drawn0.refl _ | apply Drawn0.step)⟩
        · rw [if_neg c10] at H
          have c10b0 : (a0 == 19) = false := beq_eq_false_iff_ne.mpr c10
          have c10b1 : (a0 != 19) = true := bne_iff_ne.mpr c10
          by_cases c12 : a0 = 20
          · rw [if_pos c12] at H
            have c12b0 : (a0 == 20) = true := beq_iff_eq.mpr c12
            have c12b1 : (a0 != 20) = false := bne_eq_false_iff_eq.mpr c12
            clear c12
            replace H := Option.bind_eq_some_iff.mp H
            obtain ⟨t105, A130, H⟩ := H
            replace H : (some (t105, true)) = some (r1, r2) := H
            have A13 := Aside0.mk A130
            clear A130
            simp only [Option.some.injEq, Prod.mk.injEq] at H
            obtain ⟨rfl, rfl⟩ := H
            go_enter Try.func45, Try.ntmps45
            go_wp2_with (first | ((with_reducible refine gate_callee (f := 51) rfl ?_); refine goesL_ (some 38) rfl rfl Try.func51 (by kernel_rfl) rfl #[.bool (decide (a1 > a2))] rfl (by (try simp only [List.map_toArray, List.map_cons, List.map_nil]); first | done | rfl | (simp only [List.length_drop, List.length_take]; rfl)) ?_; (with_reducible refine (word_truth.calls (decide (a1 > a2)) t105 _ A13.out).mono ?_); rintro e w' ⟨rfl, ⟨nd, rfl⟩⟩; refine ⟨_, rfl, ?_⟩))
            go_ret2
            exact ⟨by first | rfl | (simp; done) | (simp [*]; done), by repeat (first | exact Drawn0.refl _ | apply Drawn0.step)⟩
          · rw [if_neg c12] at H
            have c12b0 : (a0 == 20) = false := beq_eq_false_iff_ne.mpr c12
            have c12b1 : (a0 != 20) = true := bne_iff_ne.mpr c12
            by_cases c14 : a0 = 21
            · rw [if_pos c14] at H
              have c14b0 : (a0 == 21) = true := beq_iff_eq.mpr c14
              have c14b1 : (a0 != 21) = false := bne_eq_false_iff_eq.mpr c14
              clear c14
              replace H := Option.bind_eq_some_iff.mp H
              obtain ⟨t106, A150, H⟩ := H
              replace H : (some (t106, true)) = some (r1, r2) := H
              have A15 := Aside0.mk A150
              clear A150
              simp only [Option.some.injEq, Prod.mk.injEq] at H
              obtain ⟨rfl, rfl⟩ := H
              go_enter Try.func45, Try.ntmps45
              go_wp2_with (first | ((with_reducible refine gate_callee (f := 51) rfl ?_); refine goesL_ (some 44) rfl rfl Try.func51 (by kernel_rfl) rfl #[.bool (decide (a1 ≥ a2))] rfl (by (try simp only [List.map_toArray, List.map_cons, List.map_nil]); first | done | rfl | (simp only [List.length_drop, List.length_take]; rfl)) ?_; (with_reducible refine (word_truth.calls (decide (a1 ≥ a2)) t106 _ A15.out).mono ?_); rintro e w' ⟨rfl, ⟨nd, rfl⟩⟩; refine ⟨_, rfl, ?_⟩))
              go_ret2
              exact ⟨by first | rfl | (simp; done) | (simp [*]; done), by repeat (first | exact Drawn0.refl _ | apply Drawn0.step)⟩
            · rw [if_neg c14] at H
              have c14b0 : (a0 == 21) = false := beq_eq_false_iff_ne.mpr c14
              have c14b1 : (a0 != 21) = true := bne_iff_ne.mpr c14
              by_cases c16 : a0 = 22
              · rw [if_pos c16] at H
                have c16b0 : (a0 == 22) = true := beq_iff_eq.mpr c16
                have c16b1 : (a0 != 22) = false := bne_eq_false_iff_eq.mpr c16
                clear c16
                by_cases c17 : a1 = 0
                · rw [if_pos c17] at H
                  have c17b0 : (a1 == 0) = true := beq_iff_eq.mpr c17
                  have c17b1 : (a1 != 0) = false := bne_eq_false_iff_eq.mpr c17
                  clear c17
                  replace H := Option.bind_eq_some_iff.mp H
                  obtain ⟨t107, A180, H⟩ := H
                  replace H : (some (t107, true)) = some (r1, r2) := H
                  have A18 := Aside0.mk A180
                  clear A180
                  simp only [Option.some.injEq, Prod.mk.injEq] at H
                  obtain ⟨rfl, rfl⟩ := H
                  go_enter Try.func45, Try.ntmps45
                  go_wp2_with (first | ((with_reducible refine gate_callee (f := 51) rfl ?_); refine goesL_ (some 53) rfl rfl Try.func51 (by kernel_rfl) rfl #[.bool false] rfl (by (try simp only [List.map_toArray, List.map_cons, List.map_nil]); first | done | rfl | (simp only [List.length_drop, List.length_take]; rfl)) ?_; (with_reducible refine (word_truth.calls false t107 _ A18.out).mono ?_); rintro e w' ⟨rfl, ⟨nd, rfl⟩⟩; refine ⟨_, rfl, ?_⟩))
                  go_ret2
                  exact ⟨by first | rfl | (simp; done) | (simp [*]; done), by repeat (first | exact Drawn0.refl _ | apply Drawn0.step)⟩
                · rw [if_neg c17] at H
                  have c17b0 : (a1 == 0) = false := beq_eq_false_iff_ne.mpr c17
                  have c17b1 : (a1 != 0) = true := bne_iff_ne.mpr c17
                  replace H := Option.bind_eq_some_iff.mp H
                  obtain ⟨t108, A190, H⟩ := H
                  replace H : (some (t108, true)) = some (r1, r2) := H
                  have A19 := Aside0.mk A190
                  clear A190
                  simp only [Option.some.injEq, Prod.mk.injEq] at H
                  obtain ⟨rfl, rfl⟩ := H
                  go_enter Try.func45, Try.ntmps45
                  go_wp2_with (first | ((with_reducible refine gate_callee (f := 51) rfl ?_); refine goesL_ (some 53) rfl rfl Try.func51 (by kernel_rfl) rfl #[.bool (a2 != 0)] rfl (by (try simp only [List.map_toArray, List.map_cons, List.map_nil]); first | done | rfl | (simp only [List.length_drop, List.length_take]; rfl)) ?_; (with_reducible refine (word_truth.calls (a2 != 0) t108 _ A19.out).mono ?_); rintro e w' ⟨rfl, ⟨nd, rfl⟩⟩; refine ⟨_, rfl, ?_⟩))
                  go_ret2
                  exact ⟨by first | rfl | (simp; done) | (simp [*]; done), by repeat (first | exact Drawn0.refl _ | apply Drawn0.step)⟩
              · rw [if_neg c16] at H
                have c16b0 : (a0 == 22) = false := beq_eq_false_iff_ne.mpr c16
                have c16b1 : (a0 != 22) = true := bne_iff_ne.mpr c16
                by_cases c20 : a0 = 23
                · rw [if_pos c20] at H
                  have c20b0 : (a0 == 23) = true := beq_iff_eq.mpr c20
                  have c20b1 : (a0 != 23) = false := bne_eq_false_iff_eq.mpr c20
                  clear c20
                  by_cases c21 : a1 = 0
                  · rw [if_pos c21] at H
                    have c21b0 : (a1 == 0) = true := beq_iff_eq.mpr c21
                    have c21b1 : (a1 != 0) = false := bne_eq_false_iff_eq.mpr c21
                    clear c21
                    replace H := Option.bind_eq_some_iff.mp H
                    obtain ⟨t109, A220, H⟩ := H
                    replace H : (some (t109, true)) = some (r1, r2) := H
                    have A22 := Aside0.mk A220
                    clear A220
                    simp only [Option.some.injEq, Prod.mk.injEq] at H
                    obtain ⟨rfl, rfl⟩ := H
                    go_enter Try.func45, Try.ntmps45
                    go_wp2_with (first | ((with_reducible refine gate_callee (f := 51) rfl ?_); refine goesL_ (some 62) rfl rfl Try.func51 (by kernel_rfl) rfl #[.bool (a2 != 0)] rfl (by (try simp only [List.map_toArray, List.map_cons, List.map_nil]); first | done | rfl | (simp only [List.length_drop, List.length_take]; rfl)) ?_; (with_reducible refine (word_truth.calls (a2 != 0) t109 _ A22.out).mono ?_); rintro e w' ⟨rfl, ⟨nd, rfl⟩⟩; refine ⟨_, rfl, ?_⟩))
                    go_ret2
                    exact ⟨by first | rfl | (simp; done) | (simp [*]; done), by repeat (first | exact Drawn0.refl _ | apply Drawn0.step)⟩
                  · rw [if_neg c21] at H
                    have c21b0 : (a1 == 0) = false := beq_eq_false_iff_ne.mpr c21
                    have c21b1 : (a1 != 0) = true := bne_iff_ne.mpr c21
                    replace H := Option.bind_eq_some_iff.mp H
                    obtain ⟨t110, A230, H⟩ := H
                    replace H : (some (t110, true)) = some (r1, r2) := H
                    have A23 := Aside0.mk A230
                    clear A230
                    simp only [Option.some.injEq, Prod.mk.injEq] at H
                    obtain ⟨rfl, rfl⟩ := H
                    go_enter Try.func45, Try.ntmps45
                    go_wp2_with (first | ((with_reducible refine gate_callee (f := 51) rfl ?_); refine goesL_ (some 62) rfl rfl Try.func51 (by kernel_rfl) rfl #[.bool true] rfl (by (try simp only [List.map_toArray, List.map_cons, List.map_nil]); first | done | rfl | (simp only [List.length_drop, List.length_take]; rfl)) ?_; (with_reducible refine (word_truth.calls true t110 _ A23.out).mono ?_); rintro e w' ⟨rfl, ⟨nd, rfl⟩⟩; refine ⟨_, rfl, ?_⟩))
                    go_ret2
                    exact ⟨by first | rfl | (simp; done) | (simp [*]; done), by repeat (first | exact Drawn0.refl _ | apply Drawn0.step)⟩
                · rw [if_neg c20] at H
                  have c20b0 : (a0 == 23) = false := beq_eq_false_iff_ne.mpr c20
                  have c20b1 : (a0 != 23) = true := bne_iff_ne.mpr c20
                  simp only [Option.some.injEq, Prod.mk.injEq] at H
                  obtain ⟨rfl, rfl⟩ := H
                  go_enter Try.func45, Try.ntmps45
                  go_wp2
                  go_ret2
                  exact ⟨by first | rfl | (simp; done) | (simp [*]; done), by repeat (first | exact Drawn0.refl _ | apply Drawn0.step)⟩

/-! ### word_Apply: function 19 -/
def word_Apply.j0 : Nat → Int → Int → Int → Int → Bool → Option (Int × Int)
  | 0, _, _, _, _, _ => none
  | k + 1, x0, x1, x2, x10, x26 => if x26 = true then (if x2 = 0 then (some (0, 9)) else (if x0 = 9 then (some (wrap32 (Int.tdiv x1 x2), 0)) else (some (Int.tmod x1 x2, 0)))) else (if x10 = 11 then (some (Go.bits .and .i32 x1 x2, 0)) else (if x10 = 12 then (some (Go.bits .or .i32 x1 x2, 0)) else (if x10 = 13 then (some (Go.bits .xor .i32 x1 x2, 0)) else (if x10 = 14 then (some (wrap32 (x1 * 2 ^ (((x2) % 4294967296) % 32).toNat), 0)) else (if x10 = 15 then (some (x1 / 2 ^ (((x2) % 4294967296) % 32).toNat, 0)) else ((word_compare.f x0 x1 x2).bind fun bt111 => (if bt111.2 = true then (some (bt111.1, 0)) else (some (0, 1)))))))))
def word_Apply.f (k : Nat) (a0 : Int) (a1 : Int) (a2 : Int) : Option (Int × Int) := if a0 = 6 then (some (wrap32 (a1 + a2), 0)) else (if a0 = 7 then (some (wrap32 (a1 - a2), 0)) else (if a0 = 8 then (some (wrap32 (a1 * a2), 0)) else (if a0 = 9 then (word_Apply.j0 k a0 a1 a2 a0 (a0 == 9)) else (word_Apply.j0 k a0 a1 a2 a0 (a0 == 10)))))
theorem word_Apply.mono_l : ∀ k, (∀ y0 y1 y2 y3 y4, LeO (word_Apply.j0 k y0 y1 y2 y3 y4) (word_Apply.j0 (k + 1) y0 y1 y2 y3 y4))
  | 0 => fun _ _ _ _ _ r h => by simp [word_Apply.j0] at h
  | k + 1 => by
    have ih0 := word_Apply.mono_l k
    · intro y0 y1 y2 y3 y4
      unfold word_Apply.j0
      repeat' first
      | (with_reducible exact ih0 _ _ _ _ _)
      | (with_reducible exact LeO.refl _)
      | (with_reducible exact LeO.none _)
      | (with_reducible refine LeO.ite ?_ ?_)
      | (with_reducible refine LeO.bind ?_ (fun _ => ?_))
      | exact ih0 _ _ _ _ _
      | exact LeO.none _
      | refine LeO.ite ?_ ?_
      | refine LeO.bind ?_ (fun _ => ?_)
theorem word_Apply.mono : ∀ a0 a1 a2 k, LeO (word_Apply.f k a0 a1 a2) (word_Apply.f (k + 1) a0 a1 a2) := by
  intro a0 a1 a2 k
  have ih0 := word_Apply.mono_l k
  unfold word_Apply.f
  repeat' first
      | (with_reducible exact ih0 _ _ _ _ _)
      | (with_reducible exact LeO.refl _)
      | (with_reducible exact LeO.none _)
      | (with_reducible refine LeO.ite ?_ ?_)
      | (with_reducible refine LeO.bind ?_ (fun _ => ?_))
      | exact ih0 _ _ _ _ _
      | exact LeO.none _
      | refine LeO.ite ?_ ?_
      | refine LeO.bind ?_ (fun _ => ?_)
set_option maxHeartbeats 8000000 in
set_option maxRecDepth 100000 in
theorem word_Apply.calls (k : Nat) (a0 : Int) (a1 : Int) (a2 : Int) (r1 : Int) (r2 : Int) (w : World) (h : word_Apply.f k a0 a1 a2 = some (r1, r2)) :
    Calls Try.prog 19 #[.int .u8 a0, .int .i32 a1, .int .i32 a2] w fun e w' => e = .returned (.tuple #[.int .i32 r1, .int .i64 r2]) ∧ Drawn0 w w' := by
  have H : (if a0 = 6 then (some (wrap32 (a1 + a2), 0)) else (if a0 = 7 then (some (wrap32 (a1 - a2), 0)) else (if a0 = 8 then (some (wrap32 (a1 * a2), 0)) else (if a0 = 9 then (word_Apply.j0 k a0 a1 a2 a0 (a0 == 9)) else (word_Apply.j0 k a0 a1 a2 a0 (a0 == 10)))))) = some (r1, r2) := h
  clear h
  by_cases c4 : a0 = 6
  · rw [if_pos c4] at H
    have c4b0 : (a0 == 6) = true := beq_iff_eq.mpr c4
    have c4b1 : (a0 != 6) = false := bne_eq_false_iff_eq.mpr c4
    clear c4
    simp only [Option.some.injEq, Prod.mk.injEq] at H
    obtain ⟨rfl, rfl⟩ := H
    go_enter Try.func19, Try.ntmps19
    go_wp2
    go_ret2
    exact ⟨by first | rfl | (simp; done) | (simp [*]; done), by repeat (first | exact Drawn0.refl _ | apply Drawn0.step)⟩
  · rw [if_neg c4] at H
    have c4b0 : (a0 == 6) = false := beq_eq_false_iff_ne.mpr c4
    have c4b1 : (a0 != 6) = true := bne_iff_ne.mpr c4
    by_cases c5 : a0 = 7
    · rw [if_pos c5] at H
      have c5b0 : (a0 == 7) = true := beq_iff_eq.mpr c5
      have c5b1 : (a0 != 7) = false := bne_eq_false_iff_eq.mpr c5
      clear c5
      simp only [Option.some.injEq, Prod.mk.injEq] at H
      obtain ⟨rfl, rfl⟩ := H
      go_enter Try.func19, Try.ntmps19
      go_wp2
      go_ret2
      exact ⟨by first | rfl | (simp; done) | (simp [*]; done), by repeat (first | exact Drawn0.refl _ | apply Drawn0.step)⟩
    · rw [if_neg c5] at H
      have c5b0 : (a0 == 7) = false := beq_eq_false_iff_ne.mpr c5
      have c5b1 : (a0 != 7) = true := bne_iff_ne.mpr c5
      by_cases c6 : a0 = 8
      · rw [if_pos c6] at H
        have c6b0 : (a0 == 8) = true := beq_iff_eq.mpr c6
        have c6b1 : (a0 != 8) = false := bne_eq_false_iff_eq.mpr c6
        clear c6
        simp only [Option.some.injEq, Prod.mk.injEq] at H
        obtain ⟨rfl, rfl⟩ := H
        go_enter Try.func19, Try.ntmps19
        go_wp2
        go_ret2
        exact ⟨by first | rfl | (simp; done) | (simp [*]; done), by repeat (first | exact Drawn0.refl _ | apply Drawn0.step)⟩
      · rw [if_neg c6] at H
        have c6b0 : (a0 == 8) = false := beq_eq_false_iff_ne.mpr c6
        have c6b1 : (a0 != 8) = true := bne_iff_ne.mpr c6
        have HC7 := Aside0.mk H
        clear H
        go_enter Try.func19, Try.ntmps19
        go_upto_if 26 with (fail)
        go_cut [26] (fun v26 wc => ∃ (kq : Nat) (x26_6 : Bool), v26 = .bool x26_6 ∧ Aside0 (word_Apply.j0 kq a0 a1 a2 a0 x26_6 = some (r1, r2)) ∧ Aside0 (kq ≤ k) ∧ Drawn0 w wc)
        case first =>
          have H := HC7.out
          clear HC7
          by_cases c8 : a0 = 9
          · rw [if_pos c8] at H
            have c8b0 : (a0 == 9) = true := beq_iff_eq.mpr c8
            have c8b1 : (a0 != 9) = false := bne_eq_false_iff_eq.mpr c8
            clear c8
            (first | rw [c8b0] | (simp only [i64_w, i32_w]; rw [c8b0]) | skip)
            have H' := Aside0.mk H
            clear H
            go_wp2
            go_meet
            case rel => exact ⟨_, ((a0 == 9)), (by first | rfl | (simp; done) | (simp [*]; done)), H', ⟨by first | omega | exact Nat.le_refl _⟩, by repeat (first | exact Drawn0.refl _ | apply Drawn0.step)⟩
          · rw [if_neg c8] at H
            have c8b0 : (a0 == 9) = false := beq_eq_false_iff_ne.mpr c8
            have c8b1 : (a0 != 9) = true := bne_iff_ne.mpr c8
            (first | rw [c8b0] | (simp only [i64_w, i32_w]; rw [c8b0]) | skip)
            have H' := Aside0.mk H
            clear H
            go_wp2
            go_meet
            case rel => exact ⟨_, ((a0 == 10)), (by first | rfl | (simp; done) | (simp [*]; done)), H', ⟨by first | omega | exact Nat.le_refl _⟩, by repeat (first | exact Drawn0.refl _ | apply Drawn0.step)⟩
        case rest =>
          clear HC7
          try clear c1
          try clear p2
          try clear p3
          try clear c4
          try clear c4b0
          try clear c4b1
          try clear c5
          try clear c5b0
          try clear c5b1
          try clear c6
          try clear c6b0
          try clear c6b1
          try clear c8
          try clear c8b0
          try clear c8b1
          obtain ⟨kq, x26_6, rfl, HA, HJ6, ⟨mc6, rfl⟩⟩ := hcut
          cases kq with
          | zero => exact absurd HA.out (by simp [word_Apply.j0])
          | succ kj6 =>
            have H := HA.out
            clear HA
            simp only [word_Apply.j0] at H
            by_cases c9 : x26_6 = true
            · subst c9
              have H1 : (if a2 = 0 then (some (0, 9)) else (if a0 = 9 then (some (wrap32 (Int.tdiv a1 a2), 0)) else (some (Int.tmod a1 a2, 0)))) = some (r1, r2) := by rw [if_pos rfl] at H; exact H
              clear H
              have H := H1
              clear H1
              by_cases c10 : a2 = 0
              · rw [if_pos c10] at H
                have c10b0 : (a2 == 0) = true := beq_iff_eq.mpr c10
                have c10b1 : (a2 != 0) = false := bne_eq_false_iff_eq.mpr c10
                clear c10
                simp only [Option.some.injEq, Prod.mk.injEq] at H
                obtain ⟨rfl, rfl⟩ := H
                go_wp2
                go_ret2
                exact ⟨by first | rfl | (simp; done) | (simp [*]; done), by repeat (first | exact Drawn0.refl _ | apply Drawn0.step)⟩
              · rw [if_neg c10] at H
                have c10b0 : (a2 == 0) = false := beq_eq_false_iff_ne.mpr c10
                have c10b1 : (a2 != 0) = true := bne_iff_ne.mpr c10
                by_cases c11 : a0 = 9
                · rw [if_pos c11] at H
                  have c11b0 : (a0 == 9) = true := beq_iff_eq.mpr c11
                  have c11b1 : (a0 != 9) = false := bne_eq_false_iff_eq.mpr c11
                  clear c11
                  simp only [Option.some.injEq, Prod.mk.injEq] at H
                  obtain ⟨rfl, rfl⟩ := H
                  go_wp2
                  go_ret2
                  exact ⟨by first | rfl | (simp; done) | (simp [*]; done), by repeat (first | exact Drawn0.refl _ | apply Drawn0.step)⟩
                · rw [if_neg c11] at H
                  have c11b0 : (a0 == 9) = false := beq_eq_false_iff_ne.mpr c11
                  have c11b1 : (a0 != 9) = true := bne_iff_ne.mpr c11
                  simp only [Option.some.injEq, Prod.mk.injEq] at H
                  obtain ⟨rfl, rfl⟩ := H
                  go_wp2
                  go_ret2
                  exact ⟨by first | rfl | (simp; done) | (simp [*]; done), by repeat (first | exact Drawn0.refl _ | apply Drawn0.step)⟩
            · replace c9 := Bool.eq_false_iff.mpr c9
              subst c9
              have H1 : (if a0 = 11 then (some (Go.bits .and .i32 a1 a2, 0)) else (if a0 = 12 then (some (Go.bits .or .i32 a1 a2, 0)) else (if a0 = 13 then (some (Go.bits .xor .i32 a1 a2, 0)) else (if a0 = 14 then (some (wrap32 (a1 * 2 ^ (((a2) % 4294967296) % 32).toNat), 0)) else (if a0 = 15 then (some (a1 / 2 ^ (((a2) % 4294967296) % 32).toNat, 0)) else ((word_compare.f a0 a1 a2).bind fun bt111 => (if bt111.2 = true then (some (bt111.1, 0)) else (some (0, 1))))))))) = some (r1, r2) := by rw [if_neg (show ¬ (false = true) by decide)] at H; exact H
              clear H
              have H := H1
              clear H1
              by_cases c12 : a0 = 11
              · rw [if_pos c12] at H
                have c12b0 : (a0 == 11) = true := beq_iff_eq.mpr c12
                have c12b1 : (a0 != 11) = false := bne_eq_false_iff_eq.mpr c12
                clear c12
                simp only [Option.some.injEq, Prod.mk.injEq] at H
                obtain ⟨rfl, rfl⟩ := H
                go_wp2
                go_ret2
                exact ⟨by first | rfl | (simp; done) | (simp [*]; done), by repeat (first | exact Drawn0.refl _ | apply Drawn0.step)⟩
              · rw [if_neg c12] at H
                have c12b0 : (a0 == 11) = false := beq_eq_false_iff_ne.mpr c12
                have c12b1 : (a0 != 11) = true := bne_iff_ne.mpr c12
                by_cases c13 : a0 = 12
                · rw [if_pos c13] at H
                  have c13b0 : (a0 == 12) = true := beq_iff_eq.mpr c13
                  have c13b1 : (a0 != 12) = false := bne_eq_false_iff_eq.mpr c13
                  clear c13
                  simp only [Option.some.injEq, Prod.mk.injEq] at H
                  obtain ⟨rfl, rfl⟩ := H
                  go_wp2
                  go_ret2
                  exact ⟨by first | rfl | (simp; done) | (simp [*]; done), by repeat (first | exact Drawn0.refl _ | apply Drawn0.step)⟩
                · rw [if_neg c13] at H
                  have c13b0 : (a0 == 12) = false := beq_eq_false_iff_ne.mpr c13
                  have c13b1 : (a0 != 12) = true := bne_iff_ne.mpr c13
                  by_cases c14 : a0 = 13
                  · rw [if_pos c14] at H
                    have c14b0 : (a0 == 13) = true := beq_iff_eq.mpr c14
                    have c14b1 : (a0 != 13) = false := bne_eq_false_iff_eq.mpr c14
                    clear c14
                    simp only [Option.some.injEq, Prod.mk.injEq] at H
                    obtain ⟨rfl, rfl⟩ := H
                    go_wp2
                    go_ret2
                    exact ⟨by first | rfl | (simp; done) | (simp [*]; done), by repeat (first | exact Drawn0.refl _ | apply Drawn0.step)⟩
                  · rw [if_neg c14] at H
                    have c14b0 : (a0 == 13) = false := beq_eq_false_iff_ne.mpr c14
                    have c14b1 : (a0 != 13) = true := bne_iff_ne.mpr c14
                    by_cases c15 : a0 = 14
                    · rw [if_pos c15] at H
                      have c15b0 : (a0 == 14) = true := beq_iff_eq.mpr c15
                      have c15b1 : (a0 != 14) = false := bne_eq_false_iff_eq.mpr c15
                      clear c15
                      simp only [Option.some.injEq, Prod.mk.injEq] at H
                      obtain ⟨rfl, rfl⟩ := H
                      go_wp2
                      go_ret2
                      exact ⟨by first | rfl | (simp; done) | (simp [*]; done), by repeat (first | exact Drawn0.refl _ | apply Drawn0.step)⟩
                    · rw [if_neg c15] at H
                      have c15b0 : (a0 == 14) = false := beq_eq_false_iff_ne.mpr c15
                      have c15b1 : (a0 != 14) = true := bne_iff_ne.mpr c15
                      by_cases c16 : a0 = 15
                      · rw [if_pos c16] at H
                        have c16b0 : (a0 == 15) = true := beq_iff_eq.mpr c16
                        have c16b1 : (a0 != 15) = false := bne_eq_false_iff_eq.mpr c16
                        clear c16
                        simp only [Option.some.injEq, Prod.mk.injEq] at H
                        obtain ⟨rfl, rfl⟩ := H
                        go_wp2
                        go_ret2
                        exact ⟨by first | rfl | (simp; done) | (simp [*]; done), by repeat (first | exact Drawn0.refl _ | apply Drawn0.step)⟩
                      · rw [if_neg c16] at H
                        have c16b0 : (a0 == 15) = false := beq_eq_false_iff_ne.mpr c16
                        have c16b1 : (a0 != 15) = true := bne_iff_ne.mpr c16
                        replace H := Option.bind_eq_some_iff.mp H
                        obtain ⟨⟨t111, t112⟩, A170, H⟩ := H
                        replace H : (if t112 = true then (some (t111, 0)) else (some (0, 1))) = some (r1, r2) := H
                        have A17 := Aside0.mk A170
                        clear A170
                        by_cases c18 : t112 = true
                        · subst c18
                          have H1 : (some (t111, 0)) = some (r1, r2) := by rw [if_pos rfl] at H; exact H
                          clear H
                          have H := H1
                          clear H1
                          simp only [Option.some.injEq, Prod.mk.injEq] at H
                          obtain ⟨rfl, rfl⟩ := H
                          go_wp2_with (first | ((with_reducible refine gate_callee (f := 45) rfl ?_); refine goesL_ (some 72) rfl rfl Try.func45 (by kernel_rfl) rfl #[.int .u8 a0, .int .i32 a1, .int .i32 a2] rfl (by (try simp only [List.map_toArray, List.map_cons, List.map_nil]); first | done | rfl | (simp only [List.length_drop, List.length_take]; rfl)) ?_; (with_reducible refine (word_compare.calls a0 a1 a2 t111 true _ A17.out).mono ?_); rintro e w' ⟨rfl, ⟨nd, rfl⟩⟩; refine ⟨_, rfl, ?_⟩))
                          go_ret2
                          exact ⟨by first | rfl | (simp; done) | (simp [*]; done), by repeat (first | exact Drawn0.refl _ | apply Drawn0.step)⟩
                        · replace c18 := Bool.eq_false_iff.mpr c18
                          subst c18
                          have H1 : (some (0, 1)) = some (r1, r2) := by rw [if_neg (show ¬ (false = true) by decide)] at H; exact H
                          clear H
                          have H := H1
                          clear H1
                          simp only [Option.some.injEq, Prod.mk.injEq] at H
                          obtain ⟨rfl, rfl⟩ := H
                          go_wp2_with (first | ((with_reducible refine gate_callee (f := 45) rfl ?_); refine goesL_ (some 72) rfl rfl Try.func45 (by kernel_rfl) rfl #[.int .u8 a0, .int .i32 a1, .int .i32 a2] rfl (by (try simp only [List.map_toArray, List.map_cons, List.map_nil]); first | done | rfl | (simp only [List.length_drop, List.length_take]; rfl)) ?_; (with_reducible refine (word_compare.calls a0 a1 a2 t111 false _ A17.out).mono ?_); rintro e w' ⟨rfl, ⟨nd, rfl⟩⟩; refine ⟨_, rfl, ?_⟩))
                          go_ret2
                          exact ⟨by first | rfl | (simp; done) | (simp [*]; done), by repeat (first | exact Drawn0.refl _ | apply Drawn0.step)⟩

/-! ### ontimelaw03_awake: function 21 -/
def ontimelaw03_awake.f (k : Nat)  : Option (Bool) := (word_Apply.f k 6 2147483647 1).bind fun bt113 => ((word_Apply.f k 10 (-7) 2).bind fun bt115 => ((word_Apply.f k 15 (-7) 33).bind fun bt117 => (if bt113.2 = 0 then (if bt115.2 = 0 then (if bt117.2 = 0 then (if bt113.1 = (-2147483648) then (if bt115.1 = (-1) then (some (bt117.1 == (-4))) else (some false)) else (some false)) else (some false)) else (some false)) else (some false))))
theorem ontimelaw03_awake.mono : ∀ k, LeO (ontimelaw03_awake.f k ) (ontimelaw03_awake.f (k + 1) ) := by
  intro  k
  unfold ontimelaw03_awake.f
  repeat' first
      | (with_reducible exact word_Apply.mono _ _ _ _)
      | (with_reducible exact LeO.refl _)
      | (with_reducible exact LeO.none _)
      | (with_reducible refine LeO.ite ?_ ?_)
      | (with_reducible refine LeO.bind ?_ (fun _ => ?_))
      | exact word_Apply.mono _ _ _ _
      | exact LeO.none _
      | refine LeO.ite ?_ ?_
      | refine LeO.bind ?_ (fun _ => ?_)
set_option maxHeartbeats 8000000 in
set_option maxRecDepth 100000 in
theorem ontimelaw03_awake.calls (k : Nat)  (r : Bool) (w : World) (h : ontimelaw03_awake.f k  = some r) :
    Calls Try.prog 21 #[] w fun e w' => e = .returned (.bool r) ∧ Drawn0 w w' := by
  have H : ((word_Apply.f k 6 2147483647 1).bind fun bt113 => ((word_Apply.f k 10 (-7) 2).bind fun bt115 => ((word_Apply.f k 15 (-7) 33).bind fun bt117 => (if bt113.2 = 0 then (if bt115.2 = 0 then (if bt117.2 = 0 then (if bt113.1 = (-2147483648) then (if bt115.1 = (-1) then (some (bt117.1 == (-4))) else (some false)) else (some false)) else (some false)) else (some false)) else (some false))))) = some r := h
  clear h
  replace H := Option.bind_eq_some_iff.mp H
  obtain ⟨⟨t113, t114⟩, A10, H⟩ := H
  replace H : ((word_Apply.f k 10 (-7) 2).bind fun bt115 => ((word_Apply.f k 15 (-7) 33).bind fun bt117 => (if t114 = 0 then (if bt115.2 = 0 then (if bt117.2 = 0 then (if t113 = (-2147483648) then (if bt115.1 = (-1) then (some (bt117.1 == (-4))) else (some false)) else (some false)) else (some false)) else (some false)) else (some false)))) = some r := H
  have A1 := Aside0.mk A10
  clear A10
  replace H := Option.bind_eq_some_iff.mp H
  obtain ⟨⟨t115, t116⟩, A20, H⟩ := H
  replace H : ((word_Apply.f k 15 (-7) 33).bind fun bt117 => (if t114 = 0 then (if t116 = 0 then (if bt117.2 = 0 then (if t113 = (-2147483648) then (if t115 = (-1) then (some (bt117.1 == (-4))) else (some false)) else (some false)) else (some false)) else (some false)) else (some false))) = some r := H
  have A2 := Aside0.mk A20
  clear A20
  replace H := Option.bind_eq_some_iff.mp H
  obtain ⟨⟨t117, t118⟩, A30, H⟩ := H
  replace H : (if t114 = 0 then (if t116 = 0 then (if t118 = 0 then (if t113 = (-2147483648) then (if t115 = (-1) then (some (t117 == (-4))) else (some false)) else (some false)) else (some false)) else (some false)) else (some false)) = some r := H
  have A3 := Aside0.mk A30
  clear A30
  by_cases c4 : t114 = 0
  · rw [if_pos c4] at H
    have c4b0 : (t114 == 0) = true := beq_iff_eq.mpr c4
    have c4b1 : (t114 != 0) = false := bne_eq_false_iff_eq.mpr c4
    clear c4
    by_cases c5 : t116 = 0
    · rw [if_pos c5] at H
      have c5b0 : (t116 == 0) = true := beq_iff_eq.mpr c5
      have c5b1 : (t116 != 0) = false := bne_eq_false_iff_eq.mpr c5
      clear c5
      by_cases c6 : t118 = 0
      · rw [if_pos c6] at H
        have c6b0 : (t118 == 0) = true := beq_iff_eq.mpr c6
        have c6b1 : (t118 != 0) = false := bne_eq_false_iff_eq.mpr c6
        clear c6
        by_cases c7 : t113 = (-2147483648)
        · rw [if_pos c7] at H
          have c7b0 : (t113 == (-2147483648)) = true := beq_iff_eq.mpr c7
          have c7b1 : (t113 != (-2147483648)) = false := bne_eq_false_iff_eq.mpr c7
          clear c7
          by_cases c8 : t115 = (-1)
          · rw [if_pos c8] at H
            have c8b0 : (t115 == (-1)) = true := beq_iff_eq.mpr c8
            have c8b1 : (t115 != (-1)) = false := bne_eq_false_iff_eq.mpr c8
            clear c8
            obtain rfl := Option.some.inj H
            go_enter Try.func21, Try.ntmps21
            go_wp2_with (first | ((with_reducible refine gate_callee (f := 19) rfl ?_); refine goesL_ (some 8) rfl rfl Try.func19 (by kernel_rfl) rfl #[.int .u8 6, .int .i32 2147483647, .int .i32 1] rfl (by (try simp only [List.map_toArray, List.map_cons, List.map_nil]); first | done | rfl | (simp only [List.length_drop, List.length_take]; rfl)) ?_; (with_reducible refine (word_Apply.calls k 6 2147483647 1 t113 t114 _ A1.out).mono ?_); rintro e w' ⟨rfl, ⟨nd, rfl⟩⟩; refine ⟨_, rfl, ?_⟩) | ((with_reducible refine gate_callee (f := 19) rfl ?_); refine goesL_ (some 12) rfl rfl Try.func19 (by kernel_rfl) rfl #[.int .u8 10, .int .i32 (-7), .int .i32 2] rfl (by (try simp only [List.map_toArray, List.map_cons, List.map_nil]); first | done | rfl | (simp only [List.length_drop, List.length_take]; rfl)) ?_; (with_reducible refine (word_Apply.calls k 10 (-7) 2 t115 t116 _ A2.out).mono ?_); rintro e w' ⟨rfl, ⟨nd, rfl⟩⟩; refine ⟨_, rfl, ?_⟩) | ((with_reducible refine gate_callee (f := 19) rfl ?_); refine goesL_ (some 16) rfl rfl Try.func19 (by kernel_rfl) rfl #[.int .u8 15, .int .i32 (-7), .int .i32 33] rfl (by (try simp only [List.map_toArray, List.map_cons, List.map_nil]); first | done | rfl | (simp only [List.length_drop, List.length_take]; rfl)) ?_; (with_reducible refine (word_Apply.calls k 15 (-7) 33 t117 t118 _ A3.out).mono ?_); rintro e w' ⟨rfl, ⟨nd, rfl⟩⟩; refine ⟨_, rfl, ?_⟩))
            go_ret
            exact ⟨by first | rfl | (simp; done) | (simp [*]; done), by repeat (first | exact Drawn0.refl _ | apply Drawn0.step)⟩
          · rw [if_neg c8] at H
            have c8b0 : (t115 == (-1)) = false := beq_eq_false_iff_ne.mpr c8
            have c8b1 : (t115 != (-1)) = true := bne_iff_ne.mpr c8
            obtain rfl := Option.some.inj H
            go_enter Try.func21, Try.ntmps21
            go_wp2_with (first | ((with_reducible refine gate_callee (f := 19) rfl ?_); refine goesL_ (some 8) rfl rfl Try.func19 (by kernel_rfl) rfl #[.int .u8 6, .int .i32 2147483647, .int .i32 1] rfl (by (try simp only [List.map_toArray, List.map_cons, List.map_nil]); first | done | rfl | (simp only [List.length_drop, List.length_take]; rfl)) ?_; (with_reducible refine (word_Apply.calls k 6 2147483647 1 t113 t114 _ A1.out).mono ?_); rintro e w' ⟨rfl, ⟨nd, rfl⟩⟩; refine ⟨_, rfl, ?_⟩) | ((with_reducible refine gate_callee (f := 19) rfl ?_); refine goesL_ (some 12) rfl rfl Try.func19 (by kernel_rfl) rfl #[.int .u8 10, .int .i32 (-7), .int .i32 2] rfl (by (try simp only [List.map_toArray, List.map_cons, List.map_nil]); first | done | rfl | (simp only [List.length_drop, List.length_take]; rfl)) ?_; (with_reducible refine (word_Apply.calls k 10 (-7) 2 t115 t116 _ A2.out).mono ?_); rintro e w' ⟨rfl, ⟨nd, rfl⟩⟩; refine ⟨_, rfl, ?_⟩) | ((with_reducible refine gate_callee (f := 19) rfl ?_); refine goesL_ (some 16) rfl rfl Try.func19 (by kernel_rfl) rfl #[.int .u8 15, .int .i32 (-7), .int .i32 33] rfl (by (try simp only [List.map_toArray, List.map_cons, List.map_nil]); first | done | rfl | (simp only [List.length_drop, List.length_take]; rfl)) ?_; (with_reducible refine (word_Apply.calls k 15 (-7) 33 t117 t118 _ A3.out).mono ?_); rintro e w' ⟨rfl, ⟨nd, rfl⟩⟩; refine ⟨_, rfl, ?_⟩))
            go_ret
            exact ⟨by first | rfl | (simp; done) | (simp [*]; done), by repeat (first | exact Drawn0.refl _ | apply Drawn0.step)⟩
        · rw [if_neg c7] at H
          have c7b0 : (t113 == (-2147483648)) = false := beq_eq_false_iff_ne.mpr c7
          have c7b1 : (t113 != (-2147483648)) = true := bne_iff_ne.mpr c7
          obtain rfl := Option.some.inj H
          go_enter Try.func21, Try.ntmps21
          go_wp2_with (first | ((with_reducible refine gate_callee (f := 19) rfl ?_); refine goesL_ (some 8) rfl rfl Try.func19 (by kernel_rfl) rfl #[.int .u8 6, .int .i32 2147483647, .int .i32 1] rfl (by (try simp only [List.map_toArray, List.map_cons, List.map_nil]); first | done | rfl | (simp only [List.length_drop, List.length_take]; rfl)) ?_; (with_reducible refine (word_Apply.calls k 6 2147483647 1 t113 t114 _ A1.out).mono ?_); rintro e w' ⟨rfl, ⟨nd, rfl⟩⟩; refine ⟨_, rfl, ?_⟩) | ((with_reducible refine gate_callee (f := 19) rfl ?_); refine goesL_ (some 12) rfl rfl Try.func19 (by kernel_rfl) rfl #[.int .u8 10, .int .i32 (-7), .int .i32 2] rfl (by (try simp only [List.map_toArray, List.map_cons, List.map_nil]); first | done | rfl | (simp only [List.length_drop, List.length_take]; rfl)) ?_; (with_reducible refine (word_Apply.calls k 10 (-7) 2 t115 t116 _ A2.out).mono ?_); rintro e w' ⟨rfl, ⟨nd, rfl⟩⟩; refine ⟨_, rfl, ?_⟩) | ((with_reducible refine gate_callee (f := 19) rfl ?_); refine goesL_ (some 16) rfl rfl Try.func19 (by kernel_rfl) rfl #[.int .u8 15, .int .i32 (-7), .int .i32 33] rfl (by (try simp only [List.map_toArray, List.map_cons, List.map_nil]); first | done | rfl | (simp only [List.length_drop, List.length_take]; rfl)) ?_; (with_reducible refine (word_Apply.calls k 15 (-7) 33 t117 t118 _ A3.out).mono ?_); rintro e w' ⟨rfl, ⟨nd, rfl⟩⟩; refine ⟨_, rfl, ?_⟩))
          go_ret
          exact ⟨by first | rfl | (simp; done) | (simp [*]; done), by repeat (first | exact Drawn0.refl _ | apply Drawn0.step)⟩
      · rw [if_neg c6] at H
        have c6b0 : (t118 == 0) = false := beq_eq_false_iff_ne.mpr c6
        have c6b1 : (t118 != 0) = true := bne_iff_ne.mpr c6
        obtain rfl := Option.some.inj H
        go_enter Try.func21, Try.ntmps21
        go_wp2_with (first | ((with_reducible refine gate_callee (f := 19) rfl ?_); refine goesL_ (some 8) rfl rfl Try.func19 (by kernel_rfl) rfl #[.int .u8 6, .int .i32 2147483647, .int .i32 1] rfl (by (try simp only [List.map_toArray, List.map_cons, List.map_nil]); first | done | rfl | (simp only [List.length_drop, List.length_take]; rfl)) ?_; (with_reducible refine (word_Apply.calls k 6 2147483647 1 t113 t114 _ A1.out).mono ?_); rintro e w' ⟨rfl, ⟨nd, rfl⟩⟩; refine ⟨_, rfl, ?_⟩) | ((with_reducible refine gate_callee (f := 19) rfl ?_); refine goesL_ (some 12) rfl rfl Try.func19 (by kernel_rfl) rfl #[.int .u8 10, .int .i32 (-7), .int .i32 2] rfl (by (try simp only [List.map_toArray, List.map_cons, List.map_nil]); first | done | rfl | (simp only [List.length_drop, List.length_take]; rfl)) ?_; (with_reducible refine (word_Apply.calls k 10 (-7) 2 t115 t116 _ A2.out).mono ?_); rintro e w' ⟨rfl, ⟨nd, rfl⟩⟩; refine ⟨_, rfl, ?_⟩) | ((with_reducible refine gate_callee (f := 19) rfl ?_); refine goesL_ (some 16) rfl rfl Try.func19 (by kernel_rfl) rfl #[.int .u8 15, .int .i32 (-7), .int .i32 33] rfl (by (try simp only [List.map_toArray, List.map_cons, List.map_nil]); first | done | rfl | (simp only [List.length_drop, List.length_take]; rfl)) ?_; (with_reducible refine (word_Apply.calls k 15 (-7) 33 t117 t118 _ A3.out).mono ?_); rintro e w' ⟨rfl, ⟨nd, rfl⟩⟩; refine ⟨_, rfl, ?_⟩))
        go_ret
        exact ⟨by first | rfl | (simp; done) | (simp [*]; done), by repeat (first | exact Drawn0.refl _ | apply Drawn0.step)⟩
    · rw [if_neg c5] at H
      have c5b0 : (t116 == 0) = false := beq_eq_false_iff_ne.mpr c5
      have c5b1 : (t116 != 0) = true := bne_iff_ne.mpr c5
      obtain rfl := Option.some.inj H
      go_enter Try.func21, Try.ntmps21
      go_wp2_with (first | ((with_reducible refine gate_callee (f := 19) rfl ?_); refine goesL_ (some 8) rfl rfl Try.func19 (by kernel_rfl) rfl #[.int .u8 6, .int .i32 2147483647, .int .i32 1] rfl (by (try simp only [List.map_toArray, List.map_cons, List.map_nil]); first | done | rfl | (simp only [List.length_drop, List.length_take]; rfl)) ?_; (with_reducible refine (word_Apply.calls k 6 2147483647 1 t113 t114 _ A1.out).mono ?_); rintro e w' ⟨rfl, ⟨nd, rfl⟩⟩; refine ⟨_, rfl, ?_⟩) | ((with_reducible refine gate_callee (f := 19) rfl ?_); refine goesL_ (some 12) rfl rfl Try.func19 (by kernel_rfl) rfl #[.int .u8 10, .int .i32 (-7), .int .i32 2] rfl (by (try simp only [List.map_toArray, List.map_cons, List.map_nil]); first | done | rfl | (simp only [List.length_drop, List.length_take]; rfl)) ?_; (with_reducible refine (word_Apply.calls k 10 (-7) 2 t115 t116 _ A2.out).mono ?_); rintro e w' ⟨rfl, ⟨nd, rfl⟩⟩; refine ⟨_, rfl, ?_⟩) | ((with_reducible refine gate_callee (f := 19) rfl ?_); refine goesL_ (some 16) rfl rfl Try.func19 (by kernel_rfl) rfl #[.int .u8 15, .int .i32 (-7), .int .i32 33] rfl (by (try simp only [List.map_toArray, List.map_cons, List.map_nil]); first | done | rfl | (simp only [List.length_drop, List.length_take]; rfl)) ?_; (with_reducible refine (word_Apply.calls k 15 (-7) 33 t117 t118 _ A3.out).mono ?_); rintro e w' ⟨rfl, ⟨nd, rfl⟩⟩; refine ⟨_, rfl, ?_⟩))
      go_ret
      exact ⟨by first | rfl | (simp; done) | (simp [*]; done), by repeat (first | exact Drawn0.refl _ | apply Drawn0.step)⟩
  · rw [if_neg c4] at H
    have c4b0 : (t114 == 0) = false := beq_eq_false_iff_ne.mpr c4
    have c4b1 : (t114 != 0) = true := bne_iff_ne.mpr c4
    obtain rfl := Option.some.inj H
    go_enter Try.func21, Try.ntmps21
    go_wp2_with (first | ((with_reducible refine gate_callee (f := 19) rfl ?_); refine goesL_ (some 8) rfl rfl Try.func19 (by kernel_rfl) rfl #[.int .u8 6, .int .i32 2147483647, .int .i32 1] rfl (by (try simp only [List.map_toArray, List.map_cons, List.map_nil]); first | done | rfl | (simp only [List.length_drop, List.length_take]; rfl)) ?_; (with_reducible refine (word_Apply.calls k 6 2147483647 1 t113 t114 _ A1.out).mono ?_); rintro e w' ⟨rfl, ⟨nd, rfl⟩⟩; refine ⟨_, rfl, ?_⟩) | ((with_reducible refine gate_callee (f := 19) rfl ?_); refine goesL_ (some 12) rfl rfl Try.func19 (by kernel_rfl) rfl #[.int .u8 10, .int .i32 (-7), .int .i32 2] rfl (by (try simp only [List.map_toArray, List.map_cons, List.map_nil]); first | done | rfl | (simp only [List.length_drop, List.length_take]; rfl)) ?_; (with_reducible refine (word_Apply.calls k 10 (-7) 2 t115 t116 _ A2.out).mono ?_); rintro e w' ⟨rfl, ⟨nd, rfl⟩⟩; refine ⟨_, rfl, ?_⟩) | ((with_reducible refine gate_callee (f := 19) rfl ?_); refine goesL_ (some 16) rfl rfl Try.func19 (by kernel_rfl) rfl #[.int .u8 15, .int .i32 (-7), .int .i32 33] rfl (by (try simp only [List.map_toArray, List.map_cons, List.map_nil]); first | done | rfl | (simp only [List.length_drop, List.length_take]; rfl)) ?_; (with_reducible refine (word_Apply.calls k 15 (-7) 33 t117 t118 _ A3.out).mono ?_); rintro e w' ⟨rfl, ⟨nd, rfl⟩⟩; refine ⟨_, rfl, ?_⟩))
    go_ret
    exact ⟨by first | rfl | (simp; done) | (simp [*]; done), by repeat (first | exact Drawn0.refl _ | apply Drawn0.step)⟩

/-! ### ontimelaw03_op: function 22 -/
def ontimelaw03_op.f (k : Nat) (a0 : Int) (a1 : Int) (a2 : Int) : Option (Int) := (word_Apply.f k a0 a1 a2).bind fun bt119 => (some bt119.1)
theorem ontimelaw03_op.mono : ∀ a0 a1 a2 k, LeO (ontimelaw03_op.f k a0 a1 a2) (ontimelaw03_op.f (k + 1) a0 a1 a2) := by
  intro a0 a1 a2 k
  unfold ontimelaw03_op.f
  repeat' first
      | (with_reducible exact word_Apply.mono _ _ _ _)
      | (with_reducible exact LeO.refl _)
      | (with_reducible exact LeO.none _)
      | (with_reducible refine LeO.ite ?_ ?_)
      | (with_reducible refine LeO.bind ?_ (fun _ => ?_))
      | exact word_Apply.mono _ _ _ _
      | exact LeO.none _
      | refine LeO.ite ?_ ?_
      | refine LeO.bind ?_ (fun _ => ?_)
set_option maxHeartbeats 8000000 in
set_option maxRecDepth 100000 in
theorem ontimelaw03_op.calls (k : Nat) (a0 : Int) (a1 : Int) (a2 : Int) (r : Int) (w : World) (h : ontimelaw03_op.f k a0 a1 a2 = some r) :
    Calls Try.prog 22 #[.int .u8 a0, .int .i32 a1, .int .i32 a2] w fun e w' => e = .returned (.int .i32 r) ∧ Drawn0 w w' := by
  have H : ((word_Apply.f k a0 a1 a2).bind fun bt119 => (some bt119.1)) = some r := h
  clear h
  replace H := Option.bind_eq_some_iff.mp H
  obtain ⟨⟨t119, t120⟩, A40, H⟩ := H
  replace H : (some t119) = some r := H
  have A4 := Aside0.mk A40
  clear A40
  obtain rfl := Option.some.inj H
  go_enter Try.func22, Try.ntmps22
  go_wp2_with (first | ((with_reducible refine gate_callee (f := 19) rfl ?_); refine goesL_ (some 13) rfl rfl Try.func19 (by kernel_rfl) rfl #[.int .u8 a0, .int .i32 a1, .int .i32 a2] rfl (by (try simp only [List.map_toArray, List.map_cons, List.map_nil]); first | done | rfl | (simp only [List.length_drop, List.length_take]; rfl)) ?_; (with_reducible refine (word_Apply.calls k a0 a1 a2 t119 t120 _ A4.out).mono ?_); rintro e w' ⟨rfl, ⟨nd, rfl⟩⟩; refine ⟨_, rfl, ?_⟩))
  go_ret
  exact ⟨by first | rfl | (simp; done) | (simp [*]; done), by repeat (first | exact Drawn0.refl _ | apply Drawn0.step)⟩

/-! ### word_Unary: function 24 -/
def word_Unary.f (a0 : Int) (a1 : Int) : Option (Int × Int) := if a0 = 4 then (some (wrap32 (-a1), 0)) else (if a0 = 5 then ((word_truth.f (a1 == 0)).bind fun t121 => (some (t121, 0))) else (some (0, 1)))
set_option maxHeartbeats 8000000 in
set_option maxRecDepth 100000 in
theorem word_Unary.calls (a0 : Int) (a1 : Int) (r1 : Int) (r2 : Int) (w : World) (h : word_Unary.f a0 a1 = some (r1, r2)) :
    Calls Try.prog 24 #[.int .u8 a0, .int .i32 a1] w fun e w' => e = .returned (.tuple #[.int .i32 r1, .int .i64 r2]) ∧ Drawn0 w w' := by
  have H : (if a0 = 4 then (some (wrap32 (-a1), 0)) else (if a0 = 5 then ((word_truth.f (a1 == 0)).bind fun t121 => (some (t121, 0))) else (some (0, 1)))) = some (r1, r2) := h
  clear h
  by_cases c3 : a0 = 4
  · rw [if_pos c3] at H
    have c3b0 : (a0 == 4) = true := beq_iff_eq.mpr c3
    have c3b1 : (a0 != 4) = false := bne_eq_false_iff_eq.mpr c3
    clear c3
    simp only [Option.some.injEq, Prod.mk.injEq] at H
    obtain ⟨rfl, rfl⟩ := H
    go_enter Try.func24, Try.ntmps24
    go_wp2
    go_ret2
    exact ⟨by first | rfl | (simp; done) | (simp [*]; done), by repeat (first | exact Drawn0.refl _ | apply Drawn0.step)⟩
  · rw [if_neg c3] at H
    have c3b0 : (a0 == 4) = false := beq_eq_false_iff_ne.mpr c3
    have c3b1 : (a0 != 4) = true := bne_iff_ne.mpr c3
    by_cases c4 : a0 = 5
    · rw [if_pos c4] at H
      have c4b0 : (a0 == 5) = true := beq_iff_eq.mpr c4
      have c4b1 : (a0 != 5) = false := bne_eq_false_iff_eq.mpr c4
      clear c4
      replace H := Option.bind_eq_some_iff.mp H
      obtain ⟨t121, A50, H⟩ := H
      replace H : (some (t121, 0)) = some (r1, r2) := H
      have A5 := Aside0.mk A50
      clear A50
      simp only [Option.some.injEq, Prod.mk.injEq] at H
      obtain ⟨rfl, rfl⟩ := H
      go_enter Try.func24, Try.ntmps24
      go_wp2_with (first | ((with_reducible refine gate_callee (f := 51) rfl ?_); refine goesL_ (some 15) rfl rfl Try.func51 (by kernel_rfl) rfl #[.bool (a1 == 0)] rfl (by (try simp only [List.map_toArray, List.map_cons, List.map_nil]); first | done | rfl | (simp only [List.length_drop, List.length_take]; rfl)) ?_; (with_reducible refine (word_truth.calls (a1 == 0) t121 _ A5.out).mono ?_); rintro e w' ⟨rfl, ⟨nd, rfl⟩⟩; refine ⟨_, rfl, ?_⟩))
      go_ret2
      exact ⟨by first | rfl | (simp; done) | (simp [*]; done), by repeat (first | exact Drawn0.refl _ | apply Drawn0.step)⟩
    · rw [if_neg c4] at H
      have c4b0 : (a0 == 5) = false := beq_eq_false_iff_ne.mpr c4
      have c4b1 : (a0 != 5) = true := bne_iff_ne.mpr c4
      simp only [Option.some.injEq, Prod.mk.injEq] at H
      obtain ⟨rfl, rfl⟩ := H
      go_enter Try.func24, Try.ntmps24
      go_wp2
      go_ret2
      exact ⟨by first | rfl | (simp; done) | (simp [*]; done), by repeat (first | exact Drawn0.refl _ | apply Drawn0.step)⟩

/-! ### ontimelaw03_neg: function 34 -/
def ontimelaw03_neg.f (a0 : Int) : Option (Int) := (word_Unary.f 4 a0).bind fun bt122 => (some bt122.1)
set_option maxHeartbeats 8000000 in
set_option maxRecDepth 100000 in
theorem ontimelaw03_neg.calls (a0 : Int) (r : Int) (w : World) (h : ontimelaw03_neg.f a0 = some r) :
    Calls Try.prog 34 #[.int .i32 a0] w fun e w' => e = .returned (.int .i32 r) ∧ Drawn0 w w' := by
  have H : ((word_Unary.f 4 a0).bind fun bt122 => (some bt122.1)) = some r := h
  clear h
  replace H := Option.bind_eq_some_iff.mp H
  obtain ⟨⟨t122, t123⟩, A20, H⟩ := H
  replace H : (some t122) = some r := H
  have A2 := Aside0.mk A20
  clear A20
  obtain rfl := Option.some.inj H
  go_enter Try.func34, Try.ntmps34
  go_wp2_with (first | ((with_reducible refine gate_callee (f := 24) rfl ?_); refine goesL_ (some 7) rfl rfl Try.func24 (by kernel_rfl) rfl #[.int .u8 4, .int .i32 a0] rfl (by (try simp only [List.map_toArray, List.map_cons, List.map_nil]); first | done | rfl | (simp only [List.length_drop, List.length_take]; rfl)) ?_; (with_reducible refine (word_Unary.calls 4 a0 t122 t123 _ A2.out).mono ?_); rintro e w' ⟨rfl, ⟨nd, rfl⟩⟩; refine ⟨_, rfl, ?_⟩))
  go_ret
  exact ⟨by first | rfl | (simp; done) | (simp [*]; done), by repeat (first | exact Drawn0.refl _ | apply Drawn0.step)⟩

end Go.Proofs.Ytoalomjmmlnclaa.PWordRing
