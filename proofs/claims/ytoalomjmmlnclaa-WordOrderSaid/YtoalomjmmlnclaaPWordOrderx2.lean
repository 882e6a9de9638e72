-- PRINTED BY print.sh 35421559b90ae4d0a3588c463048766b98c2df88dd9212a6774a882060cdf62d: not written by this session
import Derived.Test.YtoalomjmmlnclaaPWordOrderx0
import Derived.Test.YtoalomjmmlnclaaPWordOrderx1
namespace Go.Proofs.Ytoalomjmmlnclaa.PWordOrder
open Go.RowKit Go.Proofs.YtoalomjmmlnclaaW.PrintWords Go.Proofs.YtoalomjmmlnclaaW.PrintLast Go.Proofs.YtoalomjmmlnclaaW.PrintMore
attribute [local go_sem] max2_int min2_int max_two min_two max_three min_three max_four min_four   -- for this text's walks alone
set_option linter.unusedVariables false
set_option linter.unusedSimpArgs false

/-! ### ontimelaw03_WordOrder: function 11 -/
def ontimelaw03_WordOrder.j0 : Nat → Int → Int → Int → Int → Bool → Option (Bool)
  | 0, _, _, _, _, _ => none
  | k + 1, x0, x1, x2, x7, x60 => if x60 = true then (some false) else (if x7 = 0 then (some true) else ((ontimelaw03_op.f k 18 x1 x2).bind fun t134 => (if t134 = 0 then (some true) else ((ontimelaw03_op.f k 18 x0 x2).bind fun t135 => (some (t135 == 1))))))
def ontimelaw03_WordOrder.f (k : Nat) (a0 : Int) (a1 : Int) (a2 : Int) : Option (Bool) := (ontimelaw03_op.f k 18 a0 a1).bind fun t124 => ((ontimelaw03_op.f k 16 a0 a1).bind fun t125 => ((ontimelaw03_op.f k 20 a0 a1).bind fun t126 => ((ontimelaw03_awake.f k).bind fun t127 => (if t127 = true then (if (wrap32 ((wrap32 (t124 + t125)) + t126)) = 1 then ((ontimelaw03_op.f k 19 a0 a1).bind fun t128 => ((ontimelaw03_not.f t126).bind fun t129 => (if t128 = t129 then ((ontimelaw03_op.f k 21 a0 a1).bind fun t130 => ((ontimelaw03_not.f t124).bind fun t131 => (if t130 = t131 then ((ontimelaw03_op.f k 17 a0 a1).bind fun t132 => ((ontimelaw03_not.f t125).bind fun t133 => (if t132 = t133 then (ontimelaw03_WordOrder.j0 k a0 a1 a2 t124 ((t125 == 1) != (a0 == a1))) else (ontimelaw03_WordOrder.j0 k a0 a1 a2 t124 true)))) else (ontimelaw03_WordOrder.j0 k a0 a1 a2 t124 true)))) else (ontimelaw03_WordOrder.j0 k a0 a1 a2 t124 true)))) else (ontimelaw03_WordOrder.j0 k a0 a1 a2 t124 true)) else (ontimelaw03_WordOrder.j0 k a0 a1 a2 t124 true)))))
theorem ontimelaw03_WordOrder.mono_l : ∀ k, (∀ y0 y1 y2 y3 y4, LeO (ontimelaw03_WordOrder.j0 k y0 y1 y2 y3 y4) (ontimelaw03_WordOrder.j0 (k + 1) y0 y1 y2 y3 y4))
  | 0 => fun _ _ _ _ _ r h => by simp [ontimelaw03_WordOrder.j0] at h
  | k + 1 => by
    have ih0 := ontimelaw03_WordOrder.mono_l k
    · intro y0 y1 y2 y3 y4
      unfold ontimelaw03_WordOrder.j0
      repeat' first
      | (with_reducible exact ih0 _ _ _ _ _)
      | (with_reducible exact ontimelaw03_awake.mono _)
      | (with_reducible exact ontimelaw03_op.mono _ _ _ _)
      | (with_reducible exact LeO.refl _)
      | (with_reducible exact LeO.none _)
      | (with_reducible refine LeO.ite ?_ ?_)
      | (with_reducible refine LeO.bind ?_ (fun _ => ?_))
      | exact ih0 _ _ _ _ _
      | exact ontimelaw03_awake.mono _
      | exact ontimelaw03_op.mono _ _ _ _
      | exact LeO.none _
      | refine LeO.ite ?_ ?_
      | refine LeO.bind ?_ (fun _ => ?_)
theorem ontimelaw03_WordOrder.mono : ∀ a0 a1 a2 k, LeO (ontimelaw03_WordOrder.f k a0 a1 a2) (ontimelaw03_WordOrder.f (k + 1) a0 a1 a2) := by
  intro a0 a1 a2 k
  have ih0 := ontimelaw03_WordOrder.mono_l k
  unfold ontimelaw03_WordOrder.f
  repeat' first
      | (with_reducible exact ih0 _ _ _ _ _)
      | (with_reducible exact ontimelaw03_awake.mono _)
      | (with_reducible exact ontimelaw03_op.mono _ _ _ _)
      | (with_reducible exact LeO.refl _)
      | (with_reducible exact LeO.none _)
      | (with_reducible refine LeO.ite ?_ ?_)
      | (with_reducible refine LeO.bind ?_ (fun _ => ?_))
      | exact ih0 _ _ _ _ _
      | exact ontimelaw03_awake.mono _
      | exact ontimelaw03_op.mono _ _ _ _
      | exact LeO.none _
      | refine LeO.ite ?_ ?_
      | refine LeO.bind ?_ (fun _ => ?_)
set_option maxHeartbeats 8000000 in
set_option maxRecDepth 100000 in
theorem ontimelaw03_WordOrder.calls (k : Nat) (a0 : Int) (a1 : Int) (a2 : Int) (r : Bool) (w : World) (h : ontimelaw03_WordOrder.f k a0 a1 a2 = some r) :
    Calls Try.prog 11 #[.int .i32 a0, .int .i32 a1, .int .i32 a2] w fun e w' => e = .returned (.bool r) ∧ Drawn0 w w' := by
  have H : ((ontimelaw03_op.f k 18 a0 a1).bind fun t124 => ((ontimelaw03_op.f k 16 a0 a1).bind fun t125 => ((ontimelaw03_op.f k 20 a0 a1).bind fun t126 => ((ontimelaw03_awake.f k).bind fun t127 => (if t127 = true then (if (wrap32 ((wrap32 (t124 + t125)) + t126)) = 1 then ((ontimelaw03_op.f k 19 a0 a1).bind fun t128 => ((ontimelaw03_not.f t126).bind fun t129 => (if t128 = t129 then ((ontimelaw03_op.f k 21 a0 a1).bind fun t130 => ((ontimelaw03_not.f t124).bind fun t131 => (if t130 = t131 then ((ontimelaw03_op.f k 17 a0 a1).bind fun t132 => ((ontimelaw03_not.f t125).bind fun t133 => (if t132 = t133 then (ontimelaw03_WordOrder.j0 k a0 a1 a2 t124 ((t125 == 1) != (a0 == a1))) else (ontimelaw03_WordOrder.j0 k a0 a1 a2 t124 true)))) else (ontimelaw03_WordOrder.j0 k a0 a1 a2 t124 true)))) else (ontimelaw03_WordOrder.j0 k a0 a1 a2 t124 true)))) else (ontimelaw03_WordOrder.j0 k a0 a1 a2 t124 true)) else (ontimelaw03_WordOrder.j0 k a0 a1 a2 t124 true)))))) = some r := h
  clear h
  replace H := Option.bind_eq_some_iff.mp H
  obtain ⟨t124, A40, H⟩ := H
  replace H : ((ontimelaw03_op.f k 16 a0 a1).bind fun t125 => ((ontimelaw03_op.f k 20 a0 a1).bind fun t126 => ((ontimelaw03_awake.f k).bind fun t127 => (if t127 = true then (if (wrap32 ((wrap32 (t124 + t125)) + t126)) = 1 then ((ontimelaw03_op.f k 19 a0 a1).bind fun t128 => ((ontimelaw03_not.f t126).bind fun t129 => (if t128 = t129 then ((ontimelaw03_op.f k 21 a0 a1).bind fun t130 => ((ontimelaw03_not.f t124).bind fun t131 => (if t130 = t131 then ((ontimelaw03_op.f k 17 a0 a1).bind fun t132 => ((ontimelaw03_not.f t125).bind fun t133 => (if t132 = t133 then (ontimelaw03_WordOrder.j0 k a0 a1 a2 t124 ((t125 == 1) != (a0 == a1))) else (ontimelaw03_WordOrder.j0 k a0 a1 a2 t124 true)))) else (ontimelaw03_WordOrder.j0 k a0 a1 a2 t124 true)))) else (ontimelaw03_WordOrder.j0 k a0 a1 a2 t124 true)))) else (ontimelaw03_WordOrder.j0 k a0 a1 a2 t124 true)) else (ontimelaw03_WordOrder.j0 k a0 a1 a2 t124 true))))) = some r := H
  have A4 := Aside0.mk A40
  clear A40
  replace H := Option.bind_eq_some_iff.mp H
  obtain ⟨t125, A50, H⟩ := H
  replace H : ((ontimelaw03_op.f k 20 a0 a1).bind fun t126 => ((ontimelaw03_awake.f k).bind fun t127 => (if t127 = true then (if (wrap32 ((wrap32 (t124 + t125)) + t126)) = 1 then ((ontimelaw03_op.f k 19 a0 a1).bind fun t128 => ((ontimelaw03_not.f t126).bind fun t129 => (if t128 = t129 then ((ontimelaw03_op.f k 21 a0 a1).bind fun t130 => ((ontimelaw03_not.f t124).bind fun t131 => (if t130 = t131 then ((ontimelaw03_op.f k 17 a0 a1).bind fun t132 => ((ontimelaw03_not.f t125).bind fun t133 => (if t132 = t133 then (ontimelaw03_WordOrder.j0 k a0 a1 a2 t124 ((t125 == 1) != (a0 == a1))) else (ontimelaw03_WordOrder.j0 k a0 a1 a2 t124 true)))) else (ontimelaw03_WordOrder.j0 k a0 a1 a2 t124 true)))) else (ontimelaw03_WordOrder.j0 k a0 a1 a2 t124 true)))) else (ontimelaw03_WordOrder.j0 k a0 a1 a2 t124 true)) else (ontimelaw03_WordOrder.j0 k a0 a1 a2 t124 true)))) = some r := H
  have A5 := Aside0.mk A50
  clear A50
  replace H := Option.bind_eq_some_iff.mp H
  obtain ⟨t126, A60, H⟩ := H
  replace H : ((ontimelaw03_awake.f k).bind fun t127 => (if t127 = true then (if (wrap32 ((wrap32 (t124 + t125)) + t126)) = 1 then ((ontimelaw03_op.f k 19 a0 a1).bind fun t128 => ((ontimelaw03_not.f t126).bind fun t129 => (if t128 = t129 then ((ontimelaw03_op.f k 21 a0 a1).bind fun t130 => ((ontimelaw03_not.f t124).bind fun t131 => (if t130 = t131 then ((ontimelaw03_op.f k 17 a0 a1).bind fun t132 => ((ontimelaw03_not.f t125).bind fun t133 => (if t132 = t133 then (ontimelaw03_WordOrder.j0 k a0 a1 a2 t124 ((t125 == 1) != (a0 == a1))) else (ontimelaw03_WordOrder.j0 k a0 a1 a2 t124 true)))) else (ontimelaw03_WordOrder.j0 k a0 a1 a2 t124 true)))) else (ontimelaw03_WordOrder.j0 k a0 a1 a2 t124 true)))) else (ontimelaw03_WordOrder.j0 k a0 a1 a2 t124 true)) else (ontimelaw03_WordOrder.j0 k a0 a1 a2 t124 true))) = some r := H
  have A6 := Aside0.mk A60
  clear A60
  have HC7 := Aside0.mk H
  clear H
  go_enter Try.func11, Try.ntmps11
  go_upto_region 2 with (first | ((with_reducible refine gate_callee (f := 22) rfl ?_); refine goesL_ (some 12) rfl rfl Try.func22 (by kernel_rfl) rfl #[.int .u8 18, .int .i32 a0, .int .i32 a1] rfl (by (try simp only [List.map_toArray, List.map_cons, List.map_nil]); first | done | rfl | (simp only [List.length_drop, List.length_take]; rfl)) ?_; (with_reducible refine (ontimelaw03_op.calls k 18 a0 a1 t124 _ A4.out).mono ?_); rintro e w' ⟨rfl, ⟨nd, rfl⟩⟩; refine ⟨_, rfl, ?_⟩) | ((with_reducible refine gate_callee (f := 22) rfl ?_); refine goesL_ (some 15) rfl rfl Try.func22 (by kernel_rfl) rfl #[.int .u8 16, .int .i32 a0, .int .i32 a1] rfl (by (try simp only [List.map_toArray, List.map_cons, List.map_nil]); first | done | rfl | (simp only [List.length_drop, List.length_take]; rfl)) ?_; (with_reducible refine (ontimelaw03_op.calls k 16 a0 a1 t125 _ A5.out).mono ?_); rintro e w' ⟨rfl, ⟨nd, rfl⟩⟩; refine ⟨_, rfl, ?_⟩) | ((with_reducible refine gate_callee (f := 22) rfl ?_); refine goesL_ (some 18) rfl rfl Try.func22 (by kernel_rfl) rfl #[.int .u8 20, .int .i32 a0, .int .i32 a1] rfl (by (try simp only [List.map_toArray, List.map_cons, List.map_nil]); first | done | rfl | (simp only [List.length_drop, List.length_take]; rfl)) ?_; (with_reducible refine (ontimelaw03_op.calls k 20 a0 a1 t126 _ A6.out).mono ?_); rintro e w' ⟨rfl, ⟨nd, rfl⟩⟩; refine ⟨_, rfl, ?_⟩))
  (try simp only [Act.put, List.setIfInBounds_toArray, List.set_cons_zero, List.set_cons_succ])
  go_cut [60] (fun v60 wc => ∃ (kq : Nat) (x60_6 : Bool), v60 = .bool x60_6 ∧ Aside0 (ontimelaw03_WordOrder.j0 kq a0 a1 a2 t124 x60_6 = some r) ∧ Aside0 (kq ≤ k) ∧ Drawn0 w wc)
  case first =>
    have H := HC7.out
    clear HC7
    replace H := Option.bind_eq_some_iff.mp H
    obtain ⟨t127, A80, H⟩ := H
    replace H : (if t127 = true then (if (wrap32 ((wrap32 (t124 + t125)) + t126)) = 1 then ((ontimelaw03_op.f k 19 a0 a1).bind fun t128 => ((ontimelaw03_not.f t126).bind fun t129 => (if t128 = t129 then ((ontimelaw03_op.f k 21 a0 a1).bind fun t130 => ((ontimelaw03_not.f t124).bind fun t131 => (if t130 = t131 then ((ontimelaw03_op.f k 17 a0 a1).bind fun t132 => ((ontimelaw03_not.f t125).bind fun t133 => (if t132 = t133 then (ontimelaw03_WordOrder.j0 k a0 a1 a2 t124 ((t125 == 1) != (a0 == a1))) else (ontimelaw03_WordOrder.j0 k a0 a1 a2 t124 true)))) else (ontimelaw03_WordOrder.j0 k a0 a1 a2 t124 true)))) else (ontimelaw03_WordOrder.j0 k a0 a1 a2 t124 true)))) else (ontimelaw03_WordOrder.j0 k a0 a1 a2 t124 true)) else (ontimelaw03_WordOrder.j0 k a0 a1 a2 t124 true)) = some r := H
    have A8 := Aside0.mk A80
    clear A80
    by_cases c9 : t127 = true
    · subst c9
      have H1 : (if (wrap32 ((wrap32 (t124 + t125)) + t126)) = 1 then ((ontimelaw03_op.f k 19 a0 a1).bind fun t128 => ((ontimelaw03_not.f t126).bind fun t129 => (if t128 = t129 then ((ontimelaw03_op.f k 21 a0 a1).bind fun t130 => ((ontimelaw03_not.f t124).bind fun t131 => (if t130 = t131 then ((ontimelaw03_op.f k 17 a0 a1).bind fun t132 => ((ontimelaw03_not.f t125).bind fun t133 => (if t132 = t133 then (ontimelaw03_WordOrder.j0 k a0 a1 a2 t124 ((t125 == 1) != (a0 == a1))) else (ontimelaw03_WordOrder.j0 k a0 a1 a2 t124 true)))) else (ontimelaw03_WordOrder.j0 k a0 a1 a2 t124 true)))) else (ontimelaw03_WordOrder.j0 k a0 a1 a2 t124 true)))) else (ontimelaw03_WordOrder.j0 k a0 a1 a2 t124 true)) = some r := by rw [if_pos rfl] at H; exact H
      clear H
      have H := H1
      clear H1
      by_cases c10 : (wrap32 ((wrap32 (t124 + t125)) + t126)) = 1
      · rw [if_pos c10] at H
        have c10b0 : ((wrap32 ((wrap32 (t124 + t125)) + t126)) == 1) = true := beq_iff_eq.mpr c10
        have c10b1 : ((wrap32 ((wrap32 (t124 + t125)) + t126)) != 1) = false := bne_eq_false_iff_eq.mpr c10
        clear c10
        (first | rw [c10b0] | (simp only [i64_w, i32_w]; rw [c10b0]) | skip)
        replace H := Option.bind_eq_some_iff.mp H
        obtain ⟨t128, A110, H⟩ := H
        replace H : ((ontimelaw03_not.f t126).bind fun t129 => (if t128 = t129 then ((ontimelaw03_op.f k 21 a0 a1).bind fun t130 => ((ontimelaw03_not.f t124).bind fun t131 => (if t130 = t131 then ((ontimelaw03_op.f k 17 a0 a1).bind fun t132 => ((ontimelaw03_not.f t125).bind fun t133 => (if t132 = t133 then (ontimelaw03_WordOrder.j0 k a0 a1 a2 t124 ((t125 == 1) != (a0 == a1))) else (ontimelaw03_WordOrder.j0 k a0 a1 a2 t124 true)))) else (ontimelaw03_WordOrder.j0 k a0 a1 a2 t124 true)))) else (ontimelaw03_WordOrder.j0 k a0 a1 a2 t124 true))) = some r := H
        have A11 := Aside0.mk A110
        clear A110
        replace H := Option.bind_eq_some_iff.mp H
        obtain ⟨t129, A120, H⟩ := H
        replace H : (if t128 = t129 then ((ontimelaw03_op.f k 21 a0 a1).bind fun t130 => ((ontimelaw03_not.f t124).bind fun t131 => (if t130 = t131 then ((ontimelaw03_op.f k 17 a0 a1).bind fun t132 => ((ontimelaw03_not.f t125).bind fun t133 => (if t132 = t133 then (ontimelaw03_WordOrder.j0 k a0 a1 a2 t124 ((t125 == 1) != (a0 == a1))) else (ontimelaw03_WordOrder.j0 k a0 a1 a2 t124 true)))) else (ontimelaw03_WordOrder.j0 k a0 a1 a2 t124 true)))) else (ontimelaw03_WordOrder.j0 k a0 a1 a2 t124 true)) = some r := H
        have A12 := Aside0.mk A120
        clear A120
        by_cases c13 : t128 = t129
        · rw [if_pos c13] at H
          have c13b0 : (t128 == t129) = true := beq_iff_eq.mpr c13
          have c13b1 : (t128 != t129) = false := bne_eq_false_iff_eq.mpr c13
          clear c13
          replace H := Option.bind_eq_some_iff.mp H
          obtain ⟨t130, A140, H⟩ := H
          replace H : ((ontimelaw03_not.f t124).bind fun t131 => (if t130 = t131 then ((ontimelaw03_op.f k 17 a0 a1).bind fun t132 => ((ontimelaw03_not.f t125).bind fun t133 => (if t132 = t133 then (ontimelaw03_WordOrder.j0 k a0 a1 a2 t124 ((t125 == 1) != (a0 == a1))) else (ontimelaw03_WordOrder.j0 k a0 a1 a2 t124 true)))) else (ontimelaw03_WordOrder.j0 k a0 a1 a2 t124 true))) = some r := H
          have A14 := Aside0.mk A140
          clear A140
          replace H := Option.bind_eq_some_iff.mp H
          obtain ⟨t131, A150, H⟩ := H
          replace H : (if t130 = t131 then ((ontimelaw03_op.f k 17 a0 a1).bind fun t132 => ((ontimelaw03_not.f t125).bind fun t133 => (if t132 = t133 then (ontimelaw03_WordOrder.j0 k a0 a1 a2 t124 ((t125 == 1) != (a0 == a1))) else (ontimelaw03_WordOrder.j0 k a0 a1 a2 t124 true)))) else (ontimelaw03_WordOrder.j0 k a0 a1 a2 t124 true)) = some r := H
          have A15 := Aside0.mk A150
          clear A150
          by_cases c16 : t130 = t131
          · rw [if_pos c16] at H
            have c16b0 : (t130 == t131) = true := beq_iff_eq.mpr c16
            have c16b1 : (t130 != t131) = false := bne_eq_false_iff_eq.mpr c16
            clear c16
            replace H := Option.bind_eq_some_iff.mp H
            obtain ⟨t132, A170, H⟩ := H
            replace H : ((ontimelaw03_not.f t125).bind fun t133 => (if t132 = t133 then (ontimelaw03_WordOrder.j0 k a0 a1 a2 t124 ((t125 == 1) != (a0 == a1))) else (ontimelaw03_WordOrder.j0 k a0 a1 a2 t124 true))) = some r := H
            have A17 := Aside0.mk A170
            clear A170
            replace H := Option.bind_eq_some_iff.mp H
            obtain ⟨t133, A180, H⟩ := H
            replace H : (if t132 = t133 then (ontimelaw03_WordOrder.j0 k a0 a1 a2 t124 ((t125 == 1) != (a0 == a1))) else (ontimelaw03_WordOrder.j0 k a0 a1 a2 t124 true)) = some r := H
            have A18 := Aside0.mk A180
            clear A180
            by_cases c19 : t132 = t133
            · rw [if_pos c19] at H
              have c19b0 : (t132 == t133) = true := beq_iff_eq.mpr c19
              have c19b1 : (t132 != t133) = false := bne_eq_false_iff_eq.mpr c19
              clear c19
              have H' := Aside0.mk H
              clear H
              go_wp2_with (first | ((with_reducible refine gate_callee (f := 21) rfl ?_); refine goesL_ (some 19) rfl rfl Try.func21 (by kernel_rfl) rfl #[] rfl (by (try simp only [List.map_toArray, List.map_cons, List.map_nil]); first | done | rfl | (simp only [List.length_drop, List.length_take]; rfl)) ?_; (with_reducible refine (ontimelaw03_awake.calls k  true _ A8.out).mono ?_); rintro e w' ⟨rfl, ⟨nd, rfl⟩⟩; refine ⟨_, rfl, ?_⟩) | (go_at_call 22; (with_reducible refine (ontimelaw03_op.calls k 19 a0 a1 t128 _ A11.out).mono ?_); rintro e w' ⟨rfl, ⟨nd, rfl⟩⟩) | (go_at_call 37; (with_reducible refine (ontimelaw03_not.calls t126 t129 _ A12.out).mono ?_); rintro e w' ⟨rfl, ⟨nd, rfl⟩⟩) | (go_at_call 22; (with_reducible refine (ontimelaw03_op.calls k 21 a0 a1 t130 _ A14.out).mono ?_); rintro e w' ⟨rfl, ⟨nd, rfl⟩⟩) | (go_at_call 37; (with_reducible refine (ontimelaw03_not.calls t124 t131 _ A15.out).mono ?_); rintro e w' ⟨rfl, ⟨nd, rfl⟩⟩) | (go_at_call 22; (with_reducible refine (ontimelaw03_op.calls k 17 a0 a1 t132 _ A17.out).mono ?_); rintro e w' ⟨rfl, ⟨nd, rfl⟩⟩) | (go_at_call 37; (with_reducible refine (ontimelaw03_not.calls t125 t133 _ A18.out).mono ?_); rintro e w' ⟨rfl, ⟨nd, rfl⟩⟩))
              go_meet
              case rel => exact ⟨_, (((t125 == 1) != (a0 == a1))), (by first | rfl | (simp; done) | (simp [*]; done)), H', ⟨by first | omega | exact Nat.le_refl _⟩, by repeat (first | exact Drawn0.refl _ | apply Drawn0.step)⟩
            · rw [if_neg c19] at H
              have c19b0 : (t132 == t133) = false := beq_eq_false_iff_ne.mpr c19
              have c19b1 : (t132 != t133) = true := bne_iff_ne.mpr c19
              have H' := Aside0.mk H
              clear H
              go_wp2_with (first | ((with_reducible refine gate_callee (f := 21) rfl ?_); refine goesL_ (some 19) rfl rfl Try.func21 (by kernel_rfl) rfl #[] rfl (by (try simp only [List.map_toArray, List.map_cons, List.map_nil]); first | done | rfl | (simp only [List.length_drop, List.length_take]; rfl)) ?_; (with_reducible refine (ontimelaw03_awake.calls k  true _ A8.out).mono ?_); rintro e w' ⟨rfl, ⟨nd, rfl⟩⟩; refine ⟨_, rfl, ?_⟩) | (go_at_call 22; (with_reducible refine (ontimelaw03_op.calls k 19 a0 a1 t128 _ A11.out).mono ?_); rintro e w' ⟨rfl, ⟨nd, rfl⟩⟩) | (go_at_call 37; (with_reducible refine (ontimelaw03_not.calls t126 t129 _ A12.out).mono ?_); rintro e w' ⟨rfl, ⟨nd, rfl⟩⟩) | (go_at_call 22; (with_reducible refine (ontimelaw03_op.calls k 21 a0 a1 t130 _ A14.out).mono ?_); rintro e w' ⟨rfl, ⟨nd, rfl⟩⟩) | (go_at_call 37; (with_reducible refine (ontimelaw03_not.calls t124 t131 _ A15.out).mono ?_); rintro e w' ⟨rfl, ⟨nd, rfl⟩⟩) | (go_at_call 22; (with_reducible refine (ontimelaw03_op.calls k 17 a0 a1 t132 _ A17.out).mono ?_); rintro e w' ⟨rfl, ⟨nd, rfl⟩⟩) | (go_at_call 37; (with_reducible refine (ontimelaw03_not.calls t125 t133 _ A18.out).mono ?_); rintro e w' ⟨rfl, ⟨nd, rfl⟩⟩))
              go_meet
              case rel => exact ⟨_, (true), (by first | rfl | (simp; done) | (simp [*]; done)), H', ⟨by first | omega | exact Nat.le_refl _⟩, by repeat (first | exact Drawn0.refl _ | apply Drawn0.step)⟩
          · rw [if_neg c16] at H
            have c16b0 : (t130 == t131) = false := beq_eq_false_iff_ne.mpr c16
            have c16b1 : (t130 != t131) = true := bne_iff_ne.mpr c16
            have H' := Aside0.mk H
            clear H
            go_wp2_with (first | ((with_reducible refine gate_callee (f := 21) rfl ?_); refine goesL_ (some 19) rfl rfl Try.func21 (by kernel_rfl) rfl #[] rfl (by (try simp only [List.map_toArray, List.map_cons, List.map_nil]); first | done | rfl | (simp only [List.length_drop, List.length_take]; rfl)) ?_; (with_reducible refine (ontimelaw03_awake.calls k  true _ A8.out).mono ?_); rintro e w' ⟨rfl, ⟨nd, rfl⟩⟩; refine ⟨_, rfl, ?_⟩) | (go_at_call 22; (with_reducible refine (ontimelaw03_op.calls k 19 a0 a1 t128 _ A11.out).mono ?_); rintro e w' ⟨rfl, ⟨nd, rfl⟩⟩) | (go_at_call 37; (with_reducible refine (ontimelaw03_not.calls t126 t129 _ A12.out).mono ?_); rintro e w' ⟨rfl, ⟨nd, rfl⟩⟩) | (go_at_call 22; (with_reducible refine (ontimelaw03_op.calls k 21 a0 a1 t130 _ A14.out).mono ?_); rintro e w' ⟨rfl, ⟨nd, rfl⟩⟩) | (go_at_call 37; (with_reducible refine (ontimelaw03_not.calls t124 t131 _ A15.out).mono ?_); rintro e w' ⟨rfl, ⟨nd, rfl⟩⟩))
            go_meet
            case rel => exact ⟨_, (true), (by first | rfl | (simp; done) | (simp [*]; done)), H', ⟨by first | omega | exact Nat.le_refl _⟩, by repeat (first | exact Drawn0.refl _ | apply Drawn0.step)⟩
        · rw [if_neg c13] at H
          have c13b0 : (t128 == t129) = false := beq_eq_false_iff_ne.mpr c13
          have c13b1 : (t128 != t129) = true := bne_iff_ne.mpr c13
          have H' := Aside0.mk H
          clear H
          go_wp2_with (first | ((with_reducible refine gate_callee (f := 21) rfl ?_); refine goesL_ (some 19) rfl rfl Try.func21 (by kernel_rfl) rfl #[] rfl (by (try simp only [List.map_toArray, List.map_cons, List.map_nil]); first | done | rfl | (simp only [List.length_drop, List.length_take]; rfl)) ?_; (with_reducible refine (ontimelaw03_awake.calls k  true _ A8.out).mono ?_); rintro e w' ⟨rfl, ⟨nd, rfl⟩⟩; refine ⟨_, rfl, ?_⟩) | (go_at_call 22; (with_reducible refine (ontimelaw03_op.calls k 19 a0 a1 t128 _ A11.out).mono ?_); rintro e w' ⟨rfl, ⟨nd, rfl⟩⟩) | (go_at_call 37; (with_reducible refine (ontimelaw03_not.calls t126 t129 _ A12.out).mono ?_); rintro e w' ⟨rfl, ⟨nd, rfl⟩⟩))
          go_meet
          case rel => exact ⟨_, (true), (by first | rfl | (simp; done) | (simp [*]; done)), H', ⟨by first | omega | exact Nat.le_refl _⟩, by repeat (first | exact Drawn0.refl _ | apply Drawn0.step)⟩
      · rw [if_neg c10] at H
        have c10b0 : ((wrap32 ((wrap32 (t124 + t125)) + t126)) == 1) = false := beq_eq_false_iff_ne.mpr c10
        have c10b1 : ((wrap32 ((wrap32 (t124 + t125)) + t126)) != 1) = true := bne_iff_ne.mpr c10
        (first | rw [c10b0] | (simp only [i64_w, i32_w]; rw [c10b0]) | skip)
        have H' := Aside0.mk H
        clear H
        go_wp2_with (first | ((with_reducible refine gate_callee (f := 21) rfl ?_); refine goesL_ (some 19) rfl rfl Try.func21 (by kernel_rfl) rfl #[] rfl (by (try simp only [List.map_toArray, List.map_cons, List.map_nil]); first | done | rfl | (simp only [List.length_drop, List.length_take]; rfl)) ?_; (with_reducible refine (ontimelaw03_awake.calls k  true _ A8.out).mono ?_); rintro e w' ⟨rfl, ⟨nd, rfl⟩⟩; refine ⟨_, rfl, ?_⟩))
        go_meet
        case rel => exact ⟨_, (true), (by first | rfl | (simp; done) | (simp [*]; done)), H', ⟨by first | omega | exact Nat.le_refl _⟩, by repeat (first | exact Drawn0.refl _ | apply Drawn0.step)⟩
    · replace c9 := Bool.eq_false_iff.mpr c9
      subst c9
      have H1 : (ontimelaw03_WordOrder.j0 k a0 a1 a2 t124 true) = some r := by rw [if_neg (show ¬ (false = true) by decide)] at H; exact H
      clear H
      have H := H1
      clear H1
      have H' := Aside0.mk H
      clear H
      go_wp2_with (first | ((with_reducible refine gate_callee (f := 21) rfl ?_); refine goesL_ (some 19) rfl rfl Try.func21 (by kernel_rfl) rfl #[] rfl (by (try simp only [List.map_toArray, List.map_cons, List.map_nil]); first | done | rfl | (simp only [List.length_drop, List.length_take]; rfl)) ?_; (with_reducible refine (ontimelaw03_awake.calls k  false _ A8.out).mono ?_); rintro e w' ⟨rfl, ⟨nd, rfl⟩⟩; refine ⟨_, rfl, ?_⟩))
      go_meet
      case rel => exact ⟨_, (true), (by first | rfl | (simp; done) | (simp [*]; done)), H', ⟨by first | omega | exact Nat.le_refl _⟩, by repeat (first | exact Drawn0.refl _ | apply Drawn0.step)⟩
  case rest =>
    clear HC7
    try clear c1
    try clear c2
    try clear p2
    try clear p3
    try clear c9
    try clear c10
    try clear c10b0
    try clear c10b1
    try clear c11
    try clear c13
    try clear c13b0
    try clear c13b1
    try clear c16
    try clear c16b0
    try clear c16b1
    try clear c19
    try clear c19b0
    try clear c19b1
    obtain ⟨kq, x60_6, rfl, HA, HJ6, ⟨mc6, rfl⟩⟩ := hcut
    cases kq with
    | zero => exact absurd HA.out (by simp [ontimelaw03_WordOrder.j0])
    | succ kj6 =>
      have H := HA.out
      clear HA
      simp only [ontimelaw03_WordOrder.j0] at H
      by_cases c20 : x60_6 = true
      · subst c20
        have H1 : (some false) = some r := by rw [if_pos rfl] at H; exact H
        clear H
        have H := H1
        clear H1
        obtain rfl := Option.some.inj H
        go_wp2
        go_ret
        exact ⟨by first | rfl | (simp; done) | (simp [*]; done), by repeat (first | exact Drawn0.refl _ | apply Drawn0.step)⟩
      · replace c20 := Bool.eq_false_iff.mpr c20
        subst c20
        have H1 : (if t124 = 0 then (some true) else ((ontimelaw03_op.f kj6 18 a1 a2).bind fun t134 => (if t134 = 0 then (some true) else ((ontimelaw03_op.f kj6 18 a0 a2).bind fun t135 => (some (t135 == 1)))))) = some r := by rw [if_neg (show ¬ (false = true) by decide)] at H; exact H
        clear H
        have H := H1
        clear H1
        by_cases c21 : t124 = 0
        · rw [if_pos c21] at H
          have c21b0 : (t124 == 0) = true := beq_iff_eq.mpr c21
          have c21b1 : (t124 != 0) = false := bne_eq_false_iff_eq.mpr c21
          clear c21
          obtain rfl := Option.some.inj H
          go_wp2
          go_ret
          exact ⟨by first | rfl | (simp; done) | (simp [*]; done), by repeat (first | exact Drawn0.refl _ | apply Drawn0.step)⟩
        · rw [if_neg c21] at H
          have c21b0 : (t124 == 0) = false := beq_eq_false_iff_ne.mpr c21
          have c21b1 : (t124 != 0) = true := bne_iff_ne.mpr c21
          replace H := Option.bind_eq_some_iff.mp H
          obtain ⟨t134, A220, H⟩ := H
          replace H : (if t134 = 0 then (some true) else ((ontimelaw03_op.f kj6 18 a0 a2).bind fun t135 => (some (t135 == 1)))) = some r := H
          have A22 := Aside0.mk A220
          clear A220
          by_cases c23 : t134 = 0
          · rw [if_pos c23] at H
            have c23b0 : (t134 == 0) = true := beq_iff_eq.mpr c23
            have c23b1 : (t134 != 0) = false := bne_eq_false_iff_eq.mpr c23
            clear c23
            obtain rfl := Option.some.inj H
            go_wp2_with (first | (go_at_call 22; (with_reducible refine (ontimelaw03_op.calls kj6 18 a1 a2 t134 _ A22.out).mono ?_); rintro e w' ⟨rfl, ⟨nd, rfl⟩⟩))
            go_ret
            exact ⟨by first | rfl | (simp; done) | (simp [*]; done), by repeat (first | exact Drawn0.refl _ | apply Drawn0.step)⟩
          · rw [if_neg c23] at H
            have c23b0 : (t134 == 0) = false := beq_eq_false_iff_ne.mpr c23
            have c23b1 : (t134 != 0) = true := bne_iff_ne.mpr c23
            replace H := Option.bind_eq_some_iff.mp H
            obtain ⟨t135, A240, H⟩ := H
            replace H : (some (t135 == 1)) = some r := H
            have A24 := Aside0.mk A240
            clear A240
            obtain rfl := Option.some.inj H
            go_wp2_with (first | (go_at_call 22; (with_reducible refine (ontimelaw03_op.calls kj6 18 a1 a2 t134 _ A22.out).mono ?_); rintro e w' ⟨rfl, ⟨nd, rfl⟩⟩) | (go_at_call 22; (with_reducible refine (ontimelaw03_op.calls kj6 18 a0 a2 t135 _ A24.out).mono ?_); rintro e w' ⟨rfl, ⟨nd, rfl⟩⟩))
            go_ret
            exact ⟨by first | rfl | (simp; done) | (simp [*]; done), by repeat (first | exact Drawn0.refl _ | apply Drawn0.step)⟩

/-- THE ONE PURE STATEMENT of ontimelaw03_WordOrder: yours. -/
def ontimelaw03_WordOrder.Pure : Prop := ∀ (a0 : Int) (a1 : Int) (a2 : Int), (Lit.int .i32 a0).wf = true → (Lit.int .i32 a1).wf = true → (Lit.int .i32 a2).wf = true → ∃ k, ontimelaw03_WordOrder.f k a0 a1 a2 = some true
theorem ontimelaw03_WordOrder.walk (P : ontimelaw03_WordOrder.Pure) (a0 : Int) (a1 : Int) (a2 : Int) (w : World) (w0 : (Lit.int .i32 a0).wf = true) (w1 : (Lit.int .i32 a1).wf = true) (w2 : (Lit.int .i32 a2).wf = true) :
    Calls Try.prog 11 #[.int .i32 a0, .int .i32 a1, .int .i32 a2] w fun e w' => e = .returned (.bool true) ∧ Below w.heap.size w w' := by
  obtain ⟨k, h⟩ := P a0 a1 a2 w0 w1 w2
  refine (ontimelaw03_WordOrder.calls k a0 a1 a2 true w h).mono ?_
  rintro e w' ⟨rfl, hd⟩
  exact ⟨rfl, hd.below⟩

end Go.Proofs.Ytoalomjmmlnclaa.PWordOrder
