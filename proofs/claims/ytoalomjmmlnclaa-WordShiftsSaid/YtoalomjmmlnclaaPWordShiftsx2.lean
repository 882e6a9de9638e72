-- PRINTED BY print.sh 35421559b90ae4d0a3588c463048766b98c2df88dd9212a6774a882060cdf62d: not written by this session
import Derived.Test.YtoalomjmmlnclaaPWordShiftsx0
import Derived.Test.YtoalomjmmlnclaaPWordShiftsx1
namespace Go.Proofs.Ytoalomjmmlnclaa.PWordShifts
open Go.RowKit Go.Proofs.YtoalomjmmlnclaaW.PrintWords Go.Proofs.YtoalomjmmlnclaaW.PrintLast Go.Proofs.YtoalomjmmlnclaaW.PrintMore
attribute [local go_sem] max2_int min2_int max_two min_two max_three min_three max_four min_four   -- for this text's walks alone
set_option linter.unusedVariables false
set_option linter.unusedSimpArgs false

/-! ### ontimelaw03_WordShifts: function 5 -/
def ontimelaw03_WordShifts.j0 : Nat → Int → Int → Int → Int → Int → Bool → Option (Bool)
  | 0, _, _, _, _, _, _ => none
  | k + 1, x0, x7, x8, x9, x10, x39 => if x39 = true then (some false) else (if x7 < 31 then ((ontimelaw03_op.f k 8 x0 (wrap32 (x8))).bind fun t127 => (if x9 = t127 then ((ontimelaw03_awake.f k).bind fun t128 => (if t128 = true then (if (wrap64 ((wrap64 (x10)) * x8)) ≤ (wrap64 (x0)) then (some (decide ((wrap64 ((wrap64 ((wrap64 (x10)) + 1)) * x8)) > (wrap64 (x0))))) else (some false)) else (some false))) else (some false))) else ((ontimelaw03_awake.f k).bind fun t129 => (if t129 = true then (if (wrap64 ((wrap64 (x10)) * x8)) ≤ (wrap64 (x0)) then (some (decide ((wrap64 ((wrap64 ((wrap64 (x10)) + 1)) * x8)) > (wrap64 (x0))))) else (some false)) else (some false))))
def ontimelaw03_WordShifts.f (k : Nat) (a0 : Int) (a1 : Int) (a2 : Int) : Option (Bool) := if 0 ≤ (Go.bits .and .i64 (wrap64 (a1)) 31) then ((ontimelaw03_op.f k 14 a0 a1).bind fun t121 => ((ontimelaw03_op.f k 15 a0 a1).bind fun t122 => ((ontimelaw03_op.f k 8 32 (wrap32 (a2))).bind fun t123 => ((ontimelaw03_op.f k 6 a1 t123).bind fun t124 => ((ontimelaw03_op.f k 14 a0 t124).bind fun t125 => (if t121 = t125 then ((ontimelaw03_op.f k 15 a0 t124).bind fun t126 => (ontimelaw03_WordShifts.j0 k a0 (Go.bits .and .i64 (wrap64 (a1)) 31) (shl .i64 1 (Go.bits .and .i64 (wrap64 (a1)) 31)) t121 t122 (t122 != t126))) else (ontimelaw03_WordShifts.j0 k a0 (Go.bits .and .i64 (wrap64 (a1)) 31) (shl .i64 1 (Go.bits .and .i64 (wrap64 (a1)) 31)) t121 t122 true))))))) else (none)
theorem ontimelaw03_WordShifts.mono_l : ∀ k, (∀ y0 y1 y2 y3 y4 y5, LeO (ontimelaw03_WordShifts.j0 k y0 y1 y2 y3 y4 y5) (ontimelaw03_WordShifts.j0 (k + 1) y0 y1 y2 y3 y4 y5))
  | 0 => fun _ _ _ _ _ _ r h => by simp [ontimelaw03_WordShifts.j0] at h
  | k + 1 => by
    have ih0 := ontimelaw03_WordShifts.mono_l k
    · intro y0 y1 y2 y3 y4 y5
      unfold ontimelaw03_WordShifts.j0
      repeat' first
      | (with_reducible exact ih0 _ _ _ _ _ _)
      | (with_reducible exact ontimelaw03_awake.mono _)
      | (with_reducible exact ontimelaw03_op.mono _ _ _ _)
      | (with_reducible exact LeO.refl _)
      | (with_reducible exact LeO.none _)
      | (with_reducible refine LeO.ite ?_ ?_)
      | (with_reducible refine LeO.bind ?_ (fun _ => ?_))
      | exact ih0 _ _ _ _ _ _
      | exact ontimelaw03_awake.mono _
      | exact ontimelaw03_op.mono _ _ _ _
      | exact LeO.none _
      | refine LeO.ite ?_ ?_
      | refine LeO.bind ?_ (fun _ => ?_)
theorem ontimelaw03_WordShifts.mono : ∀ a0 a1 a2 k, LeO (ontimelaw03_WordShifts.f k a0 a1 a2) (ontimelaw03_WordShifts.f (k + 1) a0 a1 a2) := by
  intro a0 a1 a2 k
  have ih0 := ontimelaw03_WordShifts.mono_l k
  unfold ontimelaw03_WordShifts.f
  repeat' first
      | (with_reducible exact ih0 _ _ _ _ _ _)
      | (with_reducible exact ontimelaw03_awake.mono _)
      | (with_reducible exact ontimelaw03_op.mono _ _ _ _)
      | (with_reducible exact LeO.refl _)
      | (with_reducible exact LeO.none _)
      | (with_reducible refine LeO.ite ?_ ?_)
      | (with_reducible refine LeO.bind ?_ (fun _ => ?_))
      | exact ih0 _ _ _ _ _ _
      | exact ontimelaw03_awake.mono _
      | exact ontimelaw03_op.mono _ _ _ _
      | exact LeO.none _
      | refine LeO.ite ?_ ?_
      | refine LeO.bind ?_ (fun _ => ?_)
set_option maxHeartbeats 8000000 in
set_option maxRecDepth 100000 in
theorem ontimelaw03_WordShifts.calls (k : Nat) (a0 : Int) (a1 : Int) (a2 : Int) (r : Bool) (w : World) (h : ontimelaw03_WordShifts.f k a0 a1 a2 = some r) :
    Calls Try.prog 5 #[.int .i32 a0, .int .i32 a1, .int .i8 a2] w fun e w' => e = .returned (.bool r) ∧ Drawn0 w w' := by
  have H : (if 0 ≤ (Go.bits .and .i64 (wrap64 (a1)) 31) then ((ontimelaw03_op.f k 14 a0 a1).bind fun t121 => ((ontimelaw03_op.f k 15 a0 a1).bind fun t122 => ((ontimelaw03_op.f k 8 32 (wrap32 (a2))).bind fun t123 => ((ontimelaw03_op.f k 6 a1 t123).bind fun t124 => ((ontimelaw03_op.f k 14 a0 t124).bind fun t125 => (if t121 = t125 then ((ontimelaw03_op.f k 15 a0 t124).bind fun t126 => (ontimelaw03_WordShifts.j0 k a0 (Go.bits .and .i64 (wrap64 (a1)) 31) (shl .i64 1 (Go.bits .and .i64 (wrap64 (a1)) 31)) t121 t122 (t122 != t126))) else (ontimelaw03_WordShifts.j0 k a0 (Go.bits .and .i64 (wrap64 (a1)) 31) (shl .i64 1 (Go.bits .and .i64 (wrap64 (a1)) 31)) t121 t122 true))))))) else (none)) = some r := h
  clear h
  obtain ⟨ji4, hji4⟩ : ∃ j_ : Int, (Go.bits .and .i64 (wrap64 (a1)) 31) = j_ := ⟨_, rfl⟩
  replace H : (if 0 ≤ (ji4) then ((ontimelaw03_op.f k 14 a0 a1).bind fun t121 => ((ontimelaw03_op.f k 15 a0 a1).bind fun t122 => ((ontimelaw03_op.f k 8 32 (wrap32 (a2))).bind fun t123 => ((ontimelaw03_op.f k 6 a1 t123).bind fun t124 => ((ontimelaw03_op.f k 14 a0 t124).bind fun t125 => (if t121 = t125 then ((ontimelaw03_op.f k 15 a0 t124).bind fun t126 => (ontimelaw03_WordShifts.j0 k a0 ji4 (shl .i64 1 (ji4)) t121 t122 (t122 != t126))) else (ontimelaw03_WordShifts.j0 k a0 ji4 (shl .i64 1 (ji4)) t121 t122 true))))))) else (none)) = some r := by first | (rw [hji4] at H; exact H) | (simp only [hji4] at H ⊢; exact H)
  by_cases c5 : 0 ≤ (ji4)
  · rw [if_pos c5] at H
    have c5b0 := eq_true c5
    have c5b1 : decide (0 ≤ (ji4)) = true := decide_eq_true c5
    clear c5
    obtain ⟨ji6, hji6⟩ : ∃ j_ : Int, (shl .i64 1 (ji4)) = j_ := ⟨_, rfl⟩
    replace H : ((ontimelaw03_op.f k 14 a0 a1).bind fun t121 => ((ontimelaw03_op.f k 15 a0 a1).bind fun t122 => ((ontimelaw03_op.f k 8 32 (wrap32 (a2))).bind fun t123 => ((ontimelaw03_op.f k 6 a1 t123).bind fun t124 => ((ontimelaw03_op.f k 14 a0 t124).bind fun t125 => (if t121 = t125 then ((ontimelaw03_op.f k 15 a0 t124).bind fun t126 => (ontimelaw03_WordShifts.j0 k a0 ji4 ji6 t121 t122 (t122 != t126))) else (ontimelaw03_WordShifts.j0 k a0 ji4 ji6 t121 t122 true))))))) = some r := by first | (rw [hji6] at H; exact H) | (simp only [hji6] at H ⊢; exact H)
    have hji6_ : (IntKind.i64.wrap (1 * 2 ^ min (ji4).toNat 64)) = ji6 := hji6
    have hji6z : (ji4) ≤ 64 → (IntKind.i64.wrap (1 * 2 ^ (ji4).toNat)) = ji6 := shl_small hji6
    have hji6u : (IntKind.i64.wrap (2 ^ min (ji4).toNat 64)) = ji6 := by have h_ := hji6_; rw [Int.one_mul] at h_; exact h_
    have hji6v : (ji4) ≤ 64 → (IntKind.i64.wrap (2 ^ (ji4).toNat)) = ji6 := fun hle_ => by have h_ := hji6z hle_; rw [Int.one_mul] at h_; exact h_
    have hji6y : (wrap64 (1 * 2 ^ min (ji4).toNat 64)) = ji6 := (i64_w _).symm.trans hji6_
    have hji6x : (ji4) ≤ 64 → (wrap64 (1 * 2 ^ (ji4).toNat)) = ji6 := fun h_ => (i64_w _).symm.trans (hji6z h_)
    replace H := Option.bind_eq_some_iff.mp H
    obtain ⟨t121, A70, H⟩ := H
    replace H : ((ontimelaw03_op.f k 15 a0 a1).bind fun t122 => ((ontimelaw03_op.f k 8 32 (wrap32 (a2))).bind fun t123 => ((ontimelaw03_op.f k 6 a1 t123).bind fun t124 => ((ontimelaw03_op.f k 14 a0 t124).bind fun t125 => (if t121 = t125 then ((ontimelaw03_op.f k 15 a0 t124).bind fun t126 => (ontimelaw03_WordShifts.j0 k a0 ji4 ji6 t121 t122 (t122 != t126))) else (ontimelaw03_WordShifts.j0 k a0 ji4 ji6 t121 t122 true)))))) = some r := H
    have A7 := Aside0.mk A70
    clear A70
    replace H := Option.bind_eq_some_iff.mp H
    obtain ⟨t122, A80, H⟩ := H
    replace H : ((ontimelaw03_op.f k 8 32 (wrap32 (a2))).bind fun t123 => ((ontimelaw03_op.f k 6 a1 t123).bind fun t124 => ((ontimelaw03_op.f k 14 a0 t124).bind fun t125 => (if t121 = t125 then ((ontimelaw03_op.f k 15 a0 t124).bind fun t126 => (ontimelaw03_WordShifts.j0 k a0 ji4 ji6 t121 t122 (t122 != t126))) else (ontimelaw03_WordShifts.j0 k a0 ji4 ji6 t121 t122 true))))) = some r := H
    have A8 := Aside0.mk A80
    clear A80
    replace H := Option.bind_eq_some_iff.mp H
    obtain ⟨t123, A90, H⟩ := H
    replace H : ((ontimelaw03_op.f k 6 a1 t123).bind fun t124 => ((ontimelaw03_op.f k 14 a0 t124).bind fun t125 => (if t121 = t125 then ((ontimelaw03_op.f k 15 a0 t124).bind fun t126 => (ontimelaw03_WordShifts.j0 k a0 ji4 ji6 t121 t122 (t122 != t126))) else (ontimelaw03_WordShifts.j0 k a0 ji4 ji6 t121 t122 true)))) = some r := H
    have A9 := Aside0.mk A90
    clear A90
    replace H := Option.bind_eq_some_iff.mp H
    obtain ⟨t124, A100, H⟩ := H
    replace H : ((ontimelaw03_op.f k 14 a0 t124).bind fun t125 => (if t121 = t125 then ((ontimelaw03_op.f k 15 a0 t124).bind fun t126 => (ontimelaw03_WordShifts.j0 k a0 ji4 ji6 t121 t122 (t122 != t126))) else (ontimelaw03_WordShifts.j0 k a0 ji4 ji6 t121 t122 true))) = some r := H
    have A10 := Aside0.mk A100
    clear A100
    have HC11 := Aside0.mk H
    clear H
    go_enter Try.func5, Try.ntmps5
    go_upto_region 5 with (first | ((with_reducible refine gate_callee (f := 22) rfl ?_); refine goesL_ (some 19) rfl rfl Try.func22 (by kernel_rfl) rfl #[.int .u8 14, .int .i32 a0, .int .i32 a1] rfl (by (try simp only [List.map_toArray, List.map_cons, List.map_nil]); first | done | rfl | (simp only [List.length_drop, List.length_take]; rfl)) ?_; (with_reducible refine (ontimelaw03_op.calls k 14 a0 a1 t121 _ A7.out).mono ?_); rintro e w' ⟨rfl, ⟨nd, rfl⟩⟩; refine ⟨_, rfl, ?_⟩) | ((with_reducible refine gate_callee (f := 22) rfl ?_); refine goesL_ (some 22) rfl rfl Try.func22 (by kernel_rfl) rfl #[.int .u8 15, .int .i32 a0, .int .i32 a1] rfl (by (try simp only [List.map_toArray, List.map_cons, List.map_nil]); first | done | rfl | (simp only [List.length_drop, List.length_take]; rfl)) ?_; (with_reducible refine (ontimelaw03_op.calls k 15 a0 a1 t122 _ A8.out).mono ?_); rintro e w' ⟨rfl, ⟨nd, rfl⟩⟩; refine ⟨_, rfl, ?_⟩) | ((with_reducible refine gate_callee (f := 22) rfl ?_); refine goesL_ (some 26) rfl rfl Try.func22 (by kernel_rfl) rfl #[.int .u8 8, .int .i32 32, .int .i32 (wrap32 (a2))] rfl (by (try simp only [List.map_toArray, List.map_cons, List.map_nil]); first | done | rfl | (simp only [List.length_drop, List.length_take]; rfl)) ?_; (with_reducible refine (ontimelaw03_op.calls k 8 32 (wrap32 (a2)) t123 _ A9.out).mono ?_); rintro e w' ⟨rfl, ⟨nd, rfl⟩⟩; refine ⟨_, rfl, ?_⟩) | ((with_reducible refine gate_callee (f := 22) rfl ?_); refine goesL_ (some 27) rfl rfl Try.func22 (by kernel_rfl) rfl #[.int .u8 6, .int .i32 a1, .int .i32 t123] rfl (by (try simp only [List.map_toArray, List.map_cons, List.map_nil]); first | done | rfl | (simp only [List.length_drop, List.length_take]; rfl)) ?_; (with_reducible refine (ontimelaw03_op.calls k 6 a1 t123 t124 _ A10.out).mono ?_); rintro e w' ⟨rfl, ⟨nd, rfl⟩⟩; refine ⟨_, rfl, ?_⟩))
    (try simp only [Act.put, List.setIfInBounds_toArray, List.set_cons_zero, List.set_cons_succ])
    go_cut [39] (fun v39 wc => ∃ (kq : Nat) (x39_10 : Bool), v39 = .bool x39_10 ∧ Aside0 (ontimelaw03_WordShifts.j0 kq a0 ji4 ji6 t121 t122 x39_10 = some r) ∧ Aside0 (kq ≤ k) ∧ Drawn0 w wc)
    case first =>
      have H := HC11.out
      clear HC11
      replace H := Option.bind_eq_some_iff.mp H
      obtain ⟨t125, A120, H⟩ := H
      replace H : (if t121 = t125 then ((ontimelaw03_op.f k 15 a0 t124).bind fun t126 => (ontimelaw03_WordShifts.j0 k a0 ji4 ji6 t121 t122 (t122 != t126))) else (ontimelaw03_WordShifts.j0 k a0 ji4 ji6 t121 t122 true)) = some r := H
      have A12 := Aside0.mk A120
      clear A120
      by_cases c13 : t121 = t125
      · rw [if_pos c13] at H
        have c13b0 : (t121 == t125) = true := beq_iff_eq.mpr c13
        have c13b1 : (t121 != t125) = false := bne_eq_false_iff_eq.mpr c13
        clear c13
        (first | rw [c13b0] | (simp only [i64_w, i32_w]; rw [c13b0]) | skip)
        replace H := Option.bind_eq_some_iff.mp H
        obtain ⟨t126, A140, H⟩ := H
        replace H : (ontimelaw03_WordShifts.j0 k a0 ji4 ji6 t121 t122 (t122 != t126)) = some r := H
        have A14 := Aside0.mk A140
        clear A140
        have H' := Aside0.mk H
        clear H
        go_wp2_with (first | ((with_reducible refine gate_callee (f := 22) rfl ?_); refine goesL_ (some 31) rfl rfl Try.func22 (by kernel_rfl) rfl #[.int .u8 14, .int .i32 a0, .int .i32 t124] rfl (by (try simp only [List.map_toArray, List.map_cons, List.map_nil]); first | done | rfl | (simp only [List.length_drop, List.length_take]; rfl)) ?_; (with_reducible refine (ontimelaw03_op.calls k 14 a0 t124 t125 _ A12.out).mono ?_); rintro e w' ⟨rfl, ⟨nd, rfl⟩⟩; refine ⟨_, rfl, ?_⟩) | (go_at_call 22; (with_reducible refine (ontimelaw03_op.calls k 15 a0 t124 t126 _ A14.out).mono ?_); rintro e w' ⟨rfl, ⟨nd, rfl⟩⟩))
        go_meet
        case rel => exact ⟨_, ((t122 != t126)), (by first | rfl | (simp; done) | (simp [*]; done)), H', ⟨by first | omega | exact Nat.le_refl _⟩, by repeat (first | exact Drawn0.refl _ | apply Drawn0.step)⟩
      · rw [if_neg c13] at H
        have c13b0 : (t121 == t125) = false := beq_eq_false_iff_ne.mpr c13
        have c13b1 : (t121 != t125) = true := bne_iff_ne.mpr c13
        (first | rw [c13b0] | (simp only [i64_w, i32_w]; rw [c13b0]) | skip)
        have H' := Aside0.mk H
        clear H
        go_wp2_with (first | ((with_reducible refine gate_callee (f := 22) rfl ?_); refine goesL_ (some 31) rfl rfl Try.func22 (by kernel_rfl) rfl #[.int .u8 14, .int .i32 a0, .int .i32 t124] rfl (by (try simp only [List.map_toArray, List.map_cons, List.map_nil]); first | done | rfl | (simp only [List.length_drop, List.length_take]; rfl)) ?_; (with_reducible refine (ontimelaw03_op.calls k 14 a0 t124 t125 _ A12.out).mono ?_); rintro e w' ⟨rfl, ⟨nd, rfl⟩⟩; refine ⟨_, rfl, ?_⟩))
        go_meet
        case rel => exact ⟨_, (true), (by first | rfl | (simp; done) | (simp [*]; done)), H', ⟨by first | omega | exact Nat.le_refl _⟩, by repeat (first | exact Drawn0.refl _ | apply Drawn0.step)⟩
    case rest =>
      clear HC11
      try clear c1
      try clear c2
      try clear p2
      try clear p3
      try clear c5
      try clear c5b0
      try clear c5b1
      try clear p6
      try clear c13
      try clear c13b0
      try clear c13b1
      obtain ⟨kq, x39_10, rfl, HA, HJ10, ⟨mc10, rfl⟩⟩ := hcut
      cases kq with
      | zero => exact absurd HA.out (by simp [ontimelaw03_WordShifts.j0])
      | succ kj10 =>
        have H := HA.out
        clear HA
        simp only [ontimelaw03_WordShifts.j0] at H
        by_cases c15 : x39_10 = true
        · subst c15
          have H1 : (some false) = some r := by rw [if_pos rfl] at H; exact H
          clear H
          have H := H1
          clear H1
          obtain rfl := Option.some.inj H
          go_wp2
          go_ret
          exact ⟨by first | rfl | (simp; done) | (simp only [← hji4, ← hji6] <;> (first | rfl | simp)) | (simp [*]; done), by repeat (first | exact Drawn0.refl _ | apply Drawn0.step)⟩
        · replace c15 := Bool.eq_false_iff.mpr c15
          subst c15
          have H1 : (if ji4 < 31 then ((ontimelaw03_op.f kj10 8 a0 (wrap32 (ji6))).bind fun t127 => (if t121 = t127 then ((ontimelaw03_awake.f kj10).bind fun t128 => (if t128 = true then (if (wrap64 ((wrap64 (t122)) * ji6)) ≤ (wrap64 (a0)) then (some (decide ((wrap64 ((wrap64 ((wrap64 (t122)) + 1)) * ji6)) > (wrap64 (a0))))) else (some false)) else (some false))) else (some false))) else ((ontimelaw03_awake.f kj10).bind fun t129 => (if t129 = true then (if (wrap64 ((wrap64 (t122)) * ji6)) ≤ (wrap64 (a0)) then (some (decide ((wrap64 ((wrap64 ((wrap64 (t122)) + 1)) * ji6)) > (wrap64 (a0))))) else (some false)) else (some false)))) = some r := by rw [if_neg (show ¬ (false = true) by decide)] at H; exact H
          clear H
          have H := H1
          clear H1
          by_cases c16 : ji4 < 31
          · rw [if_pos c16] at H
            have c16b0 : decide (ji4 < 31) = true := decide_eq_true c16
            clear c16
            replace H := Option.bind_eq_some_iff.mp H
            obtain ⟨t127, A170, H⟩ := H
            replace H : (if t121 = t127 then ((ontimelaw03_awake.f kj10).bind fun t128 => (if t128 = true then (if (wrap64 ((wrap64 (t122)) * ji6)) ≤ (wrap64 (a0)) then (some (decide ((wrap64 ((wrap64 ((wrap64 (t122)) + 1)) * ji6)) > (wrap64 (a0))))) else (some false)) else (some false))) else (some false)) = some r := H
            have A17 := Aside0.mk A170
            clear A170
            by_cases c18 : t121 = t127
            · rw [if_pos c18] at H
              have c18b0 : (t121 == t127) = true := beq_iff_eq.mpr c18
              have c18b1 : (t121 != t127) = false := bne_eq_false_iff_eq.mpr c18
              clear c18
              replace H := Option.bind_eq_some_iff.mp H
              obtain ⟨t128, A190, H⟩ := H
              replace H : (if t128 = true then (if (wrap64 ((wrap64 (t122)) * ji6)) ≤ (wrap64 (a0)) then (some (decide ((wrap64 ((wrap64 ((wrap64 (t122)) + 1)) * ji6)) > (wrap64 (a0))))) else (some false)) else (some false)) = some r := H
              have A19 := Aside0.mk A190
              clear A190
              by_cases c20 : t128 = true
              · subst c20
                have H1 : (if (wrap64 ((wrap64 (t122)) * ji6)) ≤ (wrap64 (a0)) then (some (decide ((wrap64 ((wrap64 ((wrap64 (t122)) + 1)) * ji6)) > (wrap64 (a0))))) else (some false)) = some r := by rw [if_pos rfl] at H; exact H
                clear H
                have H := H1
                clear H1
                by_cases c21 : (wrap64 ((wrap64 (t122)) * ji6)) ≤ (wrap64 (a0))
                · rw [if_pos c21] at H
                  have c21b0 : decide ((wrap64 ((wrap64 (t122)) * ji6)) ≤ (wrap64 (a0))) = true := decide_eq_true c21
                  clear c21
                  obtain rfl := Option.some.inj H
                  go_wp2_with (first | (go_at_call 22; (with_reducible refine (ontimelaw03_op.calls kj10 8 a0 (wrap32 (ji6)) t127 _ A17.out).mono ?_); rintro e w' ⟨rfl, ⟨nd, rfl⟩⟩) | ((with_reducible refine gate_callee (f := 21) rfl ?_); refine goesL_ (some 50) rfl rfl Try.func21 (by kernel_rfl) rfl #[] rfl (by (try simp only [List.map_toArray, List.map_cons, List.map_nil]); first | done | rfl | (simp only [List.length_drop, List.length_take]; rfl)) ?_; (with_reducible refine (ontimelaw03_awake.calls kj10  true _ A19.out).mono ?_); rintro e w' ⟨rfl, ⟨nd, rfl⟩⟩; refine ⟨_, rfl, ?_⟩))
                  go_ret
                  exact ⟨by first | rfl | (simp; done) | (simp only [← hji4, ← hji6] <;> (first | rfl | simp)) | (simp [*]; done), by repeat (first | exact Drawn0.refl _ | apply Drawn0.step)⟩
                · rw [if_neg c21] at H
                  have c21b0 : decide ((wrap64 ((wrap64 (t122)) * ji6)) ≤ (wrap64 (a0))) = false := decide_eq_false c21
                  clear c21
                  obtain rfl := Option.some.inj H
                  go_wp2_with (first | (go_at_call 22; (with_reducible refine (ontimelaw03_op.calls kj10 8 a0 (wrap32 (ji6)) t127 _ A17.out).mono ?_); rintro e w' ⟨rfl, ⟨nd, rfl⟩⟩) | ((with_reducible refine gate_callee (f := 21) rfl ?_); refine goesL_ (some 50) rfl rfl Try.func21 (by kernel_rfl) rfl #[] rfl (by (try simp only [List.map_toArray, List.map_cons, List.map_nil]); first | done | rfl | (simp only [List.length_drop, List.length_take]; rfl)) ?_; (with_reducible refine (ontimelaw03_awake.calls kj10  true _ A19.out).mono ?_); rintro e w' ⟨rfl, ⟨nd, rfl⟩⟩; refine ⟨_, rfl, ?_⟩))
                  go_ret
                  exact ⟨by first | rfl | (simp; done) | (simp only [← hji4, ← hji6] <;> (first | rfl | simp)) | (simp [*]; done), by repeat (first | exact Drawn0.refl _ | apply Drawn0.step)⟩
              · replace c20 := Bool.eq_false_iff.mpr c20
                subst c20
                have H1 : (some false) = some r := by rw [if_neg (show ¬ (false = true) by decide)] at H; exact H
                clear H
                have H := H1
                clear H1
                obtain rfl := Option.some.inj H
                go_wp2_with (first | (go_at_call 22; (with_reducible refine (ontimelaw03_op.calls kj10 8 a0 (wrap32 (ji6)) t127 _ A17.out).mono ?_); rintro e w' ⟨rfl, ⟨nd, rfl⟩⟩) | ((with_reducible refine gate_callee (f := 21) rfl ?_); refine goesL_ (some 50) rfl rfl Try.func21 (by kernel_rfl) rfl #[] rfl (by (try simp only [List.map_toArray, List.map_cons, List.map_nil]); first | done | rfl | (simp only [List.length_drop, List.length_take]; rfl)) ?_; (with_reducible refine (ontimelaw03_awake.calls kj10  false _ A19.out).mono ?_); rintro e w' ⟨rfl, ⟨nd, rfl⟩⟩; refine ⟨_, rfl, ?_⟩))
                go_ret
                exact ⟨by first | rfl | (simp; done) | (simp only [← hji4, ← hji6] <;> (first | rfl | simp)) | (simp [*]; done), by repeat (first | exact Drawn0.refl _ | apply Drawn0.step)⟩
            · rw [if_neg c18] at H
              have c18b0 : (t121 == t127) = false := beq_eq_false_iff_ne.mpr c18
              have c18b1 : (t121 != t127) = true := bne_iff_ne.mpr c18
              obtain rfl := Option.some.inj H
              go_wp2_with (first | (go_at_call 22; (with_reducible refine (ontimelaw03_op.calls kj10 8 a0 (wrap32 (ji6)) t127 _ A17.out).mono ?_); rintro e w' ⟨rfl, ⟨nd, rfl⟩⟩))
              go_ret
              exact ⟨by first | rfl | (simp; done) | (simp only [← hji4, ← hji6] <;> (first | rfl | simp)) | (simp [*]; done), by repeat (first | exact Drawn0.refl _ | apply Drawn0.step)⟩
          · rw [if_neg c16] at H
            have c16b0 : decide (ji4 < 31) = false := decide_eq_false c16
            clear c16
            replace H := Option.bind_eq_some_iff.mp H
            obtain ⟨t129, A220, H⟩ := H
            replace H : (if t129 = true then (if (wrap64 ((wrap64 (t122)) * ji6)) ≤ (wrap64 (a0)) then (some (decide ((wrap64 ((wrap64 ((wrap64 (t122)) + 1)) * ji6)) > (wrap64 (a0))))) else (some false)) else (some false)) = some r := H
            have A22 := Aside0.mk A220
            clear A220
            by_cases c23 : t129 = true
            · subst c23
              have H1 : (if (wrap64 ((wrap64 (t122)) * ji6)) ≤ (wrap64 (a0)) then (some (decide ((wrap64 ((wrap64 ((wrap64 (t122)) + 1)) * ji6)) > (wrap64 (a0))))) else (some false)) = some r := by rw [if_pos rfl] at H; exact H
              clear H
              have H := H1
              clear H1
              by_cases c24 : (wrap64 ((wrap64 (t122)) * ji6)) ≤ (wrap64 (a0))
              · rw [if_pos c24] at H
                have c24b0 : decide ((wrap64 ((wrap64 (t122)) * ji6)) ≤ (wrap64 (a0))) = true := decide_eq_true c24
                clear c24
                obtain rfl := Option.some.inj H
                go_wp2_with (first | ((with_reducible refine gate_callee (f := 21) rfl ?_); refine goesL_ (some 50) rfl rfl Try.func21 (by kernel_rfl) rfl #[] rfl (by (try simp only [List.map_toArray, List.map_cons, List.map_nil]); first | done | rfl | (simp only [List.length_drop, List.length_take]; rfl)) ?_; (with_reducible refine (ontimelaw03_awake.calls kj10  true _ A22.out).mono ?_); rintro e w' ⟨rfl, ⟨nd, rfl⟩⟩; refine ⟨_, rfl, ?_⟩))
                go_ret
                exact ⟨by first | rfl | (simp; done) | (simp only [← hji4, ← hji6] <;> (first | rfl | simp)) | (simp [*]; done), by repeat (first | exact Drawn0.refl _ | apply Drawn0.step)⟩
              · rw [if_neg c24] at H
                have c24b0 : decide ((wrap64 ((wrap64 (t122)) * ji6)) ≤ (wrap64 (a0))) = false := decide_eq_false c24
                clear c24
                obtain rfl := Option.some.inj H
                go_wp2_with (first | ((with_reducible refine gate_callee (f := 21) rfl ?_); refine goesL_ (some 50) rfl rfl Try.func21 (by kernel_rfl) rfl #[] rfl (by (try simp only [List.map_toArray, List.map_cons, List.map_nil]); first | done | rfl | (simp only [List.length_drop, List.length_take]; rfl)) ?_; (with_reducible refine (ontimelaw03_awake.calls kj10  true _ A22.out).mono ?_); rintro e w' ⟨rfl, ⟨nd, rfl⟩⟩; refine ⟨_, rfl, ?_⟩))
                go_ret
                exact ⟨by first | rfl | (simp; done) | (simp only [← hji4, ← hji6] <;> (first | rfl | simp)) | (simp [*]; done), by repeat (first | exact Drawn0.refl _ | apply Drawn0.step)⟩
            · replace c23 := Bool.eq_false_iff.mpr c23
              subst c23
              have H1 : (some false) = some r := by rw [if_neg (show ¬ (false = true) by decide)] at H; exact H
              clear H
              have H := H1
              clear H1
              obtain rfl := Option.some.inj H
              go_wp2_with (first | ((with_reducible refine gate_callee (f := 21) rfl ?_); refine goesL_ (some 50) rfl rfl Try.func21 (by kernel_rfl) rfl #[] rfl (by (try simp only [List.map_toArray, List.map_cons, List.map_nil]); first | done | rfl | (simp only [List.length_drop, List.length_take]; rfl)) ?_; (with_reducible refine (ontimelaw03_awake.calls kj10  false _ A22.out).mono ?_); rintro e w' ⟨rfl, ⟨nd, rfl⟩⟩; refine ⟨_, rfl, ?_⟩))
              go_ret
              exact ⟨by first | rfl | (simp; done) | (simp only [← hji4, ← hji6] <;> (first | rfl | simp)) | (simp [*]; done), by repeat (first | exact Drawn0.refl _ | apply Drawn0.step)⟩
  · rw [if_neg c5] at H
    exact absurd H (by simp)

/-- THE ONE PURE STATEMENT of ontimelaw03_WordShifts: yours. -/
def ontimelaw03_WordShifts.Pure : Prop := ∀ (a0 : Int) (a1 : Int) (a2 : Int), (Lit.int .i32 a0).wf = true → (Lit.int .i32 a1).wf = true → (Lit.int .i8 a2).wf = true → ∃ k, ontimelaw03_WordShifts.f k a0 a1 a2 = some true
theorem ontimelaw03_WordShifts.walk (P : ontimelaw03_WordShifts.Pure) (a0 : Int) (a1 : Int) (a2 : Int) (w : World) (w0 : (Lit.int .i32 a0).wf = true) (w1 : (Lit.int .i32 a1).wf = true) (w2 : (Lit.int .i8 a2).wf = true) :
    Calls Try.prog 5 #[.int .i32 a0, .int .i32 a1, .int .i8 a2] w fun e w' => e = .returned (.bool true) ∧ Below w.heap.size w w' := by
  obtain ⟨k, h⟩ := P a0 a1 a2 w0 w1 w2
  refine (ontimelaw03_WordShifts.calls k a0 a1 a2 true w h).mono ?_
  rintro e w' ⟨rfl, hd⟩
  exact ⟨rfl, hd.below⟩

end Go.Proofs.Ytoalomjmmlnclaa.PWordShifts
