-- PRINTED BY print.sh 35421559b90ae4d0a3588c463048766b98c2df88dd9212a6774a882060cdf62d: not written by this session
import Derived.Test.YtoalomjmmlnclaaPWordRingx0
import Derived.Test.YtoalomjmmlnclaaPWordRingx1
namespace Go.Proofs.Ytoalomjmmlnclaa.PWordRing
open Go.RowKit Go.Proofs.YtoalomjmmlnclaaW.PrintWords Go.Proofs.YtoalomjmmlnclaaW.PrintLast Go.Proofs.YtoalomjmmlnclaaW.PrintMore
attribute [local go_sem] max2_int min2_int max_two min_two max_three min_three max_four min_four   -- for this text's walks alone
set_option linter.unusedVariables false
set_option linter.unusedSimpArgs false

/-! ### ontimelaw03_WordRing: function 8 -/
def ontimelaw03_WordRing.l0 : Nat → Int → Int → Int → List Int → Int → Int → Option (Bool)
  | 0, _, _, _, _, _, _ => none
  | k + 1, x0, x1, x2, x11, x12, x13 => if x13 < x12 then (if 0 ≤ x13 then (if x13 < (x11.length : Int) then ((ontimelaw03_op.f k (rd x11 x13) x0 x1).bind fun t129 => ((ontimelaw03_op.f k (rd x11 x13) x1 x0).bind fun t130 => (if t129 = t130 then ((ontimelaw03_op.f k (rd x11 x13) x0 x1).bind fun t131 => ((ontimelaw03_op.f k (rd x11 x13) t131 x2).bind fun t132 => ((ontimelaw03_op.f k (rd x11 x13) x1 x2).bind fun t133 => ((ontimelaw03_op.f k (rd x11 x13) x0 t133).bind fun t134 => (if t132 = t134 then (ontimelaw03_WordRing.l0 k x0 x1 x2 x11 x12 (wrap64 (x13 + 1))) else (some false)))))) else (some false)))) else (none)) else (none)) else ((ontimelaw03_op.f k 6 x1 x2).bind fun t135 => ((ontimelaw03_op.f k 8 x0 t135).bind fun t136 => ((ontimelaw03_op.f k 8 x0 x1).bind fun t137 => ((ontimelaw03_op.f k 8 x0 x2).bind fun t138 => ((ontimelaw03_op.f k 6 t137 t138).bind fun t139 => (if t136 = t139 then ((ontimelaw03_op.f k 7 x0 x1).bind fun t140 => ((ontimelaw03_neg.f x1).bind fun t141 => ((ontimelaw03_op.f k 6 x0 t141).bind fun t142 => (if t140 = t142 then ((ontimelaw03_neg.f x0).bind fun t143 => ((ontimelaw03_op.f k 6 x0 t143).bind fun t144 => (if t144 = 0 then ((ontimelaw03_op.f k 8 x0 1).bind fun t145 => (some (t145 == x0))) else (some false)))) else (some false))))) else (some false)))))))
def ontimelaw03_WordRing.f (k : Nat) (a0 : Int) (a1 : Int) (a2 : Int) : Option (Bool) := (ontimelaw03_awake.f k).bind fun t124 => (if t124 = true then ((some (([6, 8, 11, 12, 13] : List Int) : List Int)).bind fun y125 => (ontimelaw03_WordRing.l0 k a0 a1 a2 y125 (y125.length : Int) 0)) else (some false))
theorem ontimelaw03_WordRing.mono_l : ∀ k, (∀ y0 y1 y2 y3 y4 y5, LeO (ontimelaw03_WordRing.l0 k y0 y1 y2 y3 y4 y5) (ontimelaw03_WordRing.l0 (k + 1) y0 y1 y2 y3 y4 y5))
  | 0 => fun _ _ _ _ _ _ r h => by simp [ontimelaw03_WordRing.l0] at h
  | k + 1 => by
    have ih0 := ontimelaw03_WordRing.mono_l k
    · intro y0 y1 y2 y3 y4 y5
      unfold ontimelaw03_WordRing.l0
      repeat' first
      | (with_reducible exact ih0 _ _ _ _ _ _)
      | (with_reducible exact ontimelaw03_awake.mono _)
      | (with_reducible exact ontimelaw03_op.mono _ _ _ _)
      | (with_reducible exact LeO.refl _)
      | (with_reducible exact LeO.none _)
      | (with_reducible refine LeO.ite ?_ ?_)
      | (with_reducible refine LeO.bind ?_ (fun _ => ?_))
      | exact ih0 _ _ _ _ _ _
      | exact ontimelaw03_awake.mono _
      | exact ontimelaw03_op.mono _ _ _ _
      | exact LeO.none _
      | refine LeO.ite ?_ ?_
      | refine LeO.bind ?_ (fun _ => ?_)
theorem ontimelaw03_WordRing.mono : ∀ a0 a1 a2 k, LeO (ontimelaw03_WordRing.f k a0 a1 a2) (ontimelaw03_WordRing.f (k + 1) a0 a1 a2) := by
  intro a0 a1 a2 k
  have ih0 := ontimelaw03_WordRing.mono_l k
  unfold ontimelaw03_WordRing.f
  repeat' first
      | (with_reducible exact ih0 _ _ _ _ _ _)
      | (with_reducible exact ontimelaw03_awake.mono _)
      | (with_reducible exact ontimelaw03_op.mono _ _ _ _)
      | (with_reducible exact LeO.refl _)
      | (with_reducible exact LeO.none _)
      | (with_reducible refine LeO.ite ?_ ?_)
      | (with_reducible refine LeO.bind ?_ (fun _ => ?_))
      | exact ih0 _ _ _ _ _ _
      | exact ontimelaw03_awake.mono _
      | exact ontimelaw03_op.mono _ _ _ _
      | exact LeO.none _
      | refine LeO.ite ?_ ?_
      | refine LeO.bind ?_ (fun _ => ?_)
set_option maxHeartbeats 8000000 in
set_option maxRecDepth 100000 in
theorem ontimelaw03_WordRing.calls (k : Nat) (a0 : Int) (a1 : Int) (a2 : Int) (r : Bool) (w : World) (h : ontimelaw03_WordRing.f k a0 a1 a2 = some r) :
    Calls Try.prog 8 #[.int .i32 a0, .int .i32 a1, .int .i32 a2] w fun e w' => e = .returned (.bool r) ∧ Below w.heap.size w w' := by
  have HB := Aside0.mk (Below.refl w.heap.size w)
  have H : ((ontimelaw03_awake.f k).bind fun t124 => (if t124 = true then ((some (([6, 8, 11, 12, 13] : List Int) : List Int)).bind fun y125 => (ontimelaw03_WordRing.l0 k a0 a1 a2 y125 (y125.length : Int) 0)) else (some false))) = some r := h
  clear h
  replace H := Option.bind_eq_some_iff.mp H
  obtain ⟨t124, A40, H⟩ := H
  replace H : (if t124 = true then ((some (([6, 8, 11, 12, 13] : List Int) : List Int)).bind fun y125 => (ontimelaw03_WordRing.l0 k a0 a1 a2 y125 (y125.length : Int) 0)) else (some false)) = some r := H
  have A4 := Aside0.mk A40
  clear A40
  by_cases c5 : t124 = true
  · subst c5
    have H1 : ((some (([6, 8, 11, 12, 13] : List Int) : List Int)).bind fun y125 => (ontimelaw03_WordRing.l0 k a0 a1 a2 y125 (y125.length : Int) 0)) = some r := by rw [if_pos rfl] at H; exact H
    clear H
    have H := H1
    clear H1
    obtain ⟨y125, hy125⟩ : ∃ y_ : List Int, y_ = (([6, 8, 11, 12, 13] : List Int)) := ⟨_, rfl⟩
    replace H : (ontimelaw03_WordRing.l0 k a0 a1 a2 y125 (y125.length : Int) 0) = some r := by first | (rw [hy125]; with_reducible exact H) | (have H2_ := (Option.bind_some _ _).symm.trans H; rw [hy125]; with_reducible exact H2_) | (have H2_ := (Option.bind_some _ _).symm.trans H; with_reducible exact H2_) | with_reducible exact H | (rw [hy125]; exact H) | exact H
    have Ny125 := Aside0.mk hy125
    clear hy125
    have H' := Aside0.mk H
    clear H
    go_enter Try.func8, Try.ntmps8
    go_wp2_with (first | ((with_reducible refine gate_callee (f := 21) rfl ?_); refine goesL_ (some 9) rfl rfl Try.func21 (by kernel_rfl) rfl #[] rfl (by (try simp only [List.map_toArray, List.map_cons, List.map_nil]); first | done | rfl | (simp only [List.length_drop, List.length_take]; rfl)) ?_; (with_reducible refine (ontimelaw03_awake.calls k  true _ A4.out).mono ?_); rintro e w' ⟨rfl, ⟨nd, rfl⟩⟩; refine ⟨_, rfl, ?_⟩) | ((with_reducible refine gate_dst (N := 11) rfl ?_); refine Kd.R_lit (Kd.int .u8) _ 5 ?hg (N := 11) ?hd (xs := ([6, 8, 11, 12, 13] : List Int)) (inner := [.int .u8 6, .int .u8 8, .int .u8 11, .int .u8 12, .int .u8 13]) (ok := fun _ => True) (okp := fun _ => True) ?hr ?hp (fun _ hk => hk) trivial (Below.refl _ _) (Nat.le_refl _) (by simp) ?_; (case hd => rfl); (case hg => rfl); (case hr => first | (go_simp; done) | (go_simp; rfl)); (case hp => exact (Reps.one (show Kd.M (Kd.int .u8) _ _ _ 6 [.int .u8 6] from rfl) (Reps.one (show Kd.M (Kd.int .u8) _ _ _ 8 [.int .u8 8] from rfl) (Reps.one (show Kd.M (Kd.int .u8) _ _ _ 11 [.int .u8 11] from rfl) (Reps.one (show Kd.M (Kd.int .u8) _ _ _ 12 [.int .u8 12] from rfl) (Reps.one (show Kd.M (Kd.int .u8) _ _ _ 13 [.int .u8 13] from rfl) (Reps.none _ _))))))); intro v126 w6 ho7 hb hg_ hnew_; clear hg_ hnew_; (first | rw [← Ny125.out] at ho7 | (simp only [Int.reduceToNat] at ho7; rw [← Ny125.out] at ho7)); have n0_ := Aside0.mk (Kd.R_lower ho7 (below_size (by repeat (first | (with_reducible first | exact HB.out | apply below_alloc | apply pw_below_drewN | apply below_drew1) | exact HB.out)))); have n1_ := Aside0.mk (below_step (by repeat (first | (with_reducible first | exact HB.out | apply below_alloc | apply pw_below_drewN | apply below_drew1) | exact HB.out)) hb); clear HB; have HO127 := n0_; have HB := n1_; clear n0_ n1_; clear hb ho7; obtain ⟨Ao8, co8, eo8⟩ := Kd.R_slice HO127.out; subst eo8))
    go_loopg [13] k (fun kq v13 w' => ∃ (x13_1 : Int), v13 = .int .i64 x13_1 ∧ Aside0 (ontimelaw03_WordRing.l0 kq a0 a1 a2 y125 (y125.length : Int) x13_1 = some r) ∧ Aside0 (kq ≤ k) ∧ Aside0 (Kd.R (Kd.int .u8) 5 w' w.heap.size (fun _ => True) (.slice Ao8 y125.length co8) y125) ∧ Aside0 (Below w.heap.size w w'))
    case atStart => exact ⟨(0), (by first | rfl | (simp; done) | (simp [*]; done)), H', ⟨Nat.le_refl _⟩, ⟨by (with_reducible repeat (first | apply Kd.R_alloc | apply Kd.R_drewN | apply Kd.R_drew)); exact HO127.out⟩, ⟨by repeat (first | (with_reducible first | exact HB.out | apply below_alloc | apply pw_below_drewN | apply below_drew1) | exact HB.out)⟩⟩
    case round =>
      clear H'
      try clear c2
      try clear p2
      try clear c5
      try clear c8
      obtain ⟨x13_1, rfl, HA, HK1, HO_11, HB⟩ := hrel
      cases gk with
      | zero => exact absurd HA.out (by simp [ontimelaw03_WordRing.l0])
      | succ k1 =>
        have H := HA.out
        clear HA
        simp only [ontimelaw03_WordRing.l0] at H
        by_cases c9 : x13_1 < (y125.length : Int)
        · rw [if_pos c9] at H
          have c9b0 : decide (x13_1 < (y125.length : Int)) = true := decide_eq_true c9
          clear c9
          by_cases c10 : 0 ≤ x13_1
          · rw [if_pos c10] at H
            have c10b0 : decide (0 ≤ x13_1) = true := decide_eq_true c10
            clear c10
            by_cases c11 : x13_1 < (y125.length : Int)
            · rw [if_pos c11] at H
              have c11b0 : decide (x13_1 < (y125.length : Int)) = true := decide_eq_true c11
              clear c11
              replace H := Option.bind_eq_some_iff.mp H
              obtain ⟨t129, A120, H⟩ := H
              replace H : ((ontimelaw03_op.f k1 (rd y125 x13_1) a1 a0).bind fun t130 => (if t129 = t130 then ((ontimelaw03_op.f k1 (rd y125 x13_1) a0 a1).bind fun t131 => ((ontimelaw03_op.f k1 (rd y125 x13_1) t131 a2).bind fun t132 => ((ontimelaw03_op.f k1 (rd y125 x13_1) a1 a2).bind fun t133 => ((ontimelaw03_op.f k1 (rd y125 x13_1) a0 t133).bind fun t134 => (if t132 = t134 then (ontimelaw03_WordRing.l0 k1 a0 a1 a2 y125 (y125.length : Int) (wrap64 (x13_1 + 1))) else (some false)))))) else (some false))) = some r := H
              have A12 := Aside0.mk A120
              clear A120
              replace H := Option.bind_eq_some_iff.mp H
              obtain ⟨t130, A130, H⟩ := H
              replace H : (if t129 = t130 then ((ontimelaw03_op.f k1 (rd y125 x13_1) a0 a1).bind fun t131 => ((ontimelaw03_op.f k1 (rd y125 x13_1) t131 a2).bind fun t132 => ((ontimelaw03_op.f k1 (rd y125 x13_1) a1 a2).bind fun t133 => ((ontimelaw03_op.f k1 (rd y125 x13_1) a0 t133).bind fun t134 => (if t132 = t134 then (ontimelaw03_WordRing.l0 k1 a0 a1 a2 y125 (y125.length : Int) (wrap64 (x13_1 + 1))) else (some false)))))) else (some false)) = some r := H
              have A13 := Aside0.mk A130
              clear A130
              by_cases c14 : t129 = t130
              · rw [if_pos c14] at H
                have c14b0 : (t129 == t130) = true := beq_iff_eq.mpr c14
                have c14b1 : (t129 != t130) = false := bne_eq_false_iff_eq.mpr c14
                clear c14
                replace H := Option.bind_eq_some_iff.mp H
                obtain ⟨t131, A150, H⟩ := H
                replace H : ((ontimelaw03_op.f k1 (rd y125 x13_1) t131 a2).bind fun t132 => ((ontimelaw03_op.f k1 (rd y125 x13_1) a1 a2).bind fun t133 => ((ontimelaw03_op.f k1 (rd y125 x13_1) a0 t133).bind fun t134 => (if t132 = t134 then (ontimelaw03_WordRing.l0 k1 a0 a1 a2 y125 (y125.length : Int) (wrap64 (x13_1 + 1))) else (some false))))) = some r := H
                have A15 := Aside0.mk A150
                clear A150
                replace H := Option.bind_eq_some_iff.mp H
                obtain ⟨t132, A160, H⟩ := H
                replace H : ((ontimelaw03_op.f k1 (rd y125 x13_1) a1 a2).bind fun t133 => ((ontimelaw03_op.f k1 (rd y125 x13_1) a0 t133).bind fun t134 => (if t132 = t134 then (ontimelaw03_WordRing.l0 k1 a0 a1 a2 y125 (y125.length : Int) (wrap64 (x13_1 + 1))) else (some false)))) = some r := H
                have A16 := Aside0.mk A160
                clear A160
                replace H := Option.bind_eq_some_iff.mp H
                obtain ⟨t133, A170, H⟩ := H
                replace H : ((ontimelaw03_op.f k1 (rd y125 x13_1) a0 t133).bind fun t134 => (if t132 = t134 then (ontimelaw03_WordRing.l0 k1 a0 a1 a2 y125 (y125.length : Int) (wrap64 (x13_1 + 1))) else (some false))) = some r := H
                have A17 := Aside0.mk A170
                clear A170
                replace H := Option.bind_eq_some_iff.mp H
                obtain ⟨t134, A180, H⟩ := H
                replace H : (if t132 = t134 then (ontimelaw03_WordRing.l0 k1 a0 a1 a2 y125 (y125.length : Int) (wrap64 (x13_1 + 1))) else (some false)) = some r := H
                have A18 := Aside0.mk A180
                clear A180
                by_cases c19 : t132 = t134
                · rw [if_pos c19] at H
                  have c19b0 : (t132 == t134) = true := beq_iff_eq.mpr c19
                  have c19b1 : (t132 != t134) = false := bne_eq_false_iff_eq.mpr c19
                  clear c19
                  have H' := Aside0.mk H
                  clear H
                  have p128 : 0 ≤ (x13_1 : Int) := of_decide_eq_true (by first | (with_reducible assumption) | assumption)
                  have q128 : x13_1 < (y125.length : Int) := of_decide_eq_true (by first | (with_reducible assumption) | assumption)
                  obtain ⟨ad128, e128, hx128_0⟩ := Kd.at_int (Kd.R_reads' HO_11.out).2.2 x13_1 p128 q128
                  cases e128
                  replace p128 := eq_true p128
                  replace q128 := eq_true q128
                  go_wp2_with (first | ((with_reducible refine gate_callee (f := 22) rfl ?_); refine goesL_ (some 20) rfl rfl Try.func22 (by kernel_rfl) rfl #[.int .u8 (rd y125 x13_1), .int .i32 a0, .int .i32 a1] rfl (by (try simp only [List.map_toArray, List.map_cons, List.map_nil]); first | done | rfl | (simp only [List.length_drop, List.length_take]; rfl)) ?_; (with_reducible refine (ontimelaw03_op.calls k1 (rd y125 x13_1) a0 a1 t129 _ A12.out).mono ?_); rintro e w' ⟨rfl, ⟨nd, rfl⟩⟩; refine ⟨_, rfl, ?_⟩) | ((with_reducible refine gate_callee (f := 22) rfl ?_); refine goesL_ (some 24) rfl rfl Try.func22 (by kernel_rfl) rfl #[.int .u8 (rd y125 x13_1), .int .i32 a1, .int .i32 a0] rfl (by (try simp only [List.map_toArray, List.map_cons, List.map_nil]); first | done | rfl | (simp only [List.length_drop, List.length_take]; rfl)) ?_; (with_reducible refine (ontimelaw03_op.calls k1 (rd y125 x13_1) a1 a0 t130 _ A13.out).mono ?_); rintro e w' ⟨rfl, ⟨nd, rfl⟩⟩; refine ⟨_, rfl, ?_⟩) | (go_at_call 22; (with_reducible refine (ontimelaw03_op.calls k1 (rd y125 x13_1) a0 a1 t131 _ A15.out).mono ?_); rintro e w' ⟨rfl, ⟨nd, rfl⟩⟩) | (go_at_call 22; (with_reducible refine (ontimelaw03_op.calls k1 (rd y125 x13_1) t131 a2 t132 _ A16.out).mono ?_); rintro e w' ⟨rfl, ⟨nd, rfl⟩⟩) | (go_at_call 22; (with_reducible refine (ontimelaw03_op.calls k1 (rd y125 x13_1) a1 a2 t133 _ A17.out).mono ?_); rintro e w' ⟨rfl, ⟨nd, rfl⟩⟩) | (go_at_call 22; (with_reducible refine (ontimelaw03_op.calls k1 (rd y125 x13_1) a0 t133 t134 _ A18.out).mono ?_); rintro e w' ⟨rfl, ⟨nd, rfl⟩⟩))
                  go_roundg k1
                  case measure => have := HK1.out; omega
                  case rel => exact ⟨(wrap64 (x13_1 + 1)), (by first | rfl | (simp; done) | (simp [*]; done)), H', ⟨by have := HK1.out; omega⟩, ⟨by (with_reducible repeat (first | apply Kd.R_alloc | apply Kd.R_drewN | apply Kd.R_drew)); exact HO_11.out⟩, ⟨by repeat (first | (with_reducible first | exact HB.out | apply below_alloc | apply pw_below_drewN | apply below_drew1) | exact HB.out)⟩⟩
                · rw [if_neg c19] at H
                  have c19b0 : (t132 == t134) = false := beq_eq_false_iff_ne.mpr c19
                  have c19b1 : (t132 != t134) = true := bne_iff_ne.mpr c19
                  obtain rfl := Option.some.inj H
                  have p128 : 0 ≤ (x13_1 : Int) := of_decide_eq_true (by first | (with_reducible assumption) | assumption)
                  have q128 : x13_1 < (y125.length : Int) := of_decide_eq_true (by first | (with_reducible assumption) | assumption)
                  obtain ⟨ad128, e128, hx128_0⟩ := Kd.at_int (Kd.R_reads' HO_11.out).2.2 x13_1 p128 q128
                  cases e128
                  replace p128 := eq_true p128
                  replace q128 := eq_true q128
                  go_wp2_with (first | ((with_reducible refine gate_callee (f := 22) rfl ?_); refine goesL_ (some 20) rfl rfl Try.func22 (by kernel_rfl) rfl #[.int .u8 (rd y125 x13_1), .int .i32 a0, .int .i32 a1] rfl (by (try simp only [List.map_toArray, List.map_cons, List.map_nil]); first | done | rfl | (simp only [List.length_drop, List.length_take]; rfl)) ?_; (with_reducible refine (ontimelaw03_op.calls k1 (rd y125 x13_1) a0 a1 t129 _ A12.out).mono ?_); rintro e w' ⟨rfl, ⟨nd, rfl⟩⟩; refine ⟨_, rfl, ?_⟩) | ((with_reducible refine gate_callee (f := 22) rfl ?_); refine goesL_ (some 24) rfl rfl Try.func22 (by kernel_rfl) rfl #[.int .u8 (rd y125 x13_1), .int .i32 a1, .int .i32 a0] rfl (by (try simp only [List.map_toArray, List.map_cons, List.map_nil]); first | done | rfl | (simp only [List.length_drop, List.length_take]; rfl)) ?_; (with_reducible refine (ontimelaw03_op.calls k1 (rd y125 x13_1) a1 a0 t130 _ A13.out).mono ?_); rintro e w' ⟨rfl, ⟨nd, rfl⟩⟩; refine ⟨_, rfl, ?_⟩) | (go_at_call 22; (with_reducible refine (ontimelaw03_op.calls k1 (rd y125 x13_1) a0 a1 t131 _ A15.out).mono ?_); rintro e w' ⟨rfl, ⟨nd, rfl⟩⟩) | (go_at_call 22; (with_reducible refine (ontimelaw03_op.calls k1 (rd y125 x13_1) t131 a2 t132 _ A16.out).mono ?_); rintro e w' ⟨rfl, ⟨nd, rfl⟩⟩) | (go_at_call 22; (with_reducible refine (ontimelaw03_op.calls k1 (rd y125 x13_1) a1 a2 t133 _ A17.out).mono ?_); rintro e w' ⟨rfl, ⟨nd, rfl⟩⟩) | (go_at_call 22; (with_reducible refine (ontimelaw03_op.calls k1 (rd y125 x13_1) a0 t133 t134 _ A18.out).mono ?_); rintro e w' ⟨rfl, ⟨nd, rfl⟩⟩))
                  go_ret
                  exact ⟨by first | rfl | (simp [errW_none, errW_some] <;> rfl) | (simp [*, errW_none, errW_some] <;> rfl), by repeat (first | (with_reducible first | exact HB.out | apply below_alloc | apply pw_below_drewN | apply below_drew1) | exact HB.out)⟩
              · rw [if_neg c14] at H
                have c14b0 : (t129 == t130) = false := beq_eq_false_iff_ne.mpr c14
                have c14b1 : (t129 != t130) = true := bne_iff_ne.mpr c14
                obtain rfl := Option.some.inj H
                have p128 : 0 ≤ (x13_1 : Int) := of_decide_eq_true (by first | (with_reducible assumption) | assumption)
                have q128 : x13_1 < (y125.length : Int) := of_decide_eq_true (by first | (with_reducible assumption) | assumption)
                obtain ⟨ad128, e128, hx128_0⟩ := Kd.at_int (Kd.R_reads' HO_11.out).2.2 x13_1 p128 q128
                cases e128
                replace p128 := eq_true p128
                replace q128 := eq_true q128
                go_wp2_with (first | ((with_reducible refine gate_callee (f := 22) rfl ?_); refine goesL_ (some 20) rfl rfl Try.func22 (by kernel_rfl) rfl #[.int .u8 (rd y125 x13_1), .int .i32 a0, .int .i32 a1] rfl (by (try simp only [List.map_toArray, List.map_cons, List.map_nil]); first | done | rfl | (simp only [List.length_drop, List.length_take]; rfl)) ?_; (with_reducible refine (ontimelaw03_op.calls k1 (rd y125 x13_1) a0 a1 t129 _ A12.out).mono ?_); rintro e w' ⟨rfl, ⟨nd, rfl⟩⟩; refine ⟨_, rfl, ?_⟩) | ((with_reducible refine gate_callee (f := 22) rfl ?_); refine goesL_ (some 24) rfl rfl Try.func22 (by kernel_rfl) rfl #[.int .u8 (rd y125 x13_1), .int .i32 a1, .int .i32 a0] rfl (by (try simp only [List.map_toArray, List.map_cons, List.map_nil]); first | done | rfl | (simp only [List.length_drop, List.length_take]; rfl)) ?_; (with_reducible refine (ontimelaw03_op.calls k1 (rd y125 x13_1) a1 a0 t130 _ A13.out).mono ?_); rintro e w' ⟨rfl, ⟨nd, rfl⟩⟩; refine ⟨_, rfl, ?_⟩))
                go_ret
                exact ⟨by first | rfl | (simp [errW_none, errW_some] <;> rfl) | (simp [*, errW_none, errW_some] <;> rfl), by repeat (first | (with_reducible first | exact HB.out | apply below_alloc | apply pw_below_drewN | apply below_drew1) | exact HB.out)⟩
            · rw [if_neg c11] at H
              exact absurd H (by simp)
          · rw [if_neg c10] at H
            exact absurd H (by simp)
        · rw [if_neg c9] at H
          have c9b0 : decide (x13_1 < (y125.length : Int)) = false := decide_eq_false c9
          clear c9
          replace H := Option.bind_eq_some_iff.mp H
          obtain ⟨t135, A200, H⟩ := H
          replace H : ((ontimelaw03_op.f k1 8 a0 t135).bind fun t136 => ((ontimelaw03_op.f k1 8 a0 a1).bind fun t137 => ((ontimelaw03_op.f k1 8 a0 a2).bind fun t138 => ((ontimelaw03_op.f k1 6 t137 t138).bind fun t139 => (if t136 = t139 then ((ontimelaw03_op.f k1 7 a0 a1).bind fun t140 => ((ontimelaw03_neg.f a1).bind fun t141 => ((ontimelaw03_op.f k1 6 a0 t141).bind fun t142 => (if t140 = t142 then ((ontimelaw03_neg.f a0).bind fun t143 => ((ontimelaw03_op.f k1 6 a0 t143).bind fun t144 => (if t144 = 0 then ((ontimelaw03_op.f k1 8 a0 1).bind fun t145 => (some (t145 == a0))) else (some false)))) else (some false))))) else (some false)))))) = some r := H
          have A20 := Aside0.mk A200
          clear A200
          replace H := Option.bind_eq_some_iff.mp H
          obtain ⟨t136, A210, H⟩ := H
          replace H : ((ontimelaw03_op.f k1 8 a0 a1).bind fun t137 => ((ontimelaw03_op.f k1 8 a0 a2).bind fun t138 => ((ontimelaw03_op.f k1 6 t137 t138).bind fun t139 => (if t136 = t139 then ((ontimelaw03_op.f k1 7 a0 a1).bind fun t140 => ((ontimelaw03_neg.f a1).bind fun t141 => ((ontimelaw03_op.f k1 6 a0 t141).bind fun t142 => (if t140 = t142 then ((ontimelaw03_neg.f a0).bind fun t143 => ((ontimelaw03_op.f k1 6 a0 t143).bind fun t144 => (if t144 = 0 then ((ontimelaw03_op.f k1 8 a0 1).bind fun t145 => (some (t145 == a0))) else (some false)))) else (some false))))) else (some false))))) = some r := H
          have A21 := Aside0.mk A210
          clear A210
          replace H := Option.bind_eq_some_iff.mp H
          obtain ⟨t137, A220, H⟩ := H
          replace H : ((ontimelaw03_op.f k1 8 a0 a2).bind fun t138 => ((ontimelaw03_op.f k1 6 t137 t138).bind fun t139 => (if t136 = t139 then ((ontimelaw03_op.f k1 7 a0 a1).bind fun t140 => ((ontimelaw03_neg.f a1).bind fun t141 => ((ontimelaw03_op.f k1 6 a0 t141).bind fun t142 => (if t140 = t142 then ((ontimelaw03_neg.f a0).bind fun t143 => ((ontimelaw03_op.f k1 6 a0 t143).bind fun t144 => (if t144 = 0 then ((ontimelaw03_op.f k1 8 a0 1).bind fun t145 => (some (t145 == a0))) else (some false)))) else (some false))))) else (some false)))) = some r := H
          have A22 := Aside0.mk A220
          clear A220
          replace H := Option.bind_eq_some_iff.mp H
          obtain ⟨t138, A230, H⟩ := H
          replace H : ((ontimelaw03_op.f k1 6 t137 t138).bind fun t139 => (if t136 = t139 then ((ontimelaw03_op.f k1 7 a0 a1).bind fun t140 => ((ontimelaw03_neg.f a1).bind fun t141 => ((ontimelaw03_op.f k1 6 a0 t141).bind fun t142 => (if t140 = t142 then ((ontimelaw03_neg.f a0).bind fun t143 => ((ontimelaw03_op.f k1 6 a0 t143).bind fun t144 => (if t144 = 0 then ((ontimelaw03_op.f k1 8 a0 1).bind fun t145 => (some (t145 == a0))) else (some false)))) else (some false))))) else (some false))) = some r := H
          have A23 := Aside0.mk A230
          clear A230
          replace H := Option.bind_eq_some_iff.mp H
          obtain ⟨t139, A240, H⟩ := H
          replace H : (if t136 = t139 then ((ontimelaw03_op.f k1 7 a0 a1).bind fun t140 => ((ontimelaw03_neg.f a1).bind fun t141 => ((ontimelaw03_op.f k1 6 a0 t141).bind fun t142 => (if t140 = t142 then ((ontimelaw03_neg.f a0).bind fun t143 => ((ontimelaw03_op.f k1 6 a0 t143).bind fun t144 => (if t144 = 0 then ((ontimelaw03_op.f k1 8 a0 1).bind fun t145 => (some (t145 == a0))) else (some false)))) else (some false))))) else (some false)) = some r := H
          have A24 := Aside0.mk A240
          clear A240
          by_cases c25 : t136 = t139
          · rw [if_pos c25] at H
            have c25b0 : (t136 == t139) = true := beq_iff_eq.mpr c25
            have c25b1 : (t136 != t139) = false := bne_eq_false_iff_eq.mpr c25
            clear c25
            replace H := Option.bind_eq_some_iff.mp H
            obtain ⟨t140, A260, H⟩ := H
            replace H : ((ontimelaw03_neg.f a1).bind fun t141 => ((ontimelaw03_op.f k1 6 a0 t141).bind fun t142 => (if t140 = t142 then ((ontimelaw03_neg.f a0).bind fun t143 => ((ontimelaw03_op.f k1 6 a0 t143).bind fun t144 => (if t144 = 0 then ((ontimelaw03_op.f k1 8 a0 1).bind fun t145 => (some (t145 == a0))) else (some false)))) else (some false)))) = some r := H
            have A26 := Aside0.mk A260
            clear A260
            replace H := Option.bind_eq_some_iff.mp H
            obtain ⟨t141, A270, H⟩ := H
            replace H : ((ontimelaw03_op.f k1 6 a0 t141).bind fun t142 => (if t140 = t142 then ((ontimelaw03_neg.f a0).bind fun t143 => ((ontimelaw03_op.f k1 6 a0 t143).bind fun t144 => (if t144 = 0 then ((ontimelaw03_op.f k1 8 a0 1).bind fun t145 => (some (t145 == a0))) else (some false)))) else (some false))) = some r := H
            have A27 := Aside0.mk A270
            clear A270
            replace H := Option.bind_eq_some_iff.mp H
            obtain ⟨t142, A280, H⟩ := H
            replace H : (if t140 = t142 then ((ontimelaw03_neg.f a0).bind fun t143 => ((ontimelaw03_op.f k1 6 a0 t143).bind fun t144 => (if t144 = 0 then ((ontimelaw03_op.f k1 8 a0 1).bind fun t145 => (some (t145 == a0))) else (some false)))) else (some false)) = some r := H
            have A28 := Aside0.mk A280
            clear A280
            by_cases c29 : t140 = t142
            · rw [if_pos c29] at H
              have c29b0 : (t140 == t142) = true := beq_iff_eq.mpr c29
              have c29b1 : (t140 != t142) = false := bne_eq_false_iff_eq.mpr c29
              clear c29
              replace H := Option.bind_eq_some_iff.mp H
              obtain ⟨t143, A300, H⟩ := H
              replace H : ((ontimelaw03_op.f k1 6 a0 t143).bind fun t144 => (if t144 = 0 then ((ontimelaw03_op.f k1 8 a0 1).bind fun t145 => (some (t145 == a0))) else (some false))) = some r := H
              have A30 := Aside0.mk A300
              clear A300
              replace H := Option.bind_eq_some_iff.mp H
              obtain ⟨t144, A310, H⟩ := H
              replace H : (if t144 = 0 then ((ontimelaw03_op.f k1 8 a0 1).bind fun t145 => (some (t145 == a0))) else (some false)) = some r := H
              have A31 := Aside0.mk A310
              clear A310
              by_cases c32 : t144 = 0
              · rw [if_pos c32] at H
                have c32b0 : (t144 == 0) = true := beq_iff_eq.mpr c32
                have c32b1 : (t144 != 0) = false := bne_eq_false_iff_eq.mpr c32
                clear c32
                replace H := Option.bind_eq_some_iff.mp H
                obtain ⟨t145, A330, H⟩ := H
                replace H : (some (t145 == a0)) = some r := H
                have A33 := Aside0.mk A330
                clear A330
                obtain rfl := Option.some.inj H
                go_wp2_with (first | ((with_reducible refine gate_callee (f := 22) rfl ?_); refine goesL_ (some 47) rfl rfl Try.func22 (by kernel_rfl) rfl #[.int .u8 6, .int .i32 a1, .int .i32 a2] rfl (by (try simp only [List.map_toArray, List.map_cons, List.map_nil]); first | done | rfl | (simp only [List.length_drop, List.length_take]; rfl)) ?_; (with_reducible refine (ontimelaw03_op.calls k1 6 a1 a2 t135 _ A20.out).mono ?_); rintro e w' ⟨rfl, ⟨nd, rfl⟩⟩; refine ⟨_, rfl, ?_⟩) | ((with_reducible refine gate_callee (f := 22) rfl ?_); refine goesL_ (some 48) rfl rfl Try.func22 (by kernel_rfl) rfl #[.int .u8 8, .int .i32 a0, .int .i32 t135] rfl (by (try simp only [List.map_toArray, List.map_cons, List.map_nil]); first | done | rfl | (simp only [List.length_drop, List.length_take]; rfl)) ?_; (with_reducible refine (ontimelaw03_op.calls k1 8 a0 t135 t136 _ A21.out).mono ?_); rintro e w' ⟨rfl, ⟨nd, rfl⟩⟩; refine ⟨_, rfl, ?_⟩) | ((with_reducible refine gate_callee (f := 22) rfl ?_); refine goesL_ (some 51) rfl rfl Try.func22 (by kernel_rfl) rfl #[.int .u8 8, .int .i32 a0, .int .i32 a1] rfl (by (try simp only [List.map_toArray, List.map_cons, List.map_nil]); first | done | rfl | (simp only [List.length_drop, List.length_take]; rfl)) ?_; (with_reducible refine (ontimelaw03_op.calls k1 8 a0 a1 t137 _ A22.out).mono ?_); rintro e w' ⟨rfl, ⟨nd, rfl⟩⟩; refine ⟨_, rfl, ?_⟩) | ((with_reducible refine gate_callee (f := 22) rfl ?_); refine goesL_ (some 54) rfl rfl Try.func22 (by kernel_rfl) rfl #[.int .u8 8, .int .i32 a0, .int .i32 a2] rfl (by (try simp only [List.map_toArray, List.map_cons, List.map_nil]); first | done | rfl | (simp only [List.length_drop, List.length_take]; rfl)) ?_; (with_reducible refine (ontimelaw03_op.calls k1 8 a0 a2 t138 _ A23.out).mono ?_); rintro e w' ⟨rfl, ⟨nd, rfl⟩⟩; refine ⟨_, rfl, ?_⟩) | ((with_reducible refine gate_callee (f := 22) rfl ?_); refine goesL_ (some 55) rfl rfl Try.func22 (by kernel_rfl) rfl #[.int .u8 6, .int .i32 t137, .int .i32 t138] rfl (by (try simp only [List.map_toArray, List.map_cons, List.map_nil]); first | done | rfl | (simp only [List.length_drop, List.length_take]; rfl)) ?_; (with_reducible refine (ontimelaw03_op.calls k1 6 t137 t138 t139 _ A24.out).mono ?_); rintro e w' ⟨rfl, ⟨nd, rfl⟩⟩; refine ⟨_, rfl, ?_⟩) | (go_at_call 22; (with_reducible refine (ontimelaw03_op.calls k1 7 a0 a1 t140 _ A26.out).mono ?_); rintro e w' ⟨rfl, ⟨nd, rfl⟩⟩) | (go_at_call 34; (with_reducible refine (ontimelaw03_neg.calls a1 t141 _ A27.out).mono ?_); rintro e w' ⟨rfl, ⟨nd, rfl⟩⟩) | (go_at_call 22; (with_reducible refine (ontimelaw03_op.calls k1 6 a0 t141 t142 _ A28.out).mono ?_); rintro e w' ⟨rfl, ⟨nd, rfl⟩⟩) | (go_at_call 34; (with_reducible refine (ontimelaw03_neg.calls a0 t143 _ A30.out).mono ?_); rintro e w' ⟨rfl, ⟨nd, rfl⟩⟩) | (go_at_call 22; (with_reducible refine (ontimelaw03_op.calls k1 6 a0 t143 t144 _ A31.out).mono ?_); rintro e w' ⟨rfl, ⟨nd, rfl⟩⟩) | (go_at_call 22; (with_reducible refine (ontimelaw03_op.calls k1 8 a0 1 t145 _ A33.out).mono ?_); rintro e w' ⟨rfl, ⟨nd, rfl⟩⟩))
                go_ret
                exact ⟨by first | rfl | (simp [errW_none, errW_some] <;> rfl) | (simp [*, errW_none, errW_some] <;> rfl), by repeat (first | (with_reducible first | exact HB.out | apply below_alloc | apply pw_below_drewN | apply below_drew1) | exact HB.out)⟩
              · rw [if_neg c32] at H
                have c32b0 : (t144 == 0) = false := beq_eq_false_iff_ne.mpr c32
                have c32b1 : (t144 != 0) = true := bne_iff_ne.mpr c32
                obtain rfl := Option.some.inj H
                go_wp2_with (first | ((with_reducible refine gate_callee (f := 22) rfl ?_); refine goesL_ (some 47) rfl rfl Try.func22 (by kernel_rfl) rfl #[.int .u8 6, .int .i32 a1, .int .i32 a2] rfl (by (try simp only [List.map_toArray, List.map_cons, List.map_nil]); first | done | rfl | (simp only [List.length_drop, List.length_take]; rfl)) ?_; (with_reducible refine (ontimelaw03_op.calls k1 6 a1 a2 t135 _ A20.out).mono ?_); rintro e w' ⟨rfl, ⟨nd, rfl⟩⟩; refine ⟨_, rfl, ?_⟩) | ((with_reducible refine gate_callee (f := 22) rfl ?_); refine goesL_ (some 48) rfl rfl Try.func22 (by kernel_rfl) rfl #[.int .u8 8, .int .i32 a0, .int .i32 t135] rfl (by (try simp only [List.map_toArray, List.map_cons, List.map_nil]); first | done | rfl | (simp only [List.length_drop, List.length_take]; rfl)) ?_; (with_reducible refine (ontimelaw03_op.calls k1 8 a0 t135 t136 _ A21.out).mono ?_); rintro e w' ⟨rfl, ⟨nd, rfl⟩⟩; refine ⟨_, rfl, ?_⟩) | ((with_reducible refine gate_callee (f := 22) rfl ?_); refine goesL_ (some 51) rfl rfl Try.func22 (by kernel_rfl) rfl #[.int .u8 8, .int .i32 a0, .int .i32 a1] rfl (by (try simp only [List.map_toArray, List.map_cons, List.map_nil]); first | done | rfl | (simp only [List.length_drop, List.length_take]; rfl)) ?_; (with_reducible refine (ontimelaw03_op.calls k1 8 a0 a1 t137 _ A22.out).mono ?_); rintro e w' ⟨rfl, ⟨nd, rfl⟩⟩; refine ⟨_, rfl, ?_⟩) | ((with_reducible refine gate_callee (f := 22) rfl ?_); refine goesL_ (some 54) rfl rfl Try.func22 (by kernel_rfl) rfl #[.int .u8 8, .int .i32 a0, .int .i32 a2] rfl (by (try simp only [List.map_toArray, List.map_cons, List.map_nil]); first | done | rfl | (simp only [List.length_drop, List.length_take]; rfl)) ?_; (with_reducible refine (ontimelaw03_op.calls k1 8 a0 a2 t138 _ A23.out).mono ?_); rintro e w' ⟨rfl, ⟨nd, rfl⟩⟩; refine ⟨_, rfl, ?_⟩) | ((with_reducible refine gate_callee (f := 22) rfl ?_); refine goesL_ (some 55) rfl rfl Try.func22 (by kernel_rfl) rfl #[.int .u8 6, .int .i32 t137, .int .i32 t138] rfl (by (try simp only [List.map_toArray, List.map_cons, List.map_nil]); first | done | rfl | (simp only [List.length_drop, List.length_take]; rfl)) ?_; (with_reducible refine (ontimelaw03_op.calls k1 6 t137 t138 t139 _ A24.out).mono ?_); rintro e w' ⟨rfl, ⟨nd, rfl⟩⟩; refine ⟨_, rfl, ?_⟩) | (go_at_call 22; (with_reducible refine (ontimelaw03_op.calls k1 7 a0 a1 t140 _ A26.out).mono ?_); rintro e w' ⟨rfl, ⟨nd, rfl⟩⟩) | (go_at_call 34; (with_reducible refine (ontimelaw03_neg.calls a1 t141 _ A27.out).mono ?_); rintro e w' ⟨rfl, ⟨nd, rfl⟩⟩) | (go_at_call 22; (with_reducible refine (ontimelaw03_op.calls k1 6 a0 t141 t142 _ A28.out).mono ?_); rintro e w' ⟨rfl, ⟨nd, rfl⟩⟩) | (go_at_call 34; (with_reducible refine (ontimelaw03_neg.calls a0 t143 _ A30.out).mono ?_); rintro e w' ⟨rfl, ⟨nd, rfl⟩⟩) | (go_at_call 22; (with_reducible refine (ontimelaw03_op.calls k1 6 a0 t143 t144 _ A31.out).mono ?_); rintro e w' ⟨rfl, ⟨nd, rfl⟩⟩))
                go_ret
                exact ⟨by first | rfl | (simp [errW_none, errW_some] <;> rfl) | (simp [*, errW_none, errW_some] <;> rfl), by repeat (first | (with_reducible first | exact HB.out | apply below_alloc | apply pw_below_drewN | apply below_drew1) | exact HB.out)⟩
            · rw [if_neg c29] at H
              have c29b0 : (t140 == t142) = false := beq_eq_false_iff_ne.mpr c29
              have c29b1 : (t140 != t142) = true := bne_iff_ne.mpr c29
              obtain rfl := Option.some.inj H
              go_wp2_with (first | ((with_reducible refine gate_callee (f := 22) rfl ?_); refine goesL_ (some 47) rfl rfl Try.func22 (by kernel_rfl) rfl #[.int .u8 6, .int .i32 a1, .int .i32 a2] rfl (by (try simp only [List.map_toArray, List.map_cons, List.map_nil]); first | done | rfl | (simp only [List.length_drop, List.length_take]; rfl)) ?_; (with_reducible refine (ontimelaw03_op.calls k1 6 a1 a2 t135 _ A20.out).mono ?_); rintro e w' ⟨rfl, ⟨nd, rfl⟩⟩; refine ⟨_, rfl, ?_⟩) | ((with_reducible refine gate_callee (f := 22) rfl ?_); refine goesL_ (some 48) rfl rfl Try.func22 (by kernel_rfl) rfl #[.int .u8 8, .int .i32 a0, .int .i32 t135] rfl (by (try simp only [List.map_toArray, List.map_cons, List.map_nil]); first | done | rfl | (simp only [List.length_drop, List.length_take]; rfl)) ?_; (with_reducible refine (ontimelaw03_op.calls k1 8 a0 t135 t136 _ A21.out).mono ?_); rintro e w' ⟨rfl, ⟨nd, rfl⟩⟩; refine ⟨_, rfl, ?_⟩) | ((with_reducible refine gate_callee (f := 22) rfl ?_); refine goesL_ (some 51) rfl rfl Try.func22 (by kernel_rfl) rfl #[.int .u8 8, .int .i32 a0, .int .i32 a1] rfl (by (try simp only [List.map_toArray, List.map_cons, List.map_nil]); first | done | rfl | (simp only [List.length_drop, List.length_take]; rfl)) ?_; (with_reducible refine (ontimelaw03_op.calls k1 8 a0 a1 t137 _ A22.out).mono ?_); rintro e w' ⟨rfl, ⟨nd, rfl⟩⟩; refine ⟨_, rfl, ?_⟩) | ((with_reducible refine gate_callee (f := 22) rfl ?_); refine goesL_ (some 54) rfl rfl Try.func22 (by kernel_rfl) rfl #[.int .u8 8, .int .i32 a0, .int .i32 a2] rfl (by (try simp only [List.map_toArray, List.map_cons, List.map_nil]); first | done | rfl | (simp only [List.length_drop, List.length_take]; rfl)) ?_; (with_reducible refine (ontimelaw03_op.calls k1 8 a0 a2 t138 _ A23.out).mono ?_); rintro e w' ⟨rfl, ⟨nd, rfl⟩⟩; refine ⟨_, rfl, ?_⟩) | ((with_reducible refine gate_callee (f := 22) rfl ?_); refine goesL_ (some 55) rfl rfl Try.func22 (by kernel_rfl) rfl #[.int .u8 6, .int .i32 t137, .int .i32 t138] rfl (by (try simp only [List.map_toArray, List.map_cons, List.map_nil]); first | done | rfl | (simp only [List.length_drop, List.length_take]; rfl)) ?_; (with_reducible refine (ontimelaw03_op.calls k1 6 t137 t138 t139 _ A24.out).mono ?_); rintro e w' ⟨rfl, ⟨nd, rfl⟩⟩; refine ⟨_, rfl, ?_⟩) | (go_at_call 22; (with_reducible refine (ontimelaw03_op.calls k1 7 a0 a1 t140 _ A26.out).mono ?_); rintro e w' ⟨rfl, ⟨nd, rfl⟩⟩) | (go_at_call 34; (with_reducible refine (ontimelaw03_neg.calls a1 t141 _ A27.out).mono ?_); rintro e w' ⟨rfl, ⟨nd, rfl⟩⟩) | (go_at_call 22; (with_reducible refine (ontimelaw03_op.calls k1 6 a0 t141 t142 _ A28.out).mono ?_); rintro e w' ⟨rfl, ⟨nd, rfl⟩⟩))
              go_ret
              exact ⟨by first | rfl | (simp [errW_none, errW_some] <;> rfl) | (simp [*, errW_none, errW_some] <;> rfl), by repeat (first | (with_reducible first | exact HB.out | apply below_alloc | apply pw_below_drewN | apply below_drew1) | exact HB.out)⟩
          · rw [if_neg c25] at H
            have c25b0 : (t136 == t139) = false := beq_eq_false_iff_ne.mpr c25
            have c25b1 : (t136 != t139) = true := bne_iff_ne.mpr c25
            obtain rfl := Option.some.inj H
            go_wp2_with (first | ((with_reducible refine gate_callee (f := 22) rfl ?_); refine goesL_ (some 47) rfl rfl Try.func22 (by kernel_rfl) rfl #[.int .u8 6, .int .i32 a1, .int .i32 a2] rfl (by (try simp only [List.map_toArray, List.map_cons, List.map_nil]); first | done | rfl | (simp only [List.length_drop, List.length_take]; rfl)) ?_; (with_reducible refine (ontimelaw03_op.calls k1 6 a1 a2 t135 _ A20.out).mono ?_); rintro e w' ⟨rfl, ⟨nd, rfl⟩⟩; refine ⟨_, rfl, ?_⟩) | ((with_reducible refine gate_callee (f := 22) rfl ?_); refine goesL_ (some 48) rfl rfl Try.func22 (by kernel_rfl) rfl #[.int .u8 8, .int .i32 a0, .int .i32 t135] rfl (by (try simp only [List.map_toArray, List.map_cons, List.map_nil]); first | done | rfl | (simp only [List.length_drop, List.length_take]; rfl)) ?_; (with_reducible refine (ontimelaw03_op.calls k1 8 a0 t135 t136 _ A21.out).mono ?_); rintro e w' ⟨rfl, ⟨nd, rfl⟩⟩; refine ⟨_, rfl, ?_⟩) | ((with_reducible refine gate_callee (f := 22) rfl ?_); refine goesL_ (some 51) rfl rfl Try.func22 (by kernel_rfl) rfl #[.int .u8 8, .int .i32 a0, .int .i32 a1] rfl (by (try simp only [List.map_toArray, List.map_cons, List.map_nil]); first | done | rfl | (simp only [List.length_drop, List.length_take]; rfl)) ?_; (with_reducible refine (ontimelaw03_op.calls k1 8 a0 a1 t137 _ A22.out).mono ?_); rintro e w' ⟨rfl, ⟨nd, rfl⟩⟩; refine ⟨_, rfl, ?_⟩) | ((with_reducible refine gate_callee (f := 22) rfl ?_); refine goesL_ (some 54) rfl rfl Try.func22 (by kernel_rfl) rfl #[.int .u8 8, .int .i32 a0, .int .i32 a2] rfl (by (try simp only [List.map_toArray, List.map_cons, List.map_nil]); first | done | rfl | (simp only [List.length_drop, List.length_take]; rfl)) ?_; (with_reducible refine (ontimelaw03_op.calls k1 8 a0 a2 t138 _ A23.out).mono ?_); rintro e w' ⟨rfl, ⟨nd, rfl⟩⟩; refine ⟨_, rfl, ?_⟩) | ((with_reducible refine gate_callee (f := 22) rfl ?_); refine goesL_ (some 55) rfl rfl Try.func22 (by kernel_rfl) rfl #[.int .u8 6, .int .i32 t137, .int .i32 t138] rfl (by (try simp only [List.map_toArray, List.map_cons, List.map_nil]); first | done | rfl | (simp only [List.length_drop, List.length_take]; rfl)) ?_; (with_reducible refine (ontimelaw03_op.calls k1 6 t137 t138 t139 _ A24.out).mono ?_); rintro e w' ⟨rfl, ⟨nd, rfl⟩⟩; refine ⟨_, rfl, ?_⟩))
            go_ret
            exact ⟨by first | rfl | (simp [errW_none, errW_some] <;> rfl) | (simp [*, errW_none, errW_some] <;> rfl), by repeat (first | (with_reducible first | exact HB.out | apply below_alloc | apply pw_below_drewN | apply below_drew1) | exact HB.out)⟩
  · replace c5 := Bool.eq_false_iff.mpr c5
    subst c5
    have H1 : (some false) = some r := by rw [if_neg (show ¬ (false = true) by decide)] at H; exact H
    clear H
    have H := H1
    clear H1
    obtain rfl := Option.some.inj H
    go_enter Try.func8, Try.ntmps8
    go_wp2_with (first | ((with_reducible refine gate_callee (f := 21) rfl ?_); refine goesL_ (some 9) rfl rfl Try.func21 (by kernel_rfl) rfl #[] rfl (by (try simp only [List.map_toArray, List.map_cons, List.map_nil]); first | done | rfl | (simp only [List.length_drop, List.length_take]; rfl)) ?_; (with_reducible refine (ontimelaw03_awake.calls k  false _ A4.out).mono ?_); rintro e w' ⟨rfl, ⟨nd, rfl⟩⟩; refine ⟨_, rfl, ?_⟩))
    go_ret
    exact ⟨by first | rfl | (simp [errW_none, errW_some] <;> rfl) | (simp [*, errW_none, errW_some] <;> rfl), by repeat (first | (with_reducible first | exact HB.out | apply below_alloc | apply pw_below_drewN | apply below_drew1) | exact HB.out)⟩

/-- THE ONE PURE STATEMENT of ontimelaw03_WordRing: yours. -/
def ontimelaw03_WordRing.Pure : Prop := ∀ (a0 : Int) (a1 : Int) (a2 : Int), (Lit.int .i32 a0).wf = true → (Lit.int .i32 a1).wf = true → (Lit.int .i32 a2).wf = true → ∃ k, ontimelaw03_WordRing.f k a0 a1 a2 = some true
theorem ontimelaw03_WordRing.walk (P : ontimelaw03_WordRing.Pure) (a0 : Int) (a1 : Int) (a2 : Int) (w : World) (w0 : (Lit.int .i32 a0).wf = true) (w1 : (Lit.int .i32 a1).wf = true) (w2 : (Lit.int .i32 a2).wf = true) :
    Calls Try.prog 8 #[.int .i32 a0, .int .i32 a1, .int .i32 a2] w fun e w' => e = .returned (.bool true) ∧ Below w.heap.size w w' := by
  obtain ⟨k, h⟩ := P a0 a1 a2 w0 w1 w2
  refine (ontimelaw03_WordRing.calls k a0 a1 a2 true w h).mono ?_
  rintro e w' ⟨rfl, hd⟩
  exact ⟨rfl, hd⟩

end Go.Proofs.Ytoalomjmmlnclaa.PWordRing
