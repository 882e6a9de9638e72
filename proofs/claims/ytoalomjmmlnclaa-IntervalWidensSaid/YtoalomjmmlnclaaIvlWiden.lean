/- The contract of interval.Widen. -/
import Derived.Test.YtoalomjmmlnclaaIvlA
namespace Go.Proofs.Ytoalomjmmlnclaa.Ivl
open Go.RowKit Go.Proofs.Ytoalomjmmlnclaa.PIntervalApply Go.Proofs.YtoalomjmmlnclaaW.PrintWords Go.Proofs.YtoalomjmmlnclaaW.PrintLast Go.Proofs.YtoalomjmmlnclaaW.PrintMore
open Go.Proofs.Ytoalomjmmlnclaa.M
attribute [local go_sem] max2_int min2_int max_two min_two max_three min_three max_four min_four
set_option linter.unusedVariables false
set_option linter.unusedSimpArgs false

/-! ### interval_Widen: function 35 -/
def interval_Widen.j0 : Nat → Bool → Int → Int → Int → Int → Option (Int × Int)
  | 0, _, _, _, _, _ => none
  | k + 1, x10, x229000, x229001, x230000, x230001 => if x10 = true then ((interval_Join.f k x229000 x229001 x230000 x230001).bind fun bt233 => (some (bt233.1, bt233.2))) else (if x230000 < x229000 then (if x230001 > x229001 then (some ((-2147483648), 2147483647)) else (some ((-2147483648), x229001))) else (if x230001 > x229001 then (some (x229000, 2147483647)) else (some (x229000, x229001))))
def interval_Widen.f (k : Nat) (a0_0 : Int) (a0_1 : Int) (a1_0 : Int) (a1_1 : Int) : Option (Int × Int) := (interval_I_IsEmpty.f a0_0 a0_1).bind fun t231 => (if t231 = true then (interval_Widen.j0 k true a0_0 a0_1 a1_0 a1_1) else ((interval_I_IsEmpty.f a1_0 a1_1).bind fun t232 => (interval_Widen.j0 k t232 a0_0 a0_1 a1_0 a1_1)))
theorem interval_Widen.mono_l : ∀ k, (∀ y0 y1 y2 y3 y4, LeO (interval_Widen.j0 k y0 y1 y2 y3 y4) (interval_Widen.j0 (k + 1) y0 y1 y2 y3 y4))
  | 0 => fun _ _ _ _ _ r h => by simp [interval_Widen.j0] at h
  | k + 1 => by
    have ih0 := interval_Widen.mono_l k
    · intro y0 y1 y2 y3 y4
      unfold interval_Widen.j0
      repeat' first
      | (with_reducible exact ih0 _ _ _ _ _)
      | (with_reducible exact interval_Join.mono _ _ _ _ _)
      | (with_reducible exact LeO.refl _)
      | (with_reducible exact LeO.none _)
      | (with_reducible refine LeO.ite ?_ ?_)
      | (with_reducible refine LeO.bind ?_ (fun _ => ?_))
      | exact ih0 _ _ _ _ _
      | exact interval_Join.mono _ _ _ _ _
      | exact LeO.none _
      | refine LeO.ite ?_ ?_
      | refine LeO.bind ?_ (fun _ => ?_)
theorem interval_Widen.mono : ∀ a0 a1 a2 a3 k, LeO (interval_Widen.f k a0 a1 a2 a3) (interval_Widen.f (k + 1) a0 a1 a2 a3) := by
  intro a0 a1 a2 a3 k
  have ih0 := interval_Widen.mono_l k
  unfold interval_Widen.f
  repeat' first
      | (with_reducible exact ih0 _ _ _ _ _)
      | (with_reducible exact interval_Join.mono _ _ _ _ _)
      | (with_reducible exact LeO.refl _)
      | (with_reducible exact LeO.none _)
      | (with_reducible refine LeO.ite ?_ ?_)
      | (with_reducible refine LeO.bind ?_ (fun _ => ?_))
      | exact ih0 _ _ _ _ _
      | exact interval_Join.mono _ _ _ _ _
      | exact LeO.none _
      | refine LeO.ite ?_ ?_
      | refine LeO.bind ?_ (fun _ => ?_)
set_option maxHeartbeats 8000000 in
set_option maxRecDepth 100000 in
theorem interval_Widen.calls (k : Nat) (a0_0 : Int) (a0_1 : Int) (a1_0 : Int) (a1_1 : Int) (r1 : Int) (r2 : Int) (w : World) (h : interval_Widen.f k a0_0 a0_1 a1_0 a1_1 = some (r1, r2)) :
    Calls Try.prog 35 #[.agg #[.int .i32 a0_0, .int .i32 a0_1], .agg #[.int .i32 a1_0, .int .i32 a1_1]] w fun e w' => e = .returned (.agg #[.int .i32 r1, .int .i32 r2]) ∧ Below w.heap.size w w' := by
  have hu38 := Try.underlying38
  have HB := Aside0.mk (Below.refl w.heap.size w)
  have H : ((interval_I_IsEmpty.f a0_0 a0_1).bind fun t231 => (if t231 = true then (interval_Widen.j0 k true a0_0 a0_1 a1_0 a1_1) else ((interval_I_IsEmpty.f a1_0 a1_1).bind fun t232 => (interval_Widen.j0 k t232 a0_0 a0_1 a1_0 a1_1)))) = some (r1, r2) := h
  clear h
  have HC3 := Aside0.mk H
  clear H
  go_enter Try.func35, Try.ntmps35
  go_upto_region 1 with (first | ((with_reducible refine gate_dst (N := 2) rfl ?_); refine box_event ?hg (N := 2) ?hd (cs := #[.int .i32 a0_0, .int .i32 a0_1]) (t := 38) ?hr ?_; (case hd => rfl); (case hg => rfl); (case hr => first | (go_simp; done) | (go_simp; rfl)); intro gb228 hg w4 hbox hb; have n0_ := Aside0.mk (below_step (by repeat (first | (with_reducible first | exact HB.out | apply below_alloc | apply pw_below_drewN | apply below_drew1) | exact HB.out)) hb); have n1_ := Aside0.mk (hbox); have n2_ := Aside0.mk ((by rw [hg]; exact (below_size (by repeat (first | (with_reducible first | exact HB.out | apply below_alloc | apply pw_below_drewN | apply below_drew1) | exact HB.out))) : w.heap.size ≤ gb228)); have n3_ := Aside0.mk ((by rw [hg]; exact (below_size (by repeat (first | (with_reducible first | exact HB.out | apply below_alloc | apply pw_below_drewN | apply below_drew1) | exact HB.out))) : w.heap.size ≤ gb228)); clear HB; have HB := n0_; have BK228 := n1_; have GW228 := n2_; have GE228 := n3_; clear n0_ n1_ n2_ n3_; clear hb hbox hg) | ((with_reducible refine gate_dst (N := 3) rfl ?_); refine box_event ?hg (N := 3) ?hd (cs := #[.int .i32 a1_0, .int .i32 a1_1]) (t := 38) ?hr ?_; (case hd => rfl); (case hg => rfl); (case hr => first | (go_simp; done) | (go_simp; rfl)); intro gb229 hg w5 hbox hb; have n0_ := Aside0.mk (blk_below (g := gb228) (o := .cells #[.int .i32 a0_0, .int .i32 a0_1] 38 (0, 0)) (by (with_reducible repeat (first | refine blk_drewN ?_ _ | refine blk_drew ?_ | refine blk_alloc ?_ _)); exact BK228.out) hb); have n1_ := Aside0.mk (below_step (by repeat (first | (with_reducible first | exact HB.out | apply below_alloc | apply pw_below_drewN | apply below_drew1 | refine below_set ?_ GE228.out) | exact HB.out)) hb); have n2_ := Aside0.mk (hbox); have n3_ := Aside0.mk ((by rw [hg]; exact (below_size (by repeat (first | (with_reducible first | exact HB.out | apply below_alloc | apply pw_below_drewN | apply below_drew1 | refine below_set ?_ GE228.out) | exact HB.out))) : w.heap.size ≤ gb229)); have n4_ := Aside0.mk ((by rw [hg]; exact (below_size (by repeat (first | (with_reducible first | exact HB.out | apply below_alloc | apply pw_below_drewN | apply below_drew1 | refine below_set ?_ GE228.out) | exact HB.out))) : w.heap.size ≤ gb229)); have n5_ := Aside0.mk ((by rw [hg]; exact Nat.ne_of_lt (blk_lt (g := gb228) (o := .cells #[.int .i32 a0_0, .int .i32 a0_1] 38 (0, 0)) (by (with_reducible repeat (first | refine blk_drewN ?_ _ | refine blk_drew ?_ | refine blk_alloc ?_ _)); exact BK228.out)) : gb228 ≠ gb229)); have n6_ := Aside0.mk ((by rw [hg]; exact Nat.ne_of_gt (blk_lt (g := gb228) (o := .cells #[.int .i32 a0_0, .int .i32 a0_1] 38 (0, 0)) (by (with_reducible repeat (first | refine blk_drewN ?_ _ | refine blk_drew ?_ | refine blk_alloc ?_ _)); exact BK228.out)) : gb229 ≠ gb228)); clear BK228; clear HB; have BK228 := n0_; have HB := n1_; have BK229 := n2_; have GW229 := n3_; have GE229 := n4_; have NB228_229 := n5_; have NB229_228 := n6_; clear n0_ n1_ n2_ n3_ n4_ n5_ n6_; clear hb hbox hg) | ((with_reducible refine gate_dst (N := 4) rfl ?_); refine box_event ?hg (N := 4) ?hd (cs := #[.int .i32 0, .int .i32 0]) (t := 38) ?hr ?_; (case hd => rfl); (case hg => rfl); (case hr => first | (go_simp; done) | (go_simp; rfl)); intro gb230 hg w6 hbox hb; have n0_ := Aside0.mk (blk_below (g := gb228) (o := .cells #[.int .i32 a0_0, .int .i32 a0_1] 38 (0, 0)) (by (with_reducible repeat (first | refine blk_drewN ?_ _ | refine blk_drew ?_ | refine blk_alloc ?_ _)); exact BK228.out) hb); have n1_ := Aside0.mk (blk_below (g := gb229) (o := .cells #[.int .i32 a1_0, .int .i32 a1_1] 38 (0, 0)) (by (with_reducible repeat (first | refine blk_drewN ?_ _ | refine blk_drew ?_ | refine blk_alloc ?_ _)); exact BK229.out) hb); have n2_ := Aside0.mk (below_step (by repeat (first | (with_reducible first | exact HB.out | apply below_alloc | apply pw_below_drewN | apply below_drew1 | refine below_set ?_ GE228.out | refine below_set ?_ GE229.out) | exact HB.out)) hb); have n3_ := Aside0.mk (hbox); have n4_ := Aside0.mk ((by rw [hg]; exact (below_size (by repeat (first | (with_reducible first | exact HB.out | apply below_alloc | apply pw_below_drewN | apply below_drew1 | refine below_set ?_ GE228.out | refine below_set ?_ GE229.out) | exact HB.out))) : w.heap.size ≤ gb230)); have n5_ := Aside0.mk ((by rw [hg]; exact (below_size (by repeat (first | (with_reducible first | exact HB.out | apply below_alloc | apply pw_below_drewN | apply below_drew1 | refine below_set ?_ GE228.out | refine below_set ?_ GE229.out) | exact HB.out))) : w.heap.size ≤ gb230)); have n6_ := Aside0.mk ((by rw [hg]; exact Nat.ne_of_lt (blk_lt (g := gb228) (o := .cells #[.int .i32 a0_0, .int .i32 a0_1] 38 (0, 0)) (by (with_reducible repeat (first | refine blk_drewN ?_ _ | refine blk_drew ?_ | refine blk_alloc ?_ _)); exact BK228.out)) : gb228 ≠ gb230)); have n7_ := Aside0.mk ((by rw [hg]; exact Nat.ne_of_gt (blk_lt (g := gb228) (o := .cells #[.int .i32 a0_0, .int .i32 a0_1] 38 (0, 0)) (by (with_reducible repeat (first | refine blk_drewN ?_ _ | refine blk_drew ?_ | refine blk_alloc ?_ _)); exact BK228.out)) : gb230 ≠ gb228)); have n8_ := Aside0.mk ((by rw [hg]; exact Nat.ne_of_lt (blk_lt (g := gb229) (o := .cells #[.int .i32 a1_0, .int .i32 a1_1] 38 (0, 0)) (by (with_reducible repeat (first | refine blk_drewN ?_ _ | refine blk_drew ?_ | refine blk_alloc ?_ _)); exact BK229.out)) : gb229 ≠ gb230)); have n9_ := Aside0.mk ((by rw [hg]; exact Nat.ne_of_gt (blk_lt (g := gb229) (o := .cells #[.int .i32 a1_0, .int .i32 a1_1] 38 (0, 0)) (by (with_reducible repeat (first | refine blk_drewN ?_ _ | refine blk_drew ?_ | refine blk_alloc ?_ _)); exact BK229.out)) : gb230 ≠ gb229)); clear BK228; clear BK229; clear HB; have BK228 := n0_; have BK229 := n1_; have HB := n2_; have BK230 := n3_; have GW230 := n4_; have GE230 := n5_; have NB228_230 := n6_; have NB230_228 := n7_; have NB229_230 := n8_; have NB230_229 := n9_; clear n0_ n1_ n2_ n3_ n4_ n5_ n6_ n7_ n8_ n9_; clear hb hbox hg))
  (try simp only [Act.put, List.setIfInBounds_toArray, List.set_cons_zero, List.set_cons_succ])
  go_cut [10] (fun v10 wc => ∃ (kq : Nat) (x10_2 : Bool), v10 = .bool x10_2 ∧ Aside0 (interval_Widen.j0 kq x10_2 a0_0 a0_1 a1_0 a1_1 = some (r1, r2)) ∧ Aside0 (kq ≤ k) ∧ Aside0 (wc.heap[gb228]? = some (.cells #[.int .i32 a0_0, .int .i32 a0_1] 38 (0, 0))) ∧ Aside0 (wc.heap[gb229]? = some (.cells #[.int .i32 a1_0, .int .i32 a1_1] 38 (0, 0))) ∧ Aside0 (wc.heap[gb230]? = some (.cells #[.int .i32 0, .int .i32 0] 38 (0, 0))) ∧ Aside0 (Below w.heap.size w wc))
  case first =>
    have H := HC3.out
    clear HC3
    replace H := Option.bind_eq_some_iff.mp H
    obtain ⟨t231, A70, H⟩ := H
    replace H : (if t231 = true then (interval_Widen.j0 k true a0_0 a0_1 a1_0 a1_1) else ((interval_I_IsEmpty.f a1_0 a1_1).bind fun t232 => (interval_Widen.j0 k t232 a0_0 a0_1 a1_0 a1_1))) = some (r1, r2) := H
    have A7 := Aside0.mk A70
    clear A70
    by_cases c8 : t231 = true
    · subst c8
      have H1 : (interval_Widen.j0 k true a0_0 a0_1 a1_0 a1_1) = some (r1, r2) := by rw [if_pos rfl] at H; exact H
      clear H
      have H := H1
      clear H1
      have H' := Aside0.mk H
      clear H
      have hnb9 := NB228_229.out
      have hnc9 := NB229_228.out
      have hnb10 := NB228_230.out
      have hnc10 := NB230_228.out
      have hcz11_0 : w6.cell? ⟨gb228, 0, none⟩ = some (.int .i32 a0_0) := (blk_cell BK228.out 0).trans rfl
      have hcz11_1 : w6.cell? ⟨gb228, 1, none⟩ = some (.int .i32 a0_1) := (blk_cell BK228.out 1).trans rfl
      have hfz11_0 := blk_frozen BK228.out 0
      have hfz11_1 := blk_frozen BK228.out 1
      go_wp2_with (first | ((with_reducible refine gate_callee (f := 32) rfl ?_); refine goesL_ (some 6) rfl rfl Try.func32 (by kernel_rfl) rfl #[.agg #[.int .i32 a0_0, .int .i32 a0_1]] rfl (by (try simp only [List.map_toArray, List.map_cons, List.map_nil]); first | done | rfl | (simp only [List.length_drop, List.length_take]; rfl)) ?_; (with_reducible refine (interval_I_IsEmpty.calls a0_0 a0_1 true _ A7.out).mono ?_); rintro e w12 ⟨rfl, hb⟩; refine ⟨_, rfl, ?_⟩; have n0_ := Aside0.mk (blk_below (g := gb228) (o := .cells #[.int .i32 a0_0, .int .i32 a0_1] 38 (0, 0)) (by (with_reducible repeat (first | refine blk_drewN ?_ _ | refine blk_drew ?_ | refine blk_alloc ?_ _)); exact BK228.out) hb); have n1_ := Aside0.mk (blk_below (g := gb229) (o := .cells #[.int .i32 a1_0, .int .i32 a1_1] 38 (0, 0)) (by (with_reducible repeat (first | refine blk_drewN ?_ _ | refine blk_drew ?_ | refine blk_alloc ?_ _)); exact BK229.out) hb); have n2_ := Aside0.mk (blk_below (g := gb230) (o := .cells #[.int .i32 0, .int .i32 0] 38 (0, 0)) (by (with_reducible repeat (first | refine blk_drewN ?_ _ | refine blk_drew ?_ | refine blk_alloc ?_ _)); exact BK230.out) hb); have n3_ := Aside0.mk (below_step (by repeat (first | (with_reducible first | exact HB.out | apply below_alloc | apply pw_below_drewN | apply below_drew1 | refine below_set ?_ GE228.out | refine below_set ?_ GE229.out | refine below_set ?_ GE230.out) | exact HB.out)) hb); clear BK228; clear BK229; clear BK230; clear HB; have BK228 := n0_; have BK229 := n1_; have BK230 := n2_; have HB := n3_; clear n0_ n1_ n2_ n3_; (try clear hb); (try clear hb2); (try clear hk); (try clear hi)))
      go_meet
      case rel => exact ⟨_, (true), (by first | rfl | (simp; done) | (simp [*]; done)), H', ⟨by first | omega | exact Nat.le_refl _⟩, ⟨by (with_reducible repeat (first | refine blk_drewN ?_ _ | refine blk_drew ?_ | refine blk_alloc ?_ _)); exact BK228.out⟩, ⟨by (with_reducible repeat (first | refine blk_drewN ?_ _ | refine blk_drew ?_ | refine blk_alloc ?_ _)); exact BK229.out⟩, ⟨by (with_reducible repeat (first | refine blk_drewN ?_ _ | refine blk_drew ?_ | refine blk_alloc ?_ _)); exact BK230.out⟩, ⟨by repeat (first | (with_reducible first | exact HB.out | apply below_alloc | apply pw_below_drewN | apply below_drew1 | refine below_set ?_ GE228.out | refine below_set ?_ GE229.out | refine below_set ?_ GE230.out) | exact HB.out)⟩⟩
    · replace c8 := Bool.eq_false_iff.mpr c8
      subst c8
      have H1 : ((interval_I_IsEmpty.f a1_0 a1_1).bind fun t232 => (interval_Widen.j0 k t232 a0_0 a0_1 a1_0 a1_1)) = some (r1, r2) := by rw [if_neg (show ¬ (false = true) by decide)] at H; exact H
      clear H
      have H := H1
      clear H1
      replace H := Option.bind_eq_some_iff.mp H
      obtain ⟨t232, A130, H⟩ := H
      replace H : (interval_Widen.j0 k t232 a0_0 a0_1 a1_0 a1_1) = some (r1, r2) := H
      have A13 := Aside0.mk A130
      clear A130
      have H' := Aside0.mk H
      clear H
      have hnb14 := NB228_229.out
      have hnc14 := NB229_228.out
      have hnb15 := NB228_230.out
      have hnc15 := NB230_228.out
      have hcz16_0 : w6.cell? ⟨gb228, 0, none⟩ = some (.int .i32 a0_0) := (blk_cell BK228.out 0).trans rfl
      have hcz16_1 : w6.cell? ⟨gb228, 1, none⟩ = some (.int .i32 a0_1) := (blk_cell BK228.out 1).trans rfl
      have hfz16_0 := blk_frozen BK228.out 0
      have hfz16_1 := blk_frozen BK228.out 1
      go_wp2_with (first | ((with_reducible refine gate_callee (f := 32) rfl ?_); refine goesL_ (some 6) rfl rfl Try.func32 (by kernel_rfl) rfl #[.agg #[.int .i32 a0_0, .int .i32 a0_1]] rfl (by (try simp only [List.map_toArray, List.map_cons, List.map_nil]); first | done | rfl | (simp only [List.length_drop, List.length_take]; rfl)) ?_; (with_reducible refine (interval_I_IsEmpty.calls a0_0 a0_1 false _ A7.out).mono ?_); rintro e w17 ⟨rfl, hb⟩; refine ⟨_, rfl, ?_⟩; have n0_ := Aside0.mk (blk_below (g := gb228) (o := .cells #[.int .i32 a0_0, .int .i32 a0_1] 38 (0, 0)) (by (with_reducible repeat (first | refine blk_drewN ?_ _ | refine blk_drew ?_ | refine blk_alloc ?_ _)); exact BK228.out) hb); have n1_ := Aside0.mk (blk_below (g := gb229) (o := .cells #[.int .i32 a1_0, .int .i32 a1_1] 38 (0, 0)) (by (with_reducible repeat (first | refine blk_drewN ?_ _ | refine blk_drew ?_ | refine blk_alloc ?_ _)); exact BK229.out) hb); have n2_ := Aside0.mk (blk_below (g := gb230) (o := .cells #[.int .i32 0, .int .i32 0] 38 (0, 0)) (by (with_reducible repeat (first | refine blk_drewN ?_ _ | refine blk_drew ?_ | refine blk_alloc ?_ _)); exact BK230.out) hb); have n3_ := Aside0.mk (below_step (by repeat (first | (with_reducible first | exact HB.out | apply below_alloc | apply pw_below_drewN | apply below_drew1 | refine below_set ?_ GE228.out | refine below_set ?_ GE229.out | refine below_set ?_ GE230.out) | exact HB.out)) hb); clear BK228; clear BK229; clear BK230; clear HB; have BK228 := n0_; have BK229 := n1_; have BK230 := n2_; have HB := n3_; clear n0_ n1_ n2_ n3_; (try clear hb); (try clear hb2); (try clear hk); (try clear hi); have hnb18 := NB229_230.out; have hnc18 := NB230_229.out; have hcz19_0 : w17.cell? ⟨gb229, 0, none⟩ = some (.int .i32 a1_0) := (blk_cell BK229.out 0).trans rfl; have hcz19_1 : w17.cell? ⟨gb229, 1, none⟩ = some (.int .i32 a1_1) := (blk_cell BK229.out 1).trans rfl; have hfz19_0 := blk_frozen BK229.out 0; have hfz19_1 := blk_frozen BK229.out 1) | (go_at_call 32; (with_reducible refine (interval_I_IsEmpty.calls a1_0 a1_1 t232 _ A13.out).mono ?_); rintro e w20 ⟨rfl, hb⟩; have n0_ := Aside0.mk (blk_below (g := gb228) (o := .cells #[.int .i32 a0_0, .int .i32 a0_1] 38 (0, 0)) (by (with_reducible repeat (first | refine blk_drewN ?_ _ | refine blk_drew ?_ | refine blk_alloc ?_ _)); exact BK228.out) hb); have n1_ := Aside0.mk (blk_below (g := gb229) (o := .cells #[.int .i32 a1_0, .int .i32 a1_1] 38 (0, 0)) (by (with_reducible repeat (first | refine blk_drewN ?_ _ | refine blk_drew ?_ | refine blk_alloc ?_ _)); exact BK229.out) hb); have n2_ := Aside0.mk (blk_below (g := gb230) (o := .cells #[.int .i32 0, .int .i32 0] 38 (0, 0)) (by (with_reducible repeat (first | refine blk_drewN ?_ _ | refine blk_drew ?_ | refine blk_alloc ?_ _)); exact BK230.out) hb); have n3_ := Aside0.mk (below_step (by repeat (first | (with_reducible first | exact HB.out | apply below_alloc | apply pw_below_drewN | apply below_drew1 | refine below_set ?_ GE228.out | refine below_set ?_ GE229.out | refine below_set ?_ GE230.out) | exact HB.out)) hb); clear BK228; clear BK229; clear BK230; clear HB; have BK228 := n0_; have BK229 := n1_; have BK230 := n2_; have HB := n3_; clear n0_ n1_ n2_ n3_; (try clear hb); (try clear hb2); (try clear hk); (try clear hi)))
      go_meet
      case rel => exact ⟨_, (t232), (by first | rfl | (simp; done) | (simp [*]; done)), H', ⟨by first | omega | exact Nat.le_refl _⟩, ⟨by (with_reducible repeat (first | refine blk_drewN ?_ _ | refine blk_drew ?_ | refine blk_alloc ?_ _)); exact BK228.out⟩, ⟨by (with_reducible repeat (first | refine blk_drewN ?_ _ | refine blk_drew ?_ | refine blk_alloc ?_ _)); exact BK229.out⟩, ⟨by (with_reducible repeat (first | refine blk_drewN ?_ _ | refine blk_drew ?_ | refine blk_alloc ?_ _)); exact BK230.out⟩, ⟨by repeat (first | (with_reducible first | exact HB.out | apply below_alloc | apply pw_below_drewN | apply below_drew1 | refine below_set ?_ GE228.out | refine below_set ?_ GE229.out | refine below_set ?_ GE230.out) | exact HB.out)⟩⟩
  case rest =>
    clear HC3
    try clear c1
    try clear p2
    try clear c3
    try clear c8
    try clear c9
    try clear c10
    try clear c14
    try clear c15
    try clear c18
    try clear hcz11_0
    try clear hcz11_1
    try clear hcz16_0
    try clear hcz16_1
    try clear hcz19_0
    try clear hcz19_1
    try clear hfz11_0
    try clear hfz11_1
    try clear hfz16_0
    try clear hfz16_1
    try clear hfz19_0
    try clear hfz19_1
    obtain ⟨kq, x10_2, rfl, HA, HJ2, BK228, BK229, BK230, HB⟩ := hcut
    cases kq with
    | zero => exact absurd HA.out (by simp [interval_Widen.j0])
    | succ kj2 =>
      have H := HA.out
      clear HA
      simp only [interval_Widen.j0] at H
      by_cases c21 : x10_2 = true
      · subst c21
        have H1 : ((interval_Join.f kj2 a0_0 a0_1 a1_0 a1_1).bind fun bt233 => (some (bt233.1, bt233.2))) = some (r1, r2) := by rw [if_pos rfl] at H; exact H
        clear H
        have H := H1
        clear H1
        replace H := Option.bind_eq_some_iff.mp H
        obtain ⟨⟨t233, t234⟩, A220, H⟩ := H
        replace H : (some (t233, t234)) = some (r1, r2) := H
        have A22 := Aside0.mk A220
        clear A220
        simp only [Option.some.injEq, Prod.mk.injEq] at H
        obtain ⟨rfl, rfl⟩ := H
        have hnb23 := NB228_229.out
        have hnc23 := NB229_228.out
        have hnb24 := NB228_230.out
        have hnc24 := NB230_228.out
        have hcz25_0 : wc.cell? ⟨gb228, 0, none⟩ = some (.int .i32 a0_0) := (blk_cell BK228.out 0).trans rfl
        have hcz25_1 : wc.cell? ⟨gb228, 1, none⟩ = some (.int .i32 a0_1) := (blk_cell BK228.out 1).trans rfl
        have hfz25_0 := blk_frozen BK228.out 0
        have hfz25_1 := blk_frozen BK228.out 1
        have hnb26 := NB229_230.out
        have hnc26 := NB230_229.out
        have hcz27_0 : wc.cell? ⟨gb229, 0, none⟩ = some (.int .i32 a1_0) := (blk_cell BK229.out 0).trans rfl
        have hcz27_1 : wc.cell? ⟨gb229, 1, none⟩ = some (.int .i32 a1_1) := (blk_cell BK229.out 1).trans rfl
        have hfz27_0 := blk_frozen BK229.out 0
        have hfz27_1 := blk_frozen BK229.out 1
        go_wp2_with (first | ((with_reducible refine gate_callee (f := 26) rfl ?_); refine goesL_ (some 13) rfl rfl Try.func26 (by kernel_rfl) rfl #[.agg #[.int .i32 a0_0, .int .i32 a0_1], .agg #[.int .i32 a1_0, .int .i32 a1_1]] rfl (by (try simp only [List.map_toArray, List.map_cons, List.map_nil]); first | done | rfl | (simp only [List.length_drop, List.length_take]; rfl)) ?_; (with_reducible refine (interval_Join.calls kj2 a0_0 a0_1 a1_0 a1_1 t233 t234 _ A22.out).mono ?_); rintro e w28 ⟨rfl, hb⟩; refine ⟨_, rfl, ?_⟩; have n0_ := Aside0.mk (blk_below (g := gb228) (o := .cells #[.int .i32 a0_0, .int .i32 a0_1] 38 (0, 0)) (by (with_reducible repeat (first | refine blk_drewN ?_ _ | refine blk_drew ?_ | refine blk_alloc ?_ _)); exact BK228.out) hb); have n1_ := Aside0.mk (blk_below (g := gb229) (o := .cells #[.int .i32 a1_0, .int .i32 a1_1] 38 (0, 0)) (by (with_reducible repeat (first | refine blk_drewN ?_ _ | refine blk_drew ?_ | refine blk_alloc ?_ _)); exact BK229.out) hb); have n2_ := Aside0.mk (blk_below (g := gb230) (o := .cells #[.int .i32 0, .int .i32 0] 38 (0, 0)) (by (with_reducible repeat (first | refine blk_drewN ?_ _ | refine blk_drew ?_ | refine blk_alloc ?_ _)); exact BK230.out) hb); have n3_ := Aside0.mk (below_step (by repeat (first | (with_reducible first | exact HB.out | apply below_alloc | apply pw_below_drewN | apply below_drew1 | refine below_set ?_ GE228.out | refine below_set ?_ GE229.out | refine below_set ?_ GE230.out) | exact HB.out)) hb); clear BK228; clear BK229; clear BK230; clear HB; have BK228 := n0_; have BK229 := n1_; have BK230 := n2_; have HB := n3_; clear n0_ n1_ n2_ n3_; (try clear hb); (try clear hb2); (try clear hk); (try clear hi); have hcz29_0 : w28.cell? ⟨gb230, 0, none⟩ = some (.int .i32 0) := (blk_cell BK230.out 0).trans rfl; have hcz29_1 : w28.cell? ⟨gb230, 1, none⟩ = some (.int .i32 0) := (blk_cell BK230.out 1).trans rfl; have hfz29_0 := blk_frozen BK230.out 0; have hfz29_1 := blk_frozen BK230.out 1))
        refine bodyPost_ret (results_cell_row rfl _ _ gb230 38 #[.int .i32 t233, .int .i32 t234] (0, 0) _ rfl (by (with_reducible repeat (first | refine blk_drewN ?_ _ | refine blk_drew ?_ | refine blk_alloc ?_ _)); refine blk_put (cs := #[.int .i32 t233, .int .i32 0]) ?_ 1 _ rfl; (with_reducible repeat (first | refine blk_drewN ?_ _ | refine blk_drew ?_ | refine blk_alloc ?_ _)); refine blk_put (cs := #[.int .i32 0, .int .i32 0]) ?_ 0 _ rfl; (with_reducible repeat (first | refine blk_drewN ?_ _ | refine blk_drew ?_ | refine blk_alloc ?_ _)); exact BK230.out) Try.underlying38 rfl (by kernel_rfl)) rfl ?_
        exact ⟨by first | rfl | (simp [errW_none, errW_some] <;> rfl) | (simp [*, errW_none, errW_some] <;> rfl), by repeat (first | (with_reducible first | exact HB.out | apply below_alloc | apply pw_below_drewN | apply below_drew1 | refine below_set ?_ GE228.out | refine below_set ?_ GE229.out | refine below_set ?_ GE230.out) | exact HB.out)⟩
      · replace c21 := Bool.eq_false_iff.mpr c21
        subst c21
        have H1 : (if a1_0 < a0_0 then (if a1_1 > a0_1 then (some ((-2147483648), 2147483647)) else (some ((-2147483648), a0_1))) else (if a1_1 > a0_1 then (some (a0_0, 2147483647)) else (some (a0_0, a0_1)))) = some (r1, r2) := by rw [if_neg (show ¬ (false = true) by decide)] at H; exact H
        clear H
        have H := H1
        clear H1
        by_cases c30 : a1_0 < a0_0
        · rw [if_pos c30] at H
          have c30b0 : decide (a1_0 < a0_0) = true := decide_eq_true c30
          clear c30
          by_cases c31 : a1_1 > a0_1
          · rw [if_pos c31] at H
            have c31b0 : decide (a0_1 < a1_1) = true := decide_eq_true c31
            clear c31
            simp only [Option.some.injEq, Prod.mk.injEq] at H
            obtain ⟨rfl, rfl⟩ := H
            have hnb32 := NB229_228.out
            have hnc32 := NB228_229.out
            have hnb33 := NB229_230.out
            have hnc33 := NB230_229.out
            have hcz34_0 : wc.cell? ⟨gb229, 0, none⟩ = some (.int .i32 a1_0) := (blk_cell BK229.out 0).trans rfl
            have hcz34_1 : wc.cell? ⟨gb229, 1, none⟩ = some (.int .i32 a1_1) := (blk_cell BK229.out 1).trans rfl
            have hfz34_0 := blk_frozen BK229.out 0
            have hfz34_1 := blk_frozen BK229.out 1
            have hnb35 := NB228_230.out
            have hnc35 := NB230_228.out
            have hcz36_0 : wc.cell? ⟨gb228, 0, none⟩ = some (.int .i32 a0_0) := (blk_cell BK228.out 0).trans rfl
            have hcz36_1 : wc.cell? ⟨gb228, 1, none⟩ = some (.int .i32 a0_1) := (blk_cell BK228.out 1).trans rfl
            have hfz36_0 := blk_frozen BK228.out 0
            have hfz36_1 := blk_frozen BK228.out 1
            have hcz37_0 : wc.cell? ⟨gb230, 0, none⟩ = some (.int .i32 0) := (blk_cell BK230.out 0).trans rfl
            have hcz37_1 : wc.cell? ⟨gb230, 1, none⟩ = some (.int .i32 0) := (blk_cell BK230.out 1).trans rfl
            have hfz37_0 := blk_frozen BK230.out 0
            have hfz37_1 := blk_frozen BK230.out 1
            go_wp2
            refine bodyPost_ret (results_cell_row rfl _ _ gb230 38 #[.int .i32 (-2147483648), .int .i32 2147483647] (0, 0) _ rfl (by (with_reducible repeat (first | refine blk_drewN ?_ _ | refine blk_drew ?_ | refine blk_alloc ?_ _)); refine blk_put (cs := #[.int .i32 (-2147483648), .int .i32 0]) ?_ 1 _ rfl; (with_reducible repeat (first | refine blk_drewN ?_ _ | refine blk_drew ?_ | refine blk_alloc ?_ _)); refine blk_put (cs := #[.int .i32 0, .int .i32 0]) ?_ 0 _ rfl; (with_reducible repeat (first | refine blk_drewN ?_ _ | refine blk_drew ?_ | refine blk_alloc ?_ _)); refine blk_far ?_ NB230_228.out _; (with_reducible repeat (first | refine blk_drewN ?_ _ | refine blk_drew ?_ | refine blk_alloc ?_ _)); refine blk_far ?_ NB230_228.out _; (with_reducible repeat (first | refine blk_drewN ?_ _ | refine blk_drew ?_ | refine blk_alloc ?_ _)); exact BK230.out) Try.underlying38 rfl (by kernel_rfl)) rfl ?_
            exact ⟨by first | rfl | (simp [errW_none, errW_some] <;> rfl) | (simp [*, errW_none, errW_some] <;> rfl), by repeat (first | (with_reducible first | exact HB.out | apply below_alloc | apply pw_below_drewN | apply below_drew1 | refine below_set ?_ GE228.out | refine below_set ?_ GE229.out | refine below_set ?_ GE230.out) | exact HB.out)⟩
          · rw [if_neg c31] at H
            have c31b0 : decide (a0_1 < a1_1) = false := decide_eq_false c31
            clear c31
            simp only [Option.some.injEq, Prod.mk.injEq] at H
            obtain ⟨rfl, rfl⟩ := H
            have hnb38 := NB229_228.out
            have hnc38 := NB228_229.out
            have hnb39 := NB229_230.out
            have hnc39 := NB230_229.out
            have hcz40_0 : wc.cell? ⟨gb229, 0, none⟩ = some (.int .i32 a1_0) := (blk_cell BK229.out 0).trans rfl
            have hcz40_1 : wc.cell? ⟨gb229, 1, none⟩ = some (.int .i32 a1_1) := (blk_cell BK229.out 1).trans rfl
            have hfz40_0 := blk_frozen BK229.out 0
            have hfz40_1 := blk_frozen BK229.out 1
            have hnb41 := NB228_230.out
            have hnc41 := NB230_228.out
            have hcz42_0 : wc.cell? ⟨gb228, 0, none⟩ = some (.int .i32 a0_0) := (blk_cell BK228.out 0).trans rfl
            have hcz42_1 : wc.cell? ⟨gb228, 1, none⟩ = some (.int .i32 a0_1) := (blk_cell BK228.out 1).trans rfl
            have hfz42_0 := blk_frozen BK228.out 0
            have hfz42_1 := blk_frozen BK228.out 1
            have hcz43_0 : wc.cell? ⟨gb230, 0, none⟩ = some (.int .i32 0) := (blk_cell BK230.out 0).trans rfl
            have hcz43_1 : wc.cell? ⟨gb230, 1, none⟩ = some (.int .i32 0) := (blk_cell BK230.out 1).trans rfl
            have hfz43_0 := blk_frozen BK230.out 0
            have hfz43_1 := blk_frozen BK230.out 1
            go_wp2
            refine bodyPost_ret (results_cell_row rfl _ _ gb230 38 #[.int .i32 (-2147483648), .int .i32 a0_1] (0, 0) _ rfl (by (with_reducible repeat (first | refine blk_drewN ?_ _ | refine blk_drew ?_ | refine blk_alloc ?_ _)); refine blk_put (cs := #[.int .i32 (-2147483648), .int .i32 0]) ?_ 1 _ rfl; (with_reducible repeat (first | refine blk_drewN ?_ _ | refine blk_drew ?_ | refine blk_alloc ?_ _)); refine blk_put (cs := #[.int .i32 0, .int .i32 0]) ?_ 0 _ rfl; (with_reducible repeat (first | refine blk_drewN ?_ _ | refine blk_drew ?_ | refine blk_alloc ?_ _)); refine blk_far ?_ NB230_228.out _; (with_reducible repeat (first | refine blk_drewN ?_ _ | refine blk_drew ?_ | refine blk_alloc ?_ _)); exact BK230.out) Try.underlying38 rfl (by kernel_rfl)) rfl ?_
            exact ⟨by first | rfl | (simp [errW_none, errW_some] <;> rfl) | (simp [*, errW_none, errW_some] <;> rfl), by repeat (first | (with_reducible first | exact HB.out | apply below_alloc | apply pw_below_drewN | apply below_drew1 | refine below_set ?_ GE228.out | refine below_set ?_ GE229.out | refine below_set ?_ GE230.out) | exact HB.out)⟩
        · rw [if_neg c30] at H
          have c30b0 : decide (a1_0 < a0_0) = false := decide_eq_false c30
          clear c30
          by_cases c44 : a1_1 > a0_1
          · rw [if_pos c44] at H
            have c44b0 : decide (a0_1 < a1_1) = true := decide_eq_true c44
            clear c44
            simp only [Option.some.injEq, Prod.mk.injEq] at H
            obtain ⟨rfl, rfl⟩ := H
            have hnb45 := NB229_228.out
            have hnc45 := NB228_229.out
            have hnb46 := NB229_230.out
            have hnc46 := NB230_229.out
            have hcz47_0 : wc.cell? ⟨gb229, 0, none⟩ = some (.int .i32 a1_0) := (blk_cell BK229.out 0).trans rfl
            have hcz47_1 : wc.cell? ⟨gb229, 1, none⟩ = some (.int .i32 a1_1) := (blk_cell BK229.out 1).trans rfl
            have hfz47_0 := blk_frozen BK229.out 0
            have hfz47_1 := blk_frozen BK229.out 1
            have hnb48 := NB228_230.out
            have hnc48 := NB230_228.out
            have hcz49_0 : wc.cell? ⟨gb228, 0, none⟩ = some (.int .i32 a0_0) := (blk_cell BK228.out 0).trans rfl
            have hcz49_1 : wc.cell? ⟨gb228, 1, none⟩ = some (.int .i32 a0_1) := (blk_cell BK228.out 1).trans rfl
            have hfz49_0 := blk_frozen BK228.out 0
            have hfz49_1 := blk_frozen BK228.out 1
            have hcz50_0 : wc.cell? ⟨gb230, 0, none⟩ = some (.int .i32 0) := (blk_cell BK230.out 0).trans rfl
            have hcz50_1 : wc.cell? ⟨gb230, 1, none⟩ = some (.int .i32 0) := (blk_cell BK230.out 1).trans rfl
            have hfz50_0 := blk_frozen BK230.out 0
            have hfz50_1 := blk_frozen BK230.out 1
            go_wp2
            refine bodyPost_ret (results_cell_row rfl _ _ gb230 38 #[.int .i32 a0_0, .int .i32 2147483647] (0, 0) _ rfl (by (with_reducible repeat (first | refine blk_drewN ?_ _ | refine blk_drew ?_ | refine blk_alloc ?_ _)); refine blk_put (cs := #[.int .i32 a0_0, .int .i32 0]) ?_ 1 _ rfl; (with_reducible repeat (first | refine blk_drewN ?_ _ | refine blk_drew ?_ | refine blk_alloc ?_ _)); refine blk_put (cs := #[.int .i32 0, .int .i32 0]) ?_ 0 _ rfl; (with_reducible repeat (first | refine blk_drewN ?_ _ | refine blk_drew ?_ | refine blk_alloc ?_ _)); refine blk_far ?_ NB230_228.out _; (with_reducible repeat (first | refine blk_drewN ?_ _ | refine blk_drew ?_ | refine blk_alloc ?_ _)); exact BK230.out) Try.underlying38 rfl (by kernel_rfl)) rfl ?_
            exact ⟨by first | rfl | (simp [errW_none, errW_some] <;> rfl) | (simp [*, errW_none, errW_some] <;> rfl), by repeat (first | (with_reducible first | exact HB.out | apply below_alloc | apply pw_below_drewN | apply below_drew1 | refine below_set ?_ GE228.out | refine below_set ?_ GE229.out | refine below_set ?_ GE230.out) | exact HB.out)⟩
          · rw [if_neg c44] at H
            have c44b0 : decide (a0_1 < a1_1) = false := decide_eq_false c44
            clear c44
            simp only [Option.some.injEq, Prod.mk.injEq] at H
            obtain ⟨rfl, rfl⟩ := H
            have hnb51 := NB229_228.out
            have hnc51 := NB228_229.out
            have hnb52 := NB229_230.out
            have hnc52 := NB230_229.out
            have hcz53_0 : wc.cell? ⟨gb229, 0, none⟩ = some (.int .i32 a1_0) := (blk_cell BK229.out 0).trans rfl
            have hcz53_1 : wc.cell? ⟨gb229, 1, none⟩ = some (.int .i32 a1_1) := (blk_cell BK229.out 1).trans rfl
            have hfz53_0 := blk_frozen BK229.out 0
            have hfz53_1 := blk_frozen BK229.out 1
            have hnb54 := NB228_230.out
            have hnc54 := NB230_228.out
            have hcz55_0 : wc.cell? ⟨gb228, 0, none⟩ = some (.int .i32 a0_0) := (blk_cell BK228.out 0).trans rfl
            have hcz55_1 : wc.cell? ⟨gb228, 1, none⟩ = some (.int .i32 a0_1) := (blk_cell BK228.out 1).trans rfl
            have hfz55_0 := blk_frozen BK228.out 0
            have hfz55_1 := blk_frozen BK228.out 1
            have hcz56_0 : wc.cell? ⟨gb230, 0, none⟩ = some (.int .i32 0) := (blk_cell BK230.out 0).trans rfl
            have hcz56_1 : wc.cell? ⟨gb230, 1, none⟩ = some (.int .i32 0) := (blk_cell BK230.out 1).trans rfl
            have hfz56_0 := blk_frozen BK230.out 0
            have hfz56_1 := blk_frozen BK230.out 1
            go_wp2
            refine bodyPost_ret (results_cell_row rfl _ _ gb230 38 #[.int .i32 a0_0, .int .i32 a0_1] (0, 0) _ rfl (by (with_reducible repeat (first | refine blk_drewN ?_ _ | refine blk_drew ?_ | refine blk_alloc ?_ _)); refine blk_put (cs := #[.int .i32 a0_0, .int .i32 0]) ?_ 1 _ rfl; (with_reducible repeat (first | refine blk_drewN ?_ _ | refine blk_drew ?_ | refine blk_alloc ?_ _)); refine blk_put (cs := #[.int .i32 0, .int .i32 0]) ?_ 0 _ rfl; (with_reducible repeat (first | refine blk_drewN ?_ _ | refine blk_drew ?_ | refine blk_alloc ?_ _)); exact BK230.out) Try.underlying38 rfl (by kernel_rfl)) rfl ?_
            exact ⟨by first | rfl | (simp [errW_none, errW_some] <;> rfl) | (simp [*, errW_none, errW_some] <;> rfl), by repeat (first | (with_reducible first | exact HB.out | apply below_alloc | apply pw_below_drewN | apply below_drew1 | refine below_set ?_ GE228.out | refine below_set ?_ GE229.out | refine below_set ?_ GE230.out) | exact HB.out)⟩
theorem widen_c (a b c d r s : Int) (h : widenv a b c d = (r, s)) (w : World) : Calls Try.prog 35 #[.agg #[.int .i32 a, .int .i32 b], .agg #[.int .i32 c, .int .i32 d]] w fun e w' => e = .returned (.agg #[.int .i32 r, .int .i32 s]) ∧ Below w.heap.size w w' :=
  interval_Widen.calls 2 a b c d r s w (by
    rw [← h]; simp only [interval_Widen.f, interval_Widen.j0, join_f 0, interval_I_IsEmpty.f, widenv]
    by_cases h1 : b < a <;> by_cases h2 : d < c <;> by_cases h3 : c < a <;> by_cases h4 : b < d <;> simp [h1, h2, h3, h4])

end Go.Proofs.Ytoalomjmmlnclaa.Ivl
