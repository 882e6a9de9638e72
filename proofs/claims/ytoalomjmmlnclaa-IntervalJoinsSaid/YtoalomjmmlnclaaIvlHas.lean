/- The contract of the interval laws' has: it tells membership. -/
import Derived.Test.YtoalomjmmlnclaaIvlA
namespace Go.Proofs.Ytoalomjmmlnclaa.Ivl
open Go.RowKit Go.Proofs.Ytoalomjmmlnclaa.PIntervalApply Go.Proofs.YtoalomjmmlnclaaW.PrintWords Go.Proofs.YtoalomjmmlnclaaW.PrintLast Go.Proofs.YtoalomjmmlnclaaW.PrintMore
open Go.Proofs.Ytoalomjmmlnclaa.M
attribute [local go_sem] max2_int min2_int max_two min_two max_three min_three max_four min_four
set_option linter.unusedVariables false
set_option linter.unusedSimpArgs false

/-! ### ontimelaw27_has: function 31 -/
def ontimelaw27_has.f (a0_0 : Int) (a0_1 : Int) (a1 : Int) : Option (Bool) := if a1 ≥ a0_0 then (some (decide (a1 ≤ a0_1))) else (some false)
set_option maxHeartbeats 8000000 in
set_option maxRecDepth 100000 in
theorem ontimelaw27_has.calls (a0_0 : Int) (a0_1 : Int) (a1 : Int) (r : Bool) (w : World) (h : ontimelaw27_has.f a0_0 a0_1 a1 = some r) :
    Calls Try.prog 31 #[.agg #[.int .i32 a0_0, .int .i32 a0_1], .int .i32 a1] w fun e w' => e = .returned (.bool r) ∧ Below w.heap.size w w' := by
  have hu38 := Try.underlying38
  have HB := Aside0.mk (Below.refl w.heap.size w)
  have H : (if a1 ≥ a0_0 then (some (decide (a1 ≤ a0_1))) else (some false)) = some r := h
  clear h
  by_cases c3 : a1 ≥ a0_0
  · rw [if_pos c3] at H
    have c3b0 : decide (a0_0 ≤ a1) = true := decide_eq_true c3
    clear c3
    obtain rfl := Option.some.inj H
    go_enter Try.func31, Try.ntmps31
    go_wp2_with (first | ((with_reducible refine gate_dst (N := 2) rfl ?_); refine box_event ?hg (N := 2) ?hd (cs := #[.int .i32 a0_0, .int .i32 a0_1]) (t := 38) ?hr ?_; (case hd => rfl); (case hg => rfl); (case hr => first | (go_simp; done) | (go_simp; rfl)); intro gb228 hg w4 hbox hb; have n0_ := Aside0.mk (below_step (by repeat (first | (with_reducible first | exact HB.out | apply below_alloc | apply pw_below_drewN | apply below_drew1) | exact HB.out)) hb); have n1_ := Aside0.mk (hbox); have n2_ := Aside0.mk ((by rw [hg]; exact (below_size (by repeat (first | (with_reducible first | exact HB.out | apply below_alloc | apply pw_below_drewN | apply below_drew1) | exact HB.out))) : w.heap.size ≤ gb228)); have n3_ := Aside0.mk ((by rw [hg]; exact (below_size (by repeat (first | (with_reducible first | exact HB.out | apply below_alloc | apply pw_below_drewN | apply below_drew1) | exact HB.out))) : w.heap.size ≤ gb228)); clear HB; have HB := n0_; have BK228 := n1_; have GW228 := n2_; have GE228 := n3_; clear n0_ n1_ n2_ n3_; clear hb hbox hg; have hcz5_0 : w4.cell? ⟨gb228, 0, none⟩ = some (.int .i32 a0_0) := (blk_cell BK228.out 0).trans rfl; have hcz5_1 : w4.cell? ⟨gb228, 1, none⟩ = some (.int .i32 a0_1) := (blk_cell BK228.out 1).trans rfl; have hfz5_0 := blk_frozen BK228.out 0; have hfz5_1 := blk_frozen BK228.out 1))
    go_ret
    exact ⟨by first | rfl | (simp [errW_none, errW_some] <;> rfl) | (simp [*, errW_none, errW_some] <;> rfl), by repeat (first | (with_reducible first | exact HB.out | apply below_alloc | apply pw_below_drewN | apply below_drew1 | refine below_set ?_ GE228.out) | exact HB.out)⟩
  · rw [if_neg c3] at H
    have c3b0 : decide (a0_0 ≤ a1) = false := decide_eq_false c3
    clear c3
    obtain rfl := Option.some.inj H
    go_enter Try.func31, Try.ntmps31
    go_wp2_with (first | ((with_reducible refine gate_dst (N := 2) rfl ?_); refine box_event ?hg (N := 2) ?hd (cs := #[.int .i32 a0_0, .int .i32 a0_1]) (t := 38) ?hr ?_; (case hd => rfl); (case hg => rfl); (case hr => first | (go_simp; done) | (go_simp; rfl)); intro gb228 hg w6 hbox hb; have n0_ := Aside0.mk (below_step (by repeat (first | (with_reducible first | exact HB.out | apply below_alloc | apply pw_below_drewN | apply below_drew1) | exact HB.out)) hb); have n1_ := Aside0.mk (hbox); have n2_ := Aside0.mk ((by rw [hg]; exact (below_size (by repeat (first | (with_reducible first | exact HB.out | apply below_alloc | apply pw_below_drewN | apply below_drew1) | exact HB.out))) : w.heap.size ≤ gb228)); have n3_ := Aside0.mk ((by rw [hg]; exact (below_size (by repeat (first | (with_reducible first | exact HB.out | apply below_alloc | apply pw_below_drewN | apply below_drew1) | exact HB.out))) : w.heap.size ≤ gb228)); clear HB; have HB := n0_; have BK228 := n1_; have GW228 := n2_; have GE228 := n3_; clear n0_ n1_ n2_ n3_; clear hb hbox hg; have hcz7_0 : w6.cell? ⟨gb228, 0, none⟩ = some (.int .i32 a0_0) := (blk_cell BK228.out 0).trans rfl; have hcz7_1 : w6.cell? ⟨gb228, 1, none⟩ = some (.int .i32 a0_1) := (blk_cell BK228.out 1).trans rfl; have hfz7_0 := blk_frozen BK228.out 0; have hfz7_1 := blk_frozen BK228.out 1))
    go_ret
    exact ⟨by first | rfl | (simp [errW_none, errW_some] <;> rfl) | (simp [*, errW_none, errW_some] <;> rfl), by repeat (first | (with_reducible first | exact HB.out | apply below_alloc | apply pw_below_drewN | apply below_drew1 | refine below_set ?_ GE228.out) | exact HB.out)⟩
theorem has_c (lo hi n : Int) (r : Bool) (h : hasv lo hi n = r) (w : World) : Calls Try.prog 31 #[.agg #[.int .i32 lo, .int .i32 hi], .int .i32 n] w fun e w' => e = .returned (.bool r) ∧ Below w.heap.size w w' :=
  ontimelaw27_has.calls lo hi n r w (by
    unfold ontimelaw27_has.f; rw [← h]; unfold hasv
    by_cases c : lo ≤ n
    · rw [if_pos c]; congr 1; exact decide_eq_decide.2 (by omega)
    · rw [if_neg c]; congr 1; rw [decide_eq_false (by omega)])

end Go.Proofs.Ytoalomjmmlnclaa.Ivl
