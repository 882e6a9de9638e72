/- The contract of the interval laws' clamp. -/
import Derived.Test.YtoalomjmmlnclaaIvlA
namespace Go.Proofs.Ytoalomjmmlnclaa.Ivl
open Go.RowKit Go.Proofs.Ytoalomjmmlnclaa.PIntervalApply Go.Proofs.YtoalomjmmlnclaaW.PrintWords Go.Proofs.YtoalomjmmlnclaaW.PrintLast Go.Proofs.YtoalomjmmlnclaaW.PrintMore
open Go.Proofs.Ytoalomjmmlnclaa.M
attribute [local go_sem] max2_int min2_int max_two min_two max_three min_three max_four min_four
set_option linter.unusedVariables false
set_option linter.unusedSimpArgs false

/-! ### ontimelaw27_clamp: function 41 -/
def ontimelaw27_clamp.f (a0_0 : Int) (a0_1 : Int) (a1 : Int) : Option (Int) := some (mn (mx a1 a0_0) a0_1)
set_option maxHeartbeats 8000000 in
set_option maxRecDepth 100000 in
theorem ontimelaw27_clamp.calls (a0_0 : Int) (a0_1 : Int) (a1 : Int) (r : Int) (w : World) (h : ontimelaw27_clamp.f a0_0 a0_1 a1 = some r) :
    Calls Try.prog 41 #[.agg #[.int .i32 a0_0, .int .i32 a0_1], .int .i32 a1] w fun e w' => e = .returned (.int .i32 r) ∧ Below w.heap.size w w' := by
  have hu38 := Try.underlying38
  have HB := Aside0.mk (Below.refl w.heap.size w)
  have H : (some (mn (mx a1 a0_0) a0_1)) = some r := h
  clear h
  obtain ⟨ji3, hji3⟩ : ∃ j_ : Int, (mx a1 a0_0) = j_ := ⟨_, rfl⟩
  replace H : (some (mn (ji3) a0_1)) = some r := by first | (rw [hji3] at H; exact H) | (simp only [hji3] at H ⊢; exact H)
  have hji3_ : (if a1 < a0_0 then a0_0 else a1) = ji3 := hji3
  obtain ⟨ji4, hji4⟩ : ∃ j_ : Int, (mn (ji3) a0_1) = j_ := ⟨_, rfl⟩
  replace H : (some ji4) = some r := by first | (rw [hji4] at H; exact H) | (simp only [hji4] at H ⊢; exact H)
  have hji4_ : (if a0_1 < (ji3) then a0_1 else (ji3)) = ji4 := hji4
  obtain rfl := Option.some.inj H
  go_enter Try.func41, Try.ntmps41
  go_wp2_with (first | ((with_reducible refine gate_dst (N := 2) rfl ?_); refine box_event ?hg (N := 2) ?hd (cs := #[.int .i32 a0_0, .int .i32 a0_1]) (t := 38) ?hr ?_; (case hd => rfl); (case hg => rfl); (case hr => first | (go_simp; done) | (go_simp; rfl)); intro gb224 hg w5 hbox hb; have n0_ := Aside0.mk (below_step (by repeat (first | (with_reducible first | exact HB.out | apply below_alloc | apply pw_below_drewN | apply below_drew1) | exact HB.out)) hb); have n1_ := Aside0.mk (hbox); have n2_ := Aside0.mk ((by rw [hg]; exact (below_size (by repeat (first | (with_reducible first | exact HB.out | apply below_alloc | apply pw_below_drewN | apply below_drew1) | exact HB.out))) : w.heap.size ≤ gb224)); have n3_ := Aside0.mk ((by rw [hg]; exact (below_size (by repeat (first | (with_reducible first | exact HB.out | apply below_alloc | apply pw_below_drewN | apply below_drew1) | exact HB.out))) : w.heap.size ≤ gb224)); clear HB; have HB := n0_; have BK224 := n1_; have GW224 := n2_; have GE224 := n3_; clear n0_ n1_ n2_ n3_; clear hb hbox hg; have hcz6_0 : w5.cell? ⟨gb224, 0, none⟩ = some (.int .i32 a0_0) := (blk_cell BK224.out 0).trans rfl; have hcz6_1 : w5.cell? ⟨gb224, 1, none⟩ = some (.int .i32 a0_1) := (blk_cell BK224.out 1).trans rfl; have hfz6_0 := blk_frozen BK224.out 0; have hfz6_1 := blk_frozen BK224.out 1))
  go_ret
  exact ⟨by first | rfl | (simp [errW_none, errW_some] <;> rfl) | (simp only [← hji3, ← hji4]; first | rfl | (simp [errW_none, errW_some] <;> rfl)) | (simp [*, errW_none, errW_some] <;> rfl), by repeat (first | (with_reducible first | exact HB.out | apply below_alloc | apply pw_below_drewN | apply below_drew1 | refine below_set ?_ GE224.out) | exact HB.out)⟩
theorem clamp_c (a b n r : Int) (h : clampv a b n = r) (w : World) : Calls Try.prog 41 #[.agg #[.int .i32 a, .int .i32 b], .int .i32 n] w fun e w' => e = .returned (.int .i32 r) ∧ Below w.heap.size w w' :=
  ontimelaw27_clamp.calls a b n r w (by rw [← h]; unfold ontimelaw27_clamp.f clampv; rw [mn_min, mx_max])

end Go.Proofs.Ytoalomjmmlnclaa.Ivl
