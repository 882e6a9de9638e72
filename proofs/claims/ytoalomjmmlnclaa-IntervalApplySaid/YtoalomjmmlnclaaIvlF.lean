/- The contract of the interval laws' awake: the chapter's examples hold, so the call answers true; memory that existed is left as it was. -/
import Derived.Test.YtoalomjmmlnclaaIvlE
import Derived.Test.YtoalomjmmlnclaaQ1
namespace Go.Proofs.Ytoalomjmmlnclaa.Ivl
open Go.RowKit Go.Proofs.Ytoalomjmmlnclaa.PIntervalApply Go.Proofs.YtoalomjmmlnclaaW.PrintWords Go.Proofs.YtoalomjmmlnclaaW.PrintLast
open Go.Proofs.Ytoalomjmmlnclaa.M
attribute [local go_sem] max2_int min2_int max_two min_two max_three min_three max_four min_four
attribute [local go_sem high] eqA38
set_option linter.unusedVariables false
set_option linter.unusedSimpArgs false

set_option maxHeartbeats 2000000 in
set_option maxRecDepth 100000 in
theorem i_c (a b : Int) (w : World) : Calls Try.prog 52 #[.int .i32 a, .int .i32 b] w fun e w' => e = .returned (.agg #[.int .i32 a, .int .i32 b]) ∧ Below w.heap.size w w' := by
  have hu38 := Try.underlying38
  have HB := Aside0.mk (Below.refl w.heap.size w)
  go_enter Try.func52, Try.ntmps52
  go_wp2
  refine bodyPost_ret (v := .agg #[.int .i32 a, .int .i32 b]) (by simp [results, Try.results52, go_sem]) rfl ⟨rfl, ?_⟩
  repeat (first | exact HB.out | apply below_alloc)
set_option maxHeartbeats 4000000 in
set_option maxRecDepth 100000 in
theorem awake_c (w : World) : Calls Try.prog 28 #[] w fun e w' => e = .returned (.bool true) ∧ Below w.heap.size w w' := by
  have hu38 := Try.underlying38
  have HB := Aside0.mk (Below.refl w.heap.size w)
  go_enter Try.func28, Try.ntmps28
  go_wp2_with fail
  (with_reducible refine (i_c 1 2 _).mono ?_); rintro e w' ⟨rfl, hb⟩
  have HN := Aside0.mk (below_step (by repeat (first | (with_reducible first | exact HB.out | apply below_alloc | apply pw_below_drewN | apply below_drew1) | exact HB.out)) hb)
  clear HB
  have HB := HN
  clear HN  hb
  go_wp2_with fail
  (with_reducible refine (i_c 10 20 _).mono ?_); rintro e w' ⟨rfl, hb⟩
  have HN := Aside0.mk (below_step (by repeat (first | (with_reducible first | exact HB.out | apply below_alloc | apply pw_below_drewN | apply below_drew1) | exact HB.out)) hb)
  clear HB
  have HB := HN
  clear HN  hb
  go_wp2_with fail
  (with_reducible refine (apply_c 6 1 2 10 20 11 22 (by unfold I32; omega) (by unfold I32; omega) (by unfold I32; omega) (by unfold I32; omega) (by decide +kernel) _).mono ?_); rintro e w' ⟨rfl, hb⟩
  have HN := Aside0.mk (below_step (by repeat (first | (with_reducible first | exact HB.out | apply below_alloc | apply pw_below_drewN | apply below_drew1) | exact HB.out)) hb)
  clear HB
  have HB := HN
  clear HN  hb
  go_wp2_with fail
  (with_reducible refine (i_c 11 22 _).mono ?_); rintro e w' ⟨rfl, hb⟩
  have HN := Aside0.mk (below_step (by repeat (first | (with_reducible first | exact HB.out | apply below_alloc | apply pw_below_drewN | apply below_drew1) | exact HB.out)) hb)
  clear HB
  have HB := HN
  clear HN  hb
  go_wp2_with fail
  (with_reducible refine (i_c (-2) 3 _).mono ?_); rintro e w' ⟨rfl, hb⟩
  have HN := Aside0.mk (below_step (by repeat (first | (with_reducible first | exact HB.out | apply below_alloc | apply pw_below_drewN | apply below_drew1) | exact HB.out)) hb)
  clear HB
  have HB := HN
  clear HN  hb
  go_wp2_with fail
  (with_reducible refine (i_c 4 5 _).mono ?_); rintro e w' ⟨rfl, hb⟩
  have HN := Aside0.mk (below_step (by repeat (first | (with_reducible first | exact HB.out | apply below_alloc | apply pw_below_drewN | apply below_drew1) | exact HB.out)) hb)
  clear HB
  have HB := HN
  clear HN  hb
  go_wp2_with fail
  (with_reducible refine (apply_c 8 (-2) 3 4 5 (-10) 15 (by unfold I32; omega) (by unfold I32; omega) (by unfold I32; omega) (by unfold I32; omega) (by decide +kernel) _).mono ?_); rintro e w' ⟨rfl, hb⟩
  have HN := Aside0.mk (below_step (by repeat (first | (with_reducible first | exact HB.out | apply below_alloc | apply pw_below_drewN | apply below_drew1) | exact HB.out)) hb)
  clear HB
  have HB := HN
  clear HN  hb
  go_wp2_with fail
  (with_reducible refine (i_c (-10) 15 _).mono ?_); rintro e w' ⟨rfl, hb⟩
  have HN := Aside0.mk (below_step (by repeat (first | (with_reducible first | exact HB.out | apply below_alloc | apply pw_below_drewN | apply below_drew1) | exact HB.out)) hb)
  clear HB
  have HB := HN
  clear HN  hb
  go_wp2_with fail
  (with_reducible refine (i_c 0 1 _).mono ?_); rintro e w' ⟨rfl, hb⟩
  have HN := Aside0.mk (below_step (by repeat (first | (with_reducible first | exact HB.out | apply below_alloc | apply pw_below_drewN | apply below_drew1) | exact HB.out)) hb)
  clear HB
  have HB := HN
  clear HN  hb
  go_wp2_with fail
  (with_reducible refine (of_c 2147483647 _).mono ?_); rintro e w' ⟨rfl, hb⟩
  have HN := Aside0.mk (below_step (by repeat (first | (with_reducible first | exact HB.out | apply below_alloc | apply pw_below_drewN | apply below_drew1) | exact HB.out)) hb)
  clear HB
  have HB := HN
  clear HN  hb
  go_wp2_with fail
  (with_reducible refine (apply_c 6 0 1 2147483647 2147483647 (-2147483648) 2147483647 (by unfold I32; omega) (by unfold I32; omega) (by unfold I32; omega) (by unfold I32; omega) (by decide +kernel) _).mono ?_); rintro e w' ⟨rfl, hb⟩
  have HN := Aside0.mk (below_step (by repeat (first | (with_reducible first | exact HB.out | apply below_alloc | apply pw_below_drewN | apply below_drew1) | exact HB.out)) hb)
  clear HB
  have HB := HN
  clear HN  hb
  go_wp2_with fail
  (with_reducible refine (full_c _).mono ?_); rintro e w' ⟨rfl, hb⟩
  have HN := Aside0.mk (below_step (by repeat (first | (with_reducible first | exact HB.out | apply below_alloc | apply pw_below_drewN | apply below_drew1) | exact HB.out)) hb)
  clear HB
  have HB := HN
  clear HN  hb
  go_wp2_with fail
  (with_reducible refine (i_c (-9) 40 _).mono ?_); rintro e w' ⟨rfl, hb⟩
  have HN := Aside0.mk (below_step (by repeat (first | (with_reducible first | exact HB.out | apply below_alloc | apply pw_below_drewN | apply below_drew1) | exact HB.out)) hb)
  clear HB
  have HB := HN
  clear HN  hb
  go_wp2_with fail
  (with_reducible refine (i_c 3 8 _).mono ?_); rintro e w' ⟨rfl, hb⟩
  have HN := Aside0.mk (below_step (by repeat (first | (with_reducible first | exact HB.out | apply below_alloc | apply pw_below_drewN | apply below_drew1) | exact HB.out)) hb)
  clear HB
  have HB := HN
  clear HN  hb
  go_wp2_with fail
  (with_reducible refine (apply_c 10 (-9) 40 3 8 (-7) 7 (by unfold I32; omega) (by unfold I32; omega) (by unfold I32; omega) (by unfold I32; omega) (by decide +kernel) _).mono ?_); rintro e w' ⟨rfl, hb⟩
  have HN := Aside0.mk (below_step (by repeat (first | (with_reducible first | exact HB.out | apply below_alloc | apply pw_below_drewN | apply below_drew1) | exact HB.out)) hb)
  clear HB
  have HB := HN
  clear HN  hb
  go_wp2_with fail
  (with_reducible refine (i_c (-7) 7 _).mono ?_); rintro e w' ⟨rfl, hb⟩
  have HN := Aside0.mk (below_step (by repeat (first | (with_reducible first | exact HB.out | apply below_alloc | apply pw_below_drewN | apply below_drew1) | exact HB.out)) hb)
  clear HB
  have HB := HN
  clear HN  hb
  go_wp2_with fail
  (with_reducible refine (empty_c _).mono ?_); rintro e w' ⟨rfl, hb⟩
  have HN := Aside0.mk (below_step (by repeat (first | (with_reducible first | exact HB.out | apply below_alloc | apply pw_below_drewN | apply below_drew1) | exact HB.out)) hb)
  clear HB
  have HB := HN
  clear HN  hb
  go_wp2_with fail
  (with_reducible refine (isE_t 1 0 (by decide) _).mono ?_); rintro e w' ⟨rfl, hb⟩
  have HN := Aside0.mk (below_step (by repeat (first | (with_reducible first | exact HB.out | apply below_alloc | apply pw_below_drewN | apply below_drew1) | exact HB.out)) hb)
  clear HB
  have HB := HN
  clear HN  hb
  go_wp2_with fail
  go_ret
  exact ⟨by first | rfl | (simp; done) | (simp [*]; done), HB.out⟩

end Go.Proofs.Ytoalomjmmlnclaa.Ivl
