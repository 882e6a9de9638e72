/- Out of the kit's print for this claim: plain functions and their calls. -/
import Derived.Test.YtoalomjmmlnclaaQ0
namespace Go.Proofs.Ytoalomjmmlnclaa.PIntervalApply
open Go.RowKit Go.Proofs.YtoalomjmmlnclaaW.PrintWords Go.Proofs.YtoalomjmmlnclaaW.PrintLast
attribute [local go_sem] max2_int min2_int max_two min_two max_three min_three max_four min_four   -- for this text's walks alone
set_option linter.unusedVariables false
set_option linter.unusedSimpArgs false

theorem eqA38 (d : Nat) (w : World) (x0 y0 : Int) (x1 y1 : Int) :
    (Op.equalIn (d + 2) 38 (.agg #[.int .i32 x0, .int .i32 x1]) (.agg #[.int .i32 y0, .int .i32 y1])).run Try.prog w = .ok (x0 == y0 && (x1 == y1)) w := by
  refine eqA_of Try.underlying38 (by kernel_rfl) ?_
  refine eqf_cons (by rfl) (by go_simp; rfl) (by go_simp; rfl) (by go_simp) ?_
  exact eqf_last (by rfl) (by go_simp; rfl) (by go_simp; rfl) (by go_simp)
end Go.Proofs.Ytoalomjmmlnclaa.PIntervalApply
