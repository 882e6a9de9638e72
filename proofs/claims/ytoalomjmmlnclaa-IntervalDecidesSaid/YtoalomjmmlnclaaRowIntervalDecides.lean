/- 'IntervalDecides', the row: for every two intervals the call returns true, and the arguments read as before. No condition. -/
import Derived.Test.YtoalomjmmlnclaaRows
import Derived.Test.YtoalomjmmlnclaaPair
import Derived.Test.YtoalomjmmlnclaaDecidesWalk
import Derived.WalkKit
import Derived.ProofKit
import Derived.OpenShut
import Derived.ShutString
import Derived.ChangeOld
import Derived.Below
import Derived.SizedLaws
namespace Go.Proofs.Ytoalomjmmlnclaa.intervalDecides
open Go.ChangeShapes Go.WideShapes Go.ChangeAt Go.RowKit
set_option linter.unusedVariables false
theorem own : ownKnob Try.prog.godebug = none := by kernel_rfl
set_option maxRecDepth 100000 in
theorem lifted (os : Os) (started : os.Started) (H : Type) (enc : TypeId × Value → H) :
    ReturnsInHanded {} Try.checked os 16 .any (Rows.intervalDecidesSpec.pre6 enc Try.prog Try.f16 Rows.intervalDecidesRow.domain false) (Rows.intervalDecidesSpec.post enc Try.prog Try.f16 false true false false) := by
  refine returnsInHanded_of_change_sized (C := Try.checked) own started (by kernel_rfl) Try.func16
    (ChangeSpec.witness6 (enc := enc) (C := Try.checked) false ⟨#[], #[.agg #[.int .i32 0, .int .i32 0], .agg #[.int .i32 0, .int .i32 0]], []⟩ 8 (by kernel_rfl) (by kernel_rfl) (by kernel_rfl) (by kernel_rfl)) ?_
  intro W base args ds gs before hval0 hW hcnd hsz0 _
  have hval : ∀ (j : Nat) t v, Try.f16.params[j]? = some t → args[j]? = some v → Value.okWide Try.prog W .any base t v := hval0
  have hW' := hW
  obtain ⟨p, q, hA0, hV, rfl, hfz, hnd⟩ := hW
  have hA : DataW.TrodAll enc Try.prog W 0 (fun _ => true) true Try.f16.params.toList args.toList ds p := hA0
  rw [Try.params16] at hA hval
  obtain ⟨v0, vs0, d0, ds0, p0, q0, hargs, rfl, rfl, h0, r0⟩ := trodAll_cons hA
  obtain ⟨v1, vs1, d1, ds1, p1, q1, rfl, rfl, rfl, h1, r1⟩ := trodAll_cons r0
  obtain ⟨rfl, rfl, rfl⟩ := trodAll_nil r1
  obtain rfl : args = #[v0, v1] := by cases args; simp_all
  obtain ⟨rfl, rfl⟩ := trodVars_none hV
  obtain ⟨a0, b0, rfl, rfl, rfl, w0a, w0b⟩ := open_pair (hval 0 38 v0 rfl rfl) h0
  obtain ⟨a1, b1, rfl, rfl, rfl, w1a, w1b⟩ := open_pair (hval 1 38 v1 rfl rfl) h1
  clear hA0 hval0 hsz0
  refine (Decides.walk a0 b0 a1 b1 W w0a w0b w1a w1b).mono fun e W' ⟨he, bel⟩ => ?_
  subst he
  exact ⟨_, rfl, _, _, _, [], _, [], hW', trodAll_mk1 (shut_bool Try.underlying4 _), (trodAll_cons_mk (shut_pair w0a w0b) (trodAll_cons_mk (shut_pair w1a w1b) trodAll_mk0)), rfl, bel.frame _, fun h => by cases h⟩
theorem over : Rows.intervalDecidesRow.holds Try.pinned (OpenSpec.ofChange Rows.intervalDecidesSpec) :=
  OpenClaim.holds_of_wide 16 Try.f16 rfl rfl rfl rfl rfl rfl rfl ⟨rfl, rfl, rfl, rfl, rfl⟩ rfl rfl rfl rfl rfl (by kernel_rfl) Try.func16 (by kernel_rfl)
    (of_decide_eq_true (by kernel_rfl)) (by unfold Func.isWrapper; first | (rw [if_pos (by decide +kernel)]; kernel_rfl) | (rw [if_neg (by decide +kernel)]; exact ⟨rfl, rfl⟩))
    (fun os started H enc _ => lifted os started H enc)
end Go.Proofs.Ytoalomjmmlnclaa.intervalDecides
namespace Go.Proofs.Ytoalomjmmlnclaa
/-- The row, under a short name, for the claim. -/
theorem intervalDecides_holds : Rows.IntervalDecidesSaid := intervalDecides.over
#print axioms intervalDecides_holds
end Go.Proofs.Ytoalomjmmlnclaa
