/- The pure side of 'WordUnary': what the program's unary operators compute is what the reference computes, and the chapter's examples hold. -/
import Derived.Test.YtoalomjmmlnclaaPWordUnaryx1
import Derived.Test.YtoalomjmmlnclaaMath
namespace Go.Proofs.Ytoalomjmmlnclaa.Pure
open Go.RowKit Go.Proofs.Ytoalomjmmlnclaa.PWordUnary Go.Proofs.YtoalomjmmlnclaaW.PrintWords Go.Proofs.YtoalomjmmlnclaaW.PrintLast Go.Proofs.YtoalomjmmlnclaaW.PrintMore
open Go.Proofs.Ytoalomjmmlnclaa.M

theorem awake_true : ontimelaw03_awake.f 1 = some true := by decide +kernel

theorem WordUnary : ontimelaw03_WordUnary.Pure := by
  intro k x _ hx
  have hx := i32_wf hx
  refine ⟨1, ?_⟩
  unfold ontimelaw03_WordUnary.f word_Unary.f ontimeref03_Unary.f
  rw [awake_true]
  have hw : ontimeref03_Wrap.f (wrap64 (-(wrap64 x))) = some (wrap32 (-x)) := by
    have : wrap64 (-(wrap64 x)) = -x := by unfold wrap64; unfold I32 at hx; omega
    rw [this]; exact wrap_by_hand _
  by_cases h4 : k = 4
  · simp [h4, hw]
  · by_cases h5 : k = 5
    · by_cases h0 : x = 0 <;> simp [h5, h0, word_truth.f, ontimeref03_truth.f]
    · simp [h4, h5]

end Go.Proofs.Ytoalomjmmlnclaa.Pure
