/- An interval among a row's arguments: read as two words, and shut again; for the rows of the interval laws. -/
import Derived.Test.YtoalomjmmlnclaaRows
import Derived.WalkKit
import Derived.ProofKit
import Derived.OpenShut
import Derived.ShutString
import Derived.ChangeOld
import Derived.Below
import Derived.SizedLaws
import Derived.RowKit3
import Derived.Lib.SmallJoins
namespace Go.Proofs.Ytoalomjmmlnclaa
open Go.ChangeShapes Go.WideShapes Go.ChangeAt Go.RowKit Go.Joins

theorem cells38 : Try.prog.cellsOf 38 = 2 := by kernel_rfl
theorem open_pair {H : Type} {enc : TypeId × Value → H} {W : World} {base b0 : Nat} {spare : Nat → Bool} {held : Bool} {r : Reach} {v : Value} {d : DataW H} {p : List MemPlace} (hv : Value.okWide Try.prog W r b0 38 v) (h : DataW.Trod enc Try.prog W base spare held 38 v d p) :
    ∃ a b : Int, v = .agg #[.int .i32 a, .int .i32 b] ∧ d = .agg [.lit (.int .i32 a), .lit (.int .i32 b)] ∧ p = [] ∧ (Lit.int .i32 a).wf = true ∧ (Lit.int .i32 b).wf = true := by
  obtain ⟨c0, c1, y0, y1, m, rfl, rfl, rfl, hy0, hy1⟩ := open_agg2 Try.underlying38 (by kernel_rfl) cells38 hv h
  obtain ⟨a, e0, rfl, wa⟩ := DataW.trod_int Try.underlying21 hy0
  obtain ⟨b, e1, rfl, wb⟩ := DataW.trod_int Try.underlying21 hy1
  simp at e0 e1
  subst e0 e1
  exact ⟨a, b, rfl, rfl, rfl, wa, wb⟩
theorem shut_pair {H : Type} {enc : TypeId × Value → H} {W : World} {base : Nat} {spare : Nat → Bool} {held : Bool} {a b : Int} (wa : (Lit.int .i32 a).wf = true) (wb : (Lit.int .i32 b).wf = true) :
    DataW.Trod enc Try.prog W base spare held 38 (.agg #[.int .i32 a, .int .i32 b]) (.agg [.lit (.int .i32 a), .lit (.int .i32 b)]) [] :=
  shut_agg2 (y0 := (.lit (.int .i32 a), [])) (y1 := (.lit (.int .i32 b), [])) Try.underlying38 (by kernel_rfl) cells38 ⟨1, by simp [DataW.trod, Try.underlying21, wa]⟩ ⟨1, by simp [DataW.trod, Try.underlying21, wb]⟩

end Go.Proofs.Ytoalomjmmlnclaa
