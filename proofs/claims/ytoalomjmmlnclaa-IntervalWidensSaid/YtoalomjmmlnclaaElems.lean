/- A slice of intervals among a row's arguments: read as words, two an element. -/
import Derived.Test.YtoalomjmmlnclaaPair
import Derived.Deep.SlicePairs
namespace Go.Proofs.Ytoalomjmmlnclaa
open Go.ChangeShapes Go.WideShapes Go.ChangeAt Go.RowKit Go.Joins

/-- Every element of the slice is two words in memory. -/
def Elems (W : World) (a : Option Addr) (n : Nat) : Prop := ∀ i, i < n → ∃ (x : Addr) (p q : Int), a = some x ∧ W.cell? (x.add (i * 2)) = some (.int .i32 p) ∧ W.cell? (x.add (i * 2 + 1)) = some (.int .i32 q) ∧ (Lit.int .i32 p).wf = true ∧ (Lit.int .i32 q).wf = true
/-- Of what is older than the call nothing has changed: so the elements are as they were. -/
theorem Elems.at {w W : World} {a : Option Addr} {n : Nat} (h : Elems w a n) (hb : Below w.heap.size w W) {i : Nat} (hi : i < n) :
    ∃ (x : Addr) (p q : Int), a = some x ∧ W.cell? (x.add (i * 2)) = some (.int .i32 p) ∧ W.cell? { block := (x.add (i * 2)).block, off := (x.add (i * 2)).off + 1 } = some (.int .i32 q) ∧ (Lit.int .i32 p).wf = true ∧ (Lit.int .i32 q).wf = true := by
  obtain ⟨x, p, q, rfl, h0, h1, wp, wq⟩ := h i hi
  have e : W.cell? (x.add (i * 2 + 1)) = some (.int .i32 q) := (hb.cell (World.block_lt_of_cell? w _ h1)).trans h1
  rw [← Go.Deep.add_add] at e
  exact ⟨x, p, q, rfl, (hb.cell (World.block_lt_of_cell? w _ h0)).trans h0, e, wp, wq⟩
theorem open_pairs {H : Type} {enc : TypeId × Value → H} {W : World} {base : Nat} {held : Bool} {a : Option Addr} {len cap : Nat} {d : DataW H} {p : List MemPlace} (h : DataW.Trod enc Try.prog W base (fun _ => true) held 48 (.slice a len cap) d p) : Elems W a len := by
  obtain ⟨fuel, hf⟩ := h
  rcases Go.Deep.open_slice_pairs Try.underlying48 Try.underlying38 cells38 rfl rfl (by kernel_rfl) (by kernel_rfl) hf with ⟨hcs, _⟩ | ⟨x, l, c, m, n, V0, V1, D0, D1, P0, P1, hcs, _, hl, _, hm, _, hx⟩
  · simp [Value.cells] at hcs
    obtain ⟨rfl, rfl, rfl⟩ := hcs
    intro i hi; cases hi
  · simp [Value.cells] at hcs
    obtain ⟨rfl, rfl, rfl⟩ := hcs
    intro i hi
    obtain ⟨c0, c1, t0, t1⟩ := hx i (by simp at hm; omega)
    obtain ⟨u, e0, _, wu⟩ := DataW.trod_int Try.underlying21 t0
    obtain ⟨v, e1, _, wv⟩ := DataW.trod_int Try.underlying21 t1
    simp at e0 e1
    rw [e0] at c0
    rw [e1] at c1
    exact ⟨x, u, v, rfl, c0, c1, wu, wv⟩

end Go.Proofs.Ytoalomjmmlnclaa
