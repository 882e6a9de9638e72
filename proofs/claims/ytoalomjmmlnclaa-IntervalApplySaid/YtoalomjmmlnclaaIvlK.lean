/- What is known of memory while a function of package interval runs, in one fact: some boxed intervals, and that nothing that existed has changed. -/
import Derived.Test.YtoalomjmmlnclaaQ2
import Derived.Test.YtoalomjmmlnclaaQ3
import Derived.Test.YtoalomjmmlnclaaQ4
import Derived.Test.YtoalomjmmlnclaaQ5
import Derived.Test.YtoalomjmmlnclaaIvlSpec
namespace Go.Proofs.Ytoalomjmmlnclaa.Ivl
open Go.RowKit Go.Proofs.Ytoalomjmmlnclaa.PIntervalApply Go.Proofs.YtoalomjmmlnclaaW.PrintWords Go.Proofs.YtoalomjmmlnclaaW.PrintLast
open Go.Proofs.Ytoalomjmmlnclaa.M
set_option linter.unusedVariables false

/-- A call of a function value that holds a Go function and nothing else, by its contract. -/
theorem goesV_ {P : Program} {ops : Array Oper} {Q : Exit → Act → World → Prop} {oi : Oper} {N : Option Tmp} {a : Act} {w : World} {K : Act → World → Prop} {f : FuncId} {fn : Func} {c : Operand} {xs : Array Operand} {ts : Array TypeId} (hf : P.funcs[f]? = some fn) (hname : (fn.name == "runtime.NumGoroutine") = false) (hb : fn.body.isSome = true) (args : Array Value)
    (hw : Region.wanted oi (yielded ops a.tmps) = true) (hN : oi.dst = N) (hop : oi.op = .call { callee := .value c, args := xs, argTypes := ts }) (hc : a.eval c = .func (.func f) #[] #[]) (hargs : xs.map a.eval = args)
    (h : Calls P f args w fun e w' => ∃ v, e = .returned v ∧ K (a.put N v) w') : if Region.wanted oi (yielded ops a.tmps) = true then Oper.wp P oi a w K Q else K (a.put N undef) w := by
  refine call_ f args hw hN ?_ h
  have he := enters_ hf hname hb args w
  unfold execOp
  simp [hop, resolve, Deferred.ofValue, invoke, hc, hargs, he]
/-- n Bools, by the digits of a number: what has come up in a region. -/
def bl (n m : Nat) : Array Bool := ((List.range n).map (fun i => m / 2 ^ i % 2 == 1)).toArray

/-! #### what is known of memory while a function runs, in one fact -/
/-- Some boxed intervals (where, Lo, Hi) lie in memory, and nothing that existed has changed. -/
structure Bx (w : World) (L : List (Nat × Int × Int)) (W : World) : Prop where
  blk : ∀ (n : Nat) (g : Nat) (a b : Int), L[n]? = some (g, a, b) → W.heap[g]? = some (.cells #[.int .i32 a, .int .i32 b] 38 (0, 0))
  below : Below w.heap.size w W
/-- The boxes' cells, one by one. -/
def Cl : List (Nat × Int × Int) → World → Prop
  | [], _ => True
  | x :: L, W => W.cell? ⟨x.1, 0, none⟩ = some (.int .i32 x.2.1) ∧ W.cell? ⟨x.1, 1, none⟩ = some (.int .i32 x.2.2) ∧ W.frozen? ⟨x.1, 0, none⟩ = false ∧ W.frozen? ⟨x.1, 1, none⟩ = false ∧ Cl L W
section
variable {w W W' : World} {L : List (Nat × Int × Int)} {g : Nat} {a b : Int}
theorem Bx.bk (h : Bx w L W) (n : Nat) (hx : L[n]? = some (g, a, b)) : W.heap[g]? = some (.cells #[.int .i32 a, .int .i32 b] 38 (0, 0)) := h.blk n g a b hx
theorem Bx.c0 (h : Bx w L W) (n : Nat) (hx : L[n]? = some (g, a, b)) : W.cell? ⟨g, 0, none⟩ = some (.int .i32 a) := (blk_cell (h.blk n g a b hx) 0).trans rfl
theorem Bx.c1 (h : Bx w L W) (n : Nat) (hx : L[n]? = some (g, a, b)) : W.cell? ⟨g, 1, none⟩ = some (.int .i32 b) := (blk_cell (h.blk n g a b hx) 1).trans rfl
theorem Bx.cl (h : Bx w L W) : Cl L W := by
  have all : ∀ (M : List (Nat × Int × Int)), (∀ (n g : Nat) (a b : Int), M[n]? = some (g, a, b) → W.heap[g]? = some (.cells #[.int .i32 a, .int .i32 b] 38 (0, 0))) → Cl M W := by
    intro M
    induction M with
    | nil => exact fun _ => trivial
    | cons x M ih =>
      intro hM
      obtain ⟨g, a, b⟩ := x
      have hb := hM 0 g a b rfl
      exact ⟨(blk_cell hb 0).trans rfl, (blk_cell hb 1).trans rfl, blk_frozen hb 0, blk_frozen hb 1, ih (fun n g a b hn => hM (n + 1) g a b hn)⟩
  exact all L h.blk
theorem Bx.step (h : Bx w L W) (hb : Below W.heap.size W W') : Bx w L W' := ⟨fun n g a b hn => blk_below (h.blk n g a b hn) hb, below_step h.below hb⟩
theorem Bx.drew (h : Bx w L W) : Bx w L W.drew := ⟨fun n g a b hn => blk_drew (h.blk n g a b hn), below_drew1 h.below⟩
theorem Bx.drewN (h : Bx w L W) (m : Nat) : Bx w L (W.drewN m) := ⟨fun n g a b hn => blk_drewN (h.blk n g a b hn) m, pw_below_drewN h.below m⟩
theorem Bx.zero (w : World) : Bx w [] w := ⟨fun n g a b hn => by simp at hn, Below.refl _ _⟩
theorem Bx.box (h : Bx w L W) (hg : W.heap.size = g) (a b : Int) : Bx w (L ++ [(g, a, b)]) (W.alloc (.cells #[.int .i32 a, .int .i32 b] 38)) := by
  refine ⟨fun n g' a' b' hn => ?_, below_alloc h.below _⟩
  rcases Nat.lt_or_ge n L.length with hl | hl
  · rw [List.getElem?_append_left hl] at hn
    exact blk_alloc (h.blk n g' a' b' hn) _
  · rw [List.getElem?_append_right hl] at hn
    rcases Nat.eq_zero_or_pos (n - L.length) with e | e
    · rw [e] at hn
      simp at hn
      obtain ⟨rfl, rfl, rfl⟩ := hn
      rw [← hg]; exact blk_new _ _
    · rw [List.getElem?_eq_none (by simp; omega)] at hn
      cases hn
theorem Bx.alloc (h : Bx w L W) (o : Obj) : Bx w L (W.alloc o) := ⟨fun n g a b hn => blk_alloc (h.blk n g a b hn) o, below_alloc h.below o⟩
theorem Bx.take (h : Bx w L W) (k : Nat) : Bx w (L.take k) W := by
  refine ⟨fun n g a b hn => ?_, h.below⟩
  rw [List.getElem?_take] at hn
  split at hn
  · exact h.blk n g a b hn
  · cases hn
theorem Bx.start1 (w : World) (a b : Int) : Bx w [(w.heap.size, a, b)] (w.alloc (.cells #[.int .i32 a, .int .i32 b] 38)) := (Bx.zero w).box rfl a b
theorem Bx.start2 (w : World) (a b c d : Int) : Bx w [(w.heap.size, a, b), (w.heap.size + 1, c, d)] ((w.alloc (.cells #[.int .i32 a, .int .i32 b] 38)).alloc (.cells #[.int .i32 c, .int .i32 d] 38)) :=
  ((Bx.zero w).box rfl a b).box (by simp) c d
theorem Bx.start3 (w : World) (a b c d e f : Int) : Bx w [(w.heap.size, a, b), (w.heap.size + 1, c, d), (w.heap.size + 1 + 1, e, f)] (((w.alloc (.cells #[.int .i32 a, .int .i32 b] 38)).alloc (.cells #[.int .i32 c, .int .i32 d] 38)).alloc (.cells #[.int .i32 e, .int .i32 f] 38)) :=
  (Bx.start2 w a b c d).box (by simp) e f
theorem Bx.start4 (w : World) (a b c d e f i j : Int) : Bx w [(w.heap.size, a, b), (w.heap.size + 1, c, d), (w.heap.size + 1 + 1, e, f), (w.heap.size + 1 + 1 + 1, i, j)] ((((w.alloc (.cells #[.int .i32 a, .int .i32 b] 38)).alloc (.cells #[.int .i32 c, .int .i32 d] 38)).alloc (.cells #[.int .i32 e, .int .i32 f] 38)).alloc (.cells #[.int .i32 i, .int .i32 j] 38)) :=
  (Bx.start3 w a b c d e f).box (by simp) i j
/-- A box is written anew; the others lie elsewhere. -/
theorem Bx.put (h : Bx w L W) (n : Nat) (hx : L[n]? = some (g, a, b)) (hd : ∀ (m g' : Nat) (a' b' : Int), L[m]? = some (g', a', b') → m ≠ n → g' ≠ g) (hg : w.heap.size ≤ g) (u v : Int) :
    Bx w (L.set n (g, u, v)) ((W.setCell ⟨g, 0, none⟩ (.int .i32 u)).setCell ⟨g, 1, none⟩ (.int .i32 v)) := by
  refine ⟨fun m g' a' b' hm => ?_, below_set (below_set h.below hg) hg⟩
  by_cases e : m = n
  · subst e
    have hl : m < L.length := by
      rcases Nat.lt_or_ge m L.length with hl | hl
      · exact hl
      · rw [List.getElem?_eq_none hl] at hx; cases hx
    rw [List.getElem?_set_self hl] at hm
    simp at hm
    obtain ⟨rfl, rfl, rfl⟩ := hm
    exact blk_put (cs := #[.int .i32 u, .int .i32 b]) (blk_put (cs := #[.int .i32 a, .int .i32 b]) (h.blk m g a b hx) 0 _ rfl) 1 _ rfl
  · rw [List.getElem?_set_ne (Ne.symm e)] at hm
    have hne := hd m g' a' b' hm e
    exact blk_far (blk_far (h.blk m g' a' b' hm) (p := ⟨g, 0, none⟩) hne _) (p := ⟨g, 1, none⟩) hne _
/-- The result's box is written, and told. -/
theorem Bx.ret (h : Bx w L W) (n : Nat) (hx : L[n]? = some (g, a, b)) (hg : w.heap.size ≤ g) (u v : Int) :
    ((W.setCell ⟨g, 0, none⟩ (.int .i32 u)).setCell ⟨g, 1, none⟩ (.int .i32 v)).heap[g]? = some (.cells #[.int .i32 u, .int .i32 v] 38 (0, 0)) ∧ Below w.heap.size w ((W.setCell ⟨g, 0, none⟩ (.int .i32 u)).setCell ⟨g, 1, none⟩ (.int .i32 v)) :=
  ⟨blk_put (cs := #[.int .i32 u, .int .i32 b]) (blk_put (cs := #[.int .i32 a, .int .i32 b]) (h.blk n g a b hx) 0 _ rfl) 1 _ rfl, below_set (below_set h.below hg) hg⟩
end

end Go.Proofs.Ytoalomjmmlnclaa.Ivl
