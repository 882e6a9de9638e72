/- The functions that 'WordSymbols' calls, by what it needs of them: the reference's tables, the list of operators, the layer's own table and what is read from it. -/
import Derived.Test.YtoalomjmmlnclaaDoorPWordSymbolsx1
namespace Go.Proofs.YtoalomjmmlnclaaDoor.Syms
open Go.RowKit Go.Proofs.YtoalomjmmlnclaaDoor.PWordSymbols Go.Proofs.YtoalomjmmlnclaaDoorW.PrintWords Go.Proofs.YtoalomjmmlnclaaDoorW.PrintLast Go.Proofs.YtoalomjmmlnclaaDoorW.PrintMore
set_option linter.unusedVariables false
set_option linter.unusedSimpArgs false

def symL : List ByteArray := [⟨#[45]⟩, ⟨#[33]⟩, ⟨#[43]⟩, ⟨#[45]⟩, ⟨#[42]⟩, ⟨#[47]⟩, ⟨#[37]⟩, ⟨#[38]⟩, ⟨#[124]⟩, ⟨#[94]⟩, ⟨#[60, 60]⟩, ⟨#[62, 62]⟩, ⟨#[61, 61]⟩, ⟨#[33, 61]⟩, ⟨#[60]⟩, ⟨#[60, 61]⟩, ⟨#[62]⟩, ⟨#[62, 61]⟩, ⟨#[38, 38]⟩, ⟨#[124, 124]⟩]
def levL : List Int := [11, 11, 9, 9, 10, 10, 10, 5, 3, 4, 8, 8, 6, 6, 7, 7, 7, 7, 2, 1]
def opsL : List Int := [6, 7, 8, 9, 10, 11, 12, 13, 14, 15, 16, 17, 18, 19, 20, 21, 22, 23]
def sy (k : Nat) : ByteArray := symL.getD k ⟨#[]⟩
def lv (k : Nat) : Int := levL.getD k 0

/-- A slice of the call's own, by its block. -/
theorem row_of_R {α : Type} {mk : α → Value} {h1 : ∀ x, (mk x).oneCell' = true} {e : TypeId} {w : World} {base : Nat} {ok : Nat → Prop} {v : Value} {xs : List α} (h : (Kd.scalar mk h1).R e w base ok v xs) (hn : 0 < xs.length) :
    ∃ (g cap : Nat) (cur : Array Value), v = .slice (some ⟨g, 0, none⟩) xs.length cap ∧ base ≤ g ∧ w.heap[g]? = some (.cells cur e (0, 0)) ∧ ∀ (j : Nat) (x : α), xs[j]? = some x → cur[j]? = some (mk x) := by
  obtain ⟨_, inner, ⟨hl, ho⟩, hrl, hr⟩ := h
  rcases ho with ⟨_, h0⟩ | ⟨g, cap, cur, rfl, hg, hh, _, _, _, ht⟩
  · omega
  refine ⟨g, cap, cur, rfl, hg, hh, fun j x hx => ?_⟩
  have e1 : (inner.drop (j * 1)).take 1 = [mk x] := hr j x hx
  have hj : j < xs.length := (List.getElem?_eq_some_iff.1 hx).1
  rw [Nat.mul_one] at e1
  have e2 : inner[j]? = some (mk x) := by
    have := congrArg (fun l => l[0]?) e1
    simpa [List.getElem?_take, List.getElem?_drop] using this
  rw [← ht, List.getElem?_take] at e2
  split at e2
  · rw [Array.getElem?_toList] at e2; exact e2
  · cases e2

theorem symbols_c (w : World) : Calls Tryd.prog 4 #[] w fun e w' => ∃ g cap, e = .returned (.slice (some ⟨g, 0, none⟩) 20 cap) ∧ (∀ j, j < 20 → w'.cell? ⟨g, j, none⟩ = some (.string (sy j))) ∧ Below w.heap.size w w' := by
  refine (ontimeref03_Symbols.calls symL w rfl).mono ?_
  rintro e w' ⟨v, rfl, hr, hb⟩
  obtain ⟨g, cap, cur, rfl, _, hh, hc⟩ := row_of_R hr (by decide)
  refine ⟨g, cap, rfl, fun j hj => ?_, hb⟩
  rw [blk_cell hh, hc j (sy j)]
  unfold sy
  rw [List.getD_eq_getElem?_getD, List.getElem?_eq_getElem (show j < symL.length from hj)]
  rfl
theorem levels_c (w : World) : Calls Tryd.prog 5 #[] w fun e w' => ∃ g cap, e = .returned (.slice (some ⟨g, 0, none⟩) 20 cap) ∧ (∀ j, j < 20 → w'.cell? ⟨g, j, none⟩ = some (.int .i64 (lv j))) ∧ Below w.heap.size w w' := by
  refine (ontimeref03_Levels.calls levL w rfl).mono ?_
  rintro e w' ⟨v, rfl, hr, hb⟩
  obtain ⟨g, cap, cur, rfl, _, hh, hc⟩ := row_of_R hr (by decide)
  refine ⟨g, cap, rfl, fun j hj => ?_, hb⟩
  rw [blk_cell hh, hc j (lv j)]
  unfold lv
  rw [List.getD_eq_getElem?_getD, List.getElem?_eq_getElem (show j < levL.length from hj)]
  rfl
/-- The list of operators, from i on: what is before i may have been written. -/
def Ops (w : World) (g i : Nat) : Prop := ∃ cur, w.heap[g]? = some (.cells cur 5 (0, 0)) ∧ ∀ j, i ≤ j → j < 18 → cur[j]? = some (.int .u8 ((j : Int) + 6))
theorem Ops.step {w w' : World} {g i : Nat} (h : Ops w g i) (hb : Below w.heap.size w w') : Ops w' g i := by
  obtain ⟨cur, hh, hc⟩ := h; exact ⟨cur, blk_below hh hb, hc⟩
theorem Ops.lt {w : World} {g i : Nat} (h : Ops w g i) : g < w.heap.size := by
  obtain ⟨cur, hh, hc⟩ := h; exact blk_lt hh
theorem Ops.cell {w : World} {g i : Nat} (h : Ops w g i) (hi : i < 18) : w.cell? ⟨g, i, none⟩ = some (.int .u8 ((i : Int) + 6)) := by
  obtain ⟨cur, hh, hc⟩ := h; rw [blk_cell hh]; exact hc i (Nat.le_refl _) hi
theorem Ops.open {w : World} {g i : Nat} (h : Ops w g i) : w.frozen? ⟨g, i, none⟩ = false := by
  obtain ⟨cur, hh, hc⟩ := h; exact blk_frozen hh i
theorem Ops.put {w : World} {g i : Nat} (h : Ops w g i) (u : Value) : Ops (w.setCell ⟨g, i, none⟩ u) g (i + 1) := by
  obtain ⟨cur, hh, hc⟩ := h
  refine ⟨_, blk_put hh i u rfl, fun j h1 h2 => ?_⟩
  rw [Array.getElem?_setIfInBounds_ne (by omega)]
  exact hc j (by omega) h2
theorem operators_c (w : World) : Calls Tryd.prog 6 #[] w fun e w' => ∃ g cap, e = .returned (.slice (some ⟨g, 0, none⟩) 18 cap) ∧ w.heap.size ≤ g ∧ Ops w' g 0 ∧ Below w.heap.size w w' := by
  refine (word_Operators.calls 19 opsL w (by decide +kernel)).mono ?_
  rintro e w' ⟨v, rfl, hr, hb⟩
  obtain ⟨g, cap, cur, rfl, hg, hh, hc⟩ := row_of_R hr (by decide)
  refine ⟨g, cap, rfl, hg, ⟨cur, hh, fun j _ hj => ?_⟩, hb⟩
  rw [hc j ((j : Int) + 6)]
  have : j = 0 ∨ j = 1 ∨ j = 2 ∨ j = 3 ∨ j = 4 ∨ j = 5 ∨ j = 6 ∨ j = 7 ∨ j = 8 ∨ j = 9 ∨ j = 10 ∨ j = 11 ∨ j = 12 ∨ j = 13 ∨ j = 14 ∨ j = 15 ∨ j = 16 ∨ j = 17 := by omega
  rcases this with rfl | rfl | rfl | rfl | rfl | rfl | rfl | rfl | rfl | rfl | rfl | rfl | rfl | rfl | rfl | rfl | rfl | rfl <;> rfl
theorem awake_c (w : World) : Calls Tryd.prog 7 #[] w fun e w' => e = .returned (.bool true) ∧ Below w.heap.size w w' := by
  refine (ontimelaw03_awake.calls 2 true w (by decide +kernel)).mono ?_
  rintro e w' ⟨rfl, hd⟩
  first | exact ⟨rfl, hd⟩ | exact ⟨rfl, hd.below⟩

/-- The layer's table lies where the program lays it. -/
def Laid (w : World) : Prop := ∀ k, k < 20 → w.cell? ⟨0, k * 2, none⟩ = some (.string (sy k)) ∧ w.cell? ⟨0, k * 2 + 1, none⟩ = some (.int .i64 (lv k))
theorem Laid.step {w w' : World} (h : Laid w) (hb : Below w.heap.size w w') : Laid w' := fun k hk => by
  obtain ⟨h0, h1⟩ := h k hk
  exact ⟨(hb.cell (World.block_lt_of_cell? w _ h0)).trans h0, (hb.cell (World.block_lt_of_cell? w _ h1)).trans h1⟩

set_option maxHeartbeats 4000000 in
set_option maxRecDepth 100000 in
theorem entry_in (k : Nat) (hk : k < 20) (w : World) (HL : Aside0 (Laid w)) : Calls Tryd.prog 11 #[.int .u8 ((k : Int) + 4)] w fun e w' => e = .returned (.agg #[.string (sy k), .int .i64 (lv k)]) ∧ Below w.heap.size w w' := by
  obtain ⟨hc0, hc1⟩ := HL.out k hk
  generalize sy k = s at hc0 ⊢
  generalize lv k = l at hc1 ⊢
  have b0 := World.block_lt_of_cell? w _ hc0
  have hu := Tryd.underlying36
  have d1 : decide ((k : Int) + 4 < 4) = false := decide_eq_false (by omega)
  have d2 : decide (23 < (k : Int) + 4) = false := decide_eq_false (by omega)
  go_enter Tryd.func11, Tryd.ntmps11
  go_wp2_with fail
  exact bodyPost_ret (results_cell_row rfl _ _ (w.heap.size) 36 #[.string s, .int .i64 l] (0, 0) _ rfl (blk_new w _) Tryd.underlying36 rfl (by kernel_rfl)) rfl ⟨rfl, below_alloc (Below.refl _ _) _⟩
set_option maxHeartbeats 4000000 in
set_option maxRecDepth 100000 in
theorem entry_out (op : Int) (h : op < 4 ∨ 23 < op) (w : World) : Calls Tryd.prog 11 #[.int .u8 op] w fun e w' => e = .returned (.agg #[.string ⟨#[]⟩, .int .i64 0]) ∧ Below w.heap.size w w' := by
  have hu := Tryd.underlying36
  by_cases h4 : op < 4
  · have d1 : decide (op < 4) = true := decide_eq_true h4
    clear h h4
    go_enter Tryd.func11, Tryd.ntmps11
    go_wp2_with fail
    exact bodyPost_ret (results_cell_row rfl _ _ (w.heap.size) 36 #[.string ⟨#[]⟩, .int .i64 0] (0, 0) _ rfl (blk_new w _) Tryd.underlying36 rfl (by kernel_rfl)) rfl ⟨rfl, below_alloc (Below.refl _ _) _⟩
  · have d1 : decide (op < 4) = false := decide_eq_false h4
    have d2 : decide (23 < op) = true := decide_eq_true (by omega)
    clear h h4
    go_enter Tryd.func11, Tryd.ntmps11
    go_wp2_with fail
    exact bodyPost_ret (results_cell_row rfl _ _ (w.heap.size) 36 #[.string ⟨#[]⟩, .int .i64 0] (0, 0) _ rfl (blk_new w _) Tryd.underlying36 rfl (by kernel_rfl)) rfl ⟨rfl, below_alloc (Below.refl _ _) _⟩
/-- What the layer's table holds at an operator. -/
def Ent (op : Int) (s : ByteArray) (l : Int) (w : World) : Prop := ∀ W : World, Below w.heap.size w W → Calls Tryd.prog 11 #[.int .u8 op] W fun e w' => e = .returned (.agg #[.string s, .int .i64 l]) ∧ Below W.heap.size W w'
theorem Ent.calls {op : Int} {s : ByteArray} {l : Int} {w : World} (h : Ent op s l w) (W : World) (hb : Below w.heap.size w W) : Calls Tryd.prog 11 #[.int .u8 op] W fun e w' => e = .returned (.agg #[.string s, .int .i64 l]) ∧ Below W.heap.size W w' := h W hb
theorem field0 (s : ByteArray) (l : Int) (W : World) : (Instr.field 36 (.agg #[.string s, .int .i64 l]) 0).run Tryd.prog W = .ok (.string s) W := by kernel_rfl
theorem field1 (s : ByteArray) (l : Int) (W : World) : (Instr.field 36 (.agg #[.string s, .int .i64 l]) 1).run Tryd.prog W = .ok (.int .i64 l) W := by kernel_rfl
set_option maxHeartbeats 4000000 in
set_option maxRecDepth 100000 in
theorem symbol_c (op : Int) (s : ByteArray) (l : Int) (w : World) (h : Aside0 (Ent op s l w)) (W : World) (hb0 : Aside0 (Below w.heap.size w W)) : Calls Tryd.prog 8 #[.int .u8 op] W fun e w' => e = .returned (.string s) ∧ Below W.heap.size W w' := by
  have hf := field0 s l
  go_enter Tryd.func8, Tryd.ntmps8
  go_wp2_with fail
  (with_reducible refine (h.out.calls W hb0.out).mono ?_); rintro e w1 ⟨rfl, hb⟩
  have HB := Aside0.mk hb
  clear hb
  go_wp2_with fail
  go_ret
  exact ⟨by first | rfl | (simp; done) | (simp [*]; done), HB.out⟩
set_option maxHeartbeats 4000000 in
set_option maxRecDepth 100000 in
theorem level_c (op : Int) (s : ByteArray) (l : Int) (w : World) (h : Aside0 (Ent op s l w)) (W : World) (hb0 : Aside0 (Below w.heap.size w W)) : Calls Tryd.prog 9 #[.int .u8 op] W fun e w' => e = .returned (.int .i64 l) ∧ Below W.heap.size W w' := by
  have hf := field1 s l
  go_enter Tryd.func9, Tryd.ntmps9
  go_wp2_with fail
  (with_reducible refine (h.out.calls W hb0.out).mono ?_); rintro e w1 ⟨rfl, hb⟩
  have HB := Aside0.mk hb
  clear hb
  go_wp2_with fail
  go_ret
  exact ⟨by first | rfl | (simp; done) | (simp [*]; done), HB.out⟩
theorem ent_in {k : Nat} (hk : k < 20) {w : World} (HL : Laid w) : Ent ((k : Int) + 4) (sy k) (lv k) w := fun W hb => entry_in k hk W ⟨HL.step hb⟩
theorem ent_out {op : Int} (h : op < 4 ∨ 23 < op) (w : World) : Ent op ⟨#[]⟩ 0 w := fun W hb => entry_out op h W

end Go.Proofs.YtoalomjmmlnclaaDoor.Syms
