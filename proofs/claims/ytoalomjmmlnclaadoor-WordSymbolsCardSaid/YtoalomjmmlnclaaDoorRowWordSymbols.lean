/- 'WordSymbols', the row and its tied card: for every byte the call returns true, and the argument reads as before. Condition: none beyond the card's own (the table 'operators' reads as the program's text lays it, which is tied). -/
import Derived.Test.YtoalomjmmlnclaaDoorRows
import Derived.Test.YtoalomjmmlnclaaDoorTie
import Derived.Test.YtoalomjmmlnclaaDoorCards
import Derived.Test.YtoalomjmmlnclaaDoorSymbolsWalk
import Derived.ProofKit
import Derived.LaidMore
import Derived.OpenShut
import Derived.Stop.Joined
import Derived.SevenTiedAt
namespace Go.Proofs.YtoalomjmmlnclaaDoor.wordSymbols
open Go.ChangeShapes Go.WideShapes Go.ChangeAt Go.WideMaps Go.WideElems Go.RowKit
set_option linter.unusedVariables false

theorem own : ownKnob Tryd.prog.godebug = none := by kernel_rfl
theorem gNum : Tryd.prog.globalNamed "ontime/word.operators" = some 0 := by kernel_rfl
theorem gType : (Tryd.prog.globals[0]?).map (·.type) = some 41 := by kernel_rfl
theorem cells36 : Tryd.prog.cellsOf 36 = 2 := by kernel_rfl
theorem cells9 : Tryd.prog.cellsOf 9 = 1 := by kernel_rfl
theorem cells3 : Tryd.prog.cellsOf 3 = 1 := by kernel_rfl
abbrev list : List (String × DataW Unit) := [("ontime/word.operators", Rows.laid_ontime_word_operators)]
def parts : List (DataW Unit) := (List.range 20).map fun k => .agg [.lit (.string (Syms.sy k).data.toList), .lit (.int .i64 (Syms.lv k))]
theorem parts_eq : (Rows.laid_ontime_word_operators : DataW Unit) = .agg parts := by rfl

/-- What the condition gives the walk: the table's cells. -/
theorem of_laid {W : World} (h : laidMetH Tryd.prog list W) : Syms.Laid W := by
  rw [MakeChecks.laidMetH_plain _ _ _ (by kernel_rfl)] at h
  obtain ⟨ps, ⟨g0, t0, cs0, f0, p0, q0, hg0, ht0, hv0, hd0, _, _⟩, _⟩ := h
  obtain rfl := Option.some.inj (gNum.symm.trans hg0)
  obtain rfl := Option.some.inj (gType.symm.trans ht0)
  obtain ⟨xs, m, rfl, hx, hlen, hn, hel⟩ := DataW.trod_array Tryd.underlying41 hd0
  rw [cells36] at hel
  rw [parts_eq] at hx
  simp only [Prod.mk.injEq, DataW.agg.injEq] at hx
  intro k hk
  have hxk : xs[k]?.map (·.1) = some (.agg [.lit (.string (Syms.sy k).data.toList), .lit (.int .i64 (Syms.lv k))]) := by
    rw [← List.getElem?_map, ← hx.1]
    simp [parts, hk]
  obtain ⟨x, hxx, hx1⟩ := Option.map_eq_some_iff.1 hxk
  have e1 := hel k hk
  rw [hxx] at e1
  obtain ⟨ys, n, rfl, rfl, hl2, hyl, hf⟩ := DataW.trod_struct Tryd.underlying36 e1
  have h0 := hf 0 _ rfl
  have h1 := hf 1 _ rfl
  match ys, hyl with
  | [y0, y1], _ =>
    obtain ⟨s, es, ey0, _⟩ := DataW.trod_string Tryd.underlying9 h0
    obtain ⟨l, el, ey1, _⟩ := DataW.trod_int Tryd.underlying3 h1
    simp only [List.map_cons, List.map_nil, DataW.agg.injEq, List.cons.injEq, and_true] at hx1
    rw [ey0, ey1] at hx1
    simp only [DataW.lit.injEq, Lit.string.injEq, Lit.int.injEq, true_and] at hx1
    obtain ⟨hs, rfl⟩ := hx1
    have hs' : s = Syms.sy k := by
      rcases s with ⟨⟨a⟩⟩
      rcases hq : Syms.sy k with ⟨⟨b⟩⟩
      rw [hq] at hs
      simpa using hs
    subst hs'
    have c0 := World.var?_cell hg0 hv0 (k * 2)
    have c1 := World.var?_cell hg0 hv0 (k * 2 + 1)
    have u0 : cs0.toList[k * 2]? = some (.string (Syms.sy k)) := by
      have := congrArg (fun z => z[0]?) es
      simpa [cells9, List.getElem?_take, List.getElem?_drop] using this
    have u1 : cs0.toList[k * 2 + 1]? = some (.int .i64 (Syms.lv k)) := by
      have := congrArg (fun z => z[0]?) el
      simpa [cells3, List.getElem?_take, List.getElem?_drop] using this
    rw [Array.getElem?_toList] at u0 u1
    exact ⟨c0.trans u0, c1.trans u1⟩

/-- The door's own heap meets the condition. -/
theorem door_met (os : Os) (args : Array Value) : laidMetH Tryd.prog list ((World.doorLaid Tryd.prog 400 os).forCall (fun _ _ => 0) ⟨#[], args, []⟩).memory :=
  laidMetH_of_parts3 (fuel := 8) (laidMet_of_run' 8 (by kernel_rfl) (by kernel_rfl)) (by kernel_rfl) (by kernel_rfl)

set_option maxRecDepth 100000 in
theorem lifted (os : Os) (started : os.Started) (H : Type) (enc : TypeId × Value → H) :
    ReturnsInHanded {} Tryd.checked os 3 .any (fun w args => (Rows.wordSymbolsSpec.pre enc Tryd.prog Tryd.f3 [] false w args ∧ laidMetH Tryd.prog list w) ∧ sizedMet enc Tryd.prog Tryd.f3 (OpenSpec.ofChange Rows.wordSymbolsSpec) false w args)
      (Rows.wordSymbolsSpec.post enc Tryd.prog Tryd.f3 false true false false) := by
  refine returnsInHanded_of_change_and (C := Tryd.checked) (X := fun w _ => laidMetH Tryd.prog list w) (fun _ _ _ hh h => h.of_heap hh) own started (by kernel_rfl) Tryd.func3
    (ChangeSpec.witness_shaped (enc := enc) (C := Tryd.checked) (os := os) (X := fun w _ => laidMetH Tryd.prog list w) false (World.doorLaid Tryd.prog 400 os) #[.int .u8 0] 8 rfl (World.shaped_of_RefB (by kernel_rfl) (by kernel_rfl)) (by kernel_rfl) (by kernel_rfl) (by kernel_rfl) (door_met os _)) ?_
  intro W base args ds gs before hval0 hW _ _ hL _
  have hval : ∀ (j : Nat) t v, Tryd.f3.params[j]? = some t → args[j]? = some v → Value.okWide Tryd.prog W .any base t v := hval0
  have hW' := hW
  obtain ⟨p, q, hA0, hV, rfl, hfz, hnd⟩ := hW
  have hA : DataW.TrodAll enc Tryd.prog W 0 (fun _ => true) true Tryd.f3.params.toList args.toList ds p := hA0
  rw [Tryd.params3] at hA hval
  obtain ⟨v0, d0, rfl, rfl, h0⟩ := trodAll_one hA
  obtain ⟨rfl, rfl⟩ := trodVars_none hV
  obtain ⟨a0, rfl, rfl, rfl, w0⟩ := open_int Tryd.underlying5 (hval 0 5 v0 rfl rfl) h0
  clear hA0 hval0
  refine (Syms.walk a0 W w0 (of_laid hL)).mono fun e W' ⟨he, bel⟩ => ?_
  subst he
  exact ⟨_, rfl, _, _, _, [], _, [], hW', trodAll_mk1 (shut_bool Tryd.underlying4 _), trodAll_mk1 (shut_int Tryd.underlying5 w0), rfl, bel.frame _, fun h => by cases h⟩

theorem over : Rows.wordSymbolsRow.holds Tryd.pinned (OpenSpec.ofChange Rows.wordSymbolsSpec) :=
  OpenClaim.holds_of_wide 3 Tryd.f3 rfl rfl rfl rfl rfl rfl rfl ⟨rfl, rfl, rfl, rfl, rfl⟩ rfl rfl rfl rfl rfl (by kernel_rfl) Tryd.func3 (by kernel_rfl)
    (of_decide_eq_true (by kernel_rfl)) (by unfold Func.isWrapper; first | (rw [if_pos (by decide +kernel)]; kernel_rfl) | (rw [if_neg (by decide +kernel)]; exact ⟨rfl, rfl⟩))
    (fun os started H enc _ => lifted os started H enc)
end Go.Proofs.YtoalomjmmlnclaaDoor.wordSymbols
namespace Go.Proofs.YtoalomjmmlnclaaDoor
open Go
/-- The row. -/
theorem wordSymbols_row : Rows.WordSymbolsSaid := wordSymbols.over
/-- The tied card. -/
theorem wordSymbols_holds : Rows.WordSymbolsCardSaid :=
  Claim7.holds_tied_plain_at .later [] [.data] true (true, "220fec730a31d0dbc3040c9182bc010fe4d10dfea321debe020a95f9f2c3c50c") false
    wordSymbols_row (fun _ h => by cases h) (by kernel_rfl) (fun _ h => by cases h) wordSymbols_row_tie rfl ⟨rfl, rfl⟩ (by kernel_rfl) rfl
    (fun f fn hf hfn => by
      obtain rfl : f = 3 := Option.some.inj ((show Tryd.prog.funcNamed "ontime/ontimelaw03.WordSymbols" = some 3 by kernel_rfl).symm.trans hf) |>.symm
      obtain rfl : fn = Tryd.f3 := (Option.some.inj (Tryd.func3.symm.trans hfn)).symm
      exact ⟨by kernel_rfl, fun j t ht => by
        rw [Tryd.params3] at ht
        have hm : t ∈ [5] := by simpa using Array.mem_of_getElem? ht
        have hall : ([5].all fun u => !Tryd.prog.wantsStandIn u) = true := by kernel_rfl
        exact (show Tryd.prog.wantsStandIn t = false by simpa using List.all_eq_true.1 hall t hm)⟩)
    (by kernel_rfl)
#print axioms wordSymbols_holds
end Go.Proofs.YtoalomjmmlnclaaDoor
