/-
  DERIVED. GIVEN WITH THE SEED: THE CARDS: each row of YtoalomjmmlnclaaDoorRows.lean that lists a variable, with what it lists TIED to the program's text (the seventh form; the later family's looks); each row that meets fmt, with fmt's text TOLD by the authors' own Lean function (tested against real Go, not proved from fmt's source: count such statements apart). THE CARD IS WHAT COUNTS. Prove the row's statement (the work); the ties are given (YtoalomjmmlnclaaDoorTie.lean); close each card by the builder's one call (the guide's Derived/Test/ToyasCard.lean, 'card_holds'). Laid BY PROGRAM, IN A SANDBOX (cutbox-door.mjs). By AI agents, Wed Nov 11 2026. No macro, syntax, notation, axiom, sorry.
-/
import Derived.Test.YtoalomjmmlnclaaDoorRows
import GoSem.ClaimSeven
namespace Go.Proofs.YtoalomjmmlnclaaDoor
namespace Rows

/-- THE TIED CARD OF 'ontimelaw03.WordSymbols'. -/
def wordSymbolsCard : Claim7 := { stood := { row := wordSymbolsRow, standIns := [], harness := (true, "220fec730a31d0dbc3040c9182bc010fe4d10dfea321debe020a95f9f2c3c50c"), looks := false }, kinds := [], alts := [], laidByText := true, laidKinds := [.data], laidTests := true, laidLooks := .later }
def WordSymbolsCardSaid : Prop := Claim7.holds Tryd.pinned (.plain (OpenSpec.ofChange wordSymbolsSpec)) wordSymbolsCard

/-- THE SECOND FORM's CARD OF 'ontimelaw03.WordSymbols'. -/
def wordSymbolsUptoCard : Claim7 := { stood := { row := wordSymbolsUptoRow, standIns := [], harness := (true, "220fec730a31d0dbc3040c9182bc010fe4d10dfea321debe020a95f9f2c3c50c"), looks := false }, kinds := [], alts := [], laidByText := true, laidKinds := [.data], laidTests := true, laidLooks := .later }
def WordSymbolsUptoCardSaid : Prop := Claim7.holds Tryd.pinned (.plain (OpenSpec.upto wordSymbolsSpec)) wordSymbolsUptoCard
end Rows
end Go.Proofs.YtoalomjmmlnclaaDoor
