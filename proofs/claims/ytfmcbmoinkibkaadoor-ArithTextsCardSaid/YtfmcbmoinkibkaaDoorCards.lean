/-
  DERIVED. GIVEN WITH THE SEED: THE CARDS: each row of YtfmcbmoinkibkaaDoorRows.lean that lists a variable, with what it lists TIED to the program's text (the seventh form; the later family's looks); each row that meets fmt, with fmt's text TOLD by the authors' own Lean function (tested against real Go, not proved from fmt's source: count such statements apart). THE CARD IS WHAT COUNTS. Prove the row's statement (the work); the ties are given (YtfmcbmoinkibkaaDoorTie.lean); close each card by the builder's one call (the guide's Derived/Test/ToyasCard.lean, 'card_holds'). Laid BY PROGRAM, IN A SANDBOX (cutbox-door.mjs). By AI agents, Wed Nov 11 2026. No macro, syntax, notation, axiom, sorry.
-/
import Derived.Test.YtfmcbmoinkibkaaDoorRows
import GoSem.ClaimSeven
namespace Go.Proofs.YtfmcbmoinkibkaaDoor
namespace Rows

/-- THE TIED CARD OF 'magnetolaw01.ArithTexts'. -/
def arithTextsCard : Claim7 := { stood := { row := arithTextsRow, standIns := [], harness := (true, "e6f0049f2890b23dbdd28e96f58be0cc0c008aa8c8e2e6fa23939df8e95781b5"), looks := true }, kinds := [], alts := [], laidByText := true, laidKinds := [.data, .data, .data, .sentinel, .sentinel], laidTests := true, laidLooks := .later }
def ArithTextsCardSaid : Prop := Claim7.holds Tryd.pinned (.plain (OpenSpec.ofChange arithTextsSpec)) arithTextsCard

/-- THE SECOND FORM's CARD OF 'magnetolaw01.ArithTexts'. -/
def arithTextsUptoCard : Claim7 := { stood := { row := arithTextsUptoRow, standIns := [], harness := (true, "e6f0049f2890b23dbdd28e96f58be0cc0c008aa8c8e2e6fa23939df8e95781b5"), looks := true }, kinds := [], alts := [], laidByText := true, laidKinds := [.data, .data, .data, .sentinel, .sentinel], laidTests := true, laidLooks := .later }
def ArithTextsUptoCardSaid : Prop := Claim7.holds Tryd.pinned (.plain (OpenSpec.upto arithTextsSpec)) arithTextsUptoCard
end Rows
end Go.Proofs.YtfmcbmoinkibkaaDoor
