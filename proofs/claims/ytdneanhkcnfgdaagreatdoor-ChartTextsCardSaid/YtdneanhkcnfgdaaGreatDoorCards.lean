/-
  DERIVED. GIVEN WITH THE SEED: THE CARDS: each row of YtdneanhkcnfgdaaGreatDoorRows.lean that lists a variable, with what it lists TIED to the program's text (the seventh form; the later family's looks); each row that meets fmt, with fmt's text TOLD by the authors' own Lean function (tested against real Go, not proved from fmt's source: count such statements apart). THE CARD IS WHAT COUNTS. Prove the row's statement (the work); the ties are given (YtdneanhkcnfgdaaGreatDoorTie.lean); close each card by the builder's one call (the guide's Derived/Test/ToyasCard.lean, 'card_holds'). Laid BY PROGRAM, IN A SANDBOX (cutbox-door.mjs). By AI agents, Wed Nov 11 2026. No macro, syntax, notation, axiom, sorry.
-/
import Derived.Test.YtdneanhkcnfgdaaGreatDoorRows
import GoSem.ClaimSeven
namespace Go.Proofs.YtdneanhkcnfgdaaGreatDoor
namespace Rows

/-- THE TIED CARD OF 'magnetolaw08.ChartTexts'. -/
def chartTextsCard : Claim7 := { stood := { row := chartTextsRow, standIns := [], harness := (true, "49328d64f646c5b8e1bde058e2edbee24c09612845b9bfe83bc7cc73071551dc"), looks := true }, kinds := [], alts := [], laidByText := true, laidKinds := [.data, .data, .data, .data, .sentinel, .sentinel, .pinned], laidTests := true, laidLooks := .later }
def ChartTextsCardSaid : Prop := Claim7.holds Tryz.pinned (.plain (OpenSpec.ofChange chartTextsSpec)) chartTextsCard

/-- THE SECOND FORM's CARD OF 'magnetolaw08.ChartTexts'. -/
def chartTextsUptoCard : Claim7 := { stood := { row := chartTextsUptoRow, standIns := [], harness := (true, "49328d64f646c5b8e1bde058e2edbee24c09612845b9bfe83bc7cc73071551dc"), looks := true }, kinds := [], alts := [], laidByText := true, laidKinds := [.data, .data, .data, .data, .sentinel, .sentinel, .pinned], laidTests := true, laidLooks := .later }
def ChartTextsUptoCardSaid : Prop := Claim7.holds Tryz.pinned (.plain (OpenSpec.upto chartTextsSpec)) chartTextsUptoCard
end Rows
end Go.Proofs.YtdneanhkcnfgdaaGreatDoor
