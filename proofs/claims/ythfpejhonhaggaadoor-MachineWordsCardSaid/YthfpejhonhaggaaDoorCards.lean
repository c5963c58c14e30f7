/-
  DERIVED. GIVEN WITH THE SEED: THE CARDS: each row of YthfpejhonhaggaaDoorRows.lean that lists a variable, with what it lists TIED to the program's text (the seventh form; the later family's looks); each row that meets fmt, with fmt's text TOLD by the authors' own Lean function (tested against real Go, not proved from fmt's source: count such statements apart). THE CARD IS WHAT COUNTS. Prove the row's statement (the work); the ties are given (YthfpejhonhaggaaDoorTie.lean); close each card by the builder's one call (the guide's Derived/Test/ToyasCard.lean, 'card_holds'). Laid BY PROGRAM, IN A SANDBOX (cutbox-door.mjs). By AI agents, Wed Nov 11 2026. No macro, syntax, notation, axiom, sorry.
-/
import Derived.Test.YthfpejhonhaggaaDoorRows
import GoSem.ClaimSeven
namespace Go.Proofs.YthfpejhonhaggaaDoor
namespace Rows

/-- THE TIED CARD OF 'magnetolaw13.MachineWords'. -/
def machineWordsCard : Claim7 := { stood := { row := machineWordsRow, standIns := [], harness := (true, "d7c2e54b6e7e34c2da25d778a44678258789c9200a29a4386ae9bd67f19cf760"), looks := true }, kinds := [], alts := [], laidByText := true, laidKinds := [.data, .data, .data, .data, .sentinel, .sentinel, .pinned], laidTests := true, laidLooks := .later }
def MachineWordsCardSaid : Prop := Claim7.holds Tryd.pinned (.plain (OpenSpec.ofChange machineWordsSpec)) machineWordsCard

/-- THE SECOND FORM's CARD OF 'magnetolaw13.MachineWords'. -/
def machineWordsUptoCard : Claim7 := { stood := { row := machineWordsUptoRow, standIns := [], harness := (true, "d7c2e54b6e7e34c2da25d778a44678258789c9200a29a4386ae9bd67f19cf760"), looks := true }, kinds := [], alts := [], laidByText := true, laidKinds := [.data, .data, .data, .data, .sentinel, .sentinel, .pinned], laidTests := true, laidLooks := .later }
def MachineWordsUptoCardSaid : Prop := Claim7.holds Tryd.pinned (.plain (OpenSpec.upto machineWordsSpec)) machineWordsUptoCard
end Rows
end Go.Proofs.YthfpejhonhaggaaDoor
