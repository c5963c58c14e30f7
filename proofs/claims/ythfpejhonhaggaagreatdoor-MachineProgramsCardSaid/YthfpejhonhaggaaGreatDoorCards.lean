/-
  DERIVED. GIVEN WITH THE SEED: THE CARDS: each row of YthfpejhonhaggaaGreatDoorRows.lean that lists a variable, with what it lists TIED to the program's text (the seventh form; the later family's looks); each row that meets fmt, with fmt's text TOLD by the authors' own Lean function (tested against real Go, not proved from fmt's source: count such statements apart). THE CARD IS WHAT COUNTS. Prove the row's statement (the work); the ties are given (YthfpejhonhaggaaGreatDoorTie.lean); close each card by the builder's one call (the guide's Derived/Test/ToyasCard.lean, 'card_holds'). Laid BY PROGRAM, IN A SANDBOX (cutbox-door.mjs). By AI agents, Wed Nov 11 2026. No macro, syntax, notation, axiom, sorry.
-/
import Derived.Test.YthfpejhonhaggaaGreatDoorRows
import GoSem.ClaimSeven
namespace Go.Proofs.YthfpejhonhaggaaGreatDoor
namespace Rows

/-- THE TIED CARD OF 'magnetolaw13.MachinePrograms'. -/
def machineProgramsCard : Claim7 := { stood := { row := machineProgramsRow, standIns := [], harness := (true, "cf5f2e7fa0861f24098ff2eaea7cefcacbdd2f3ebbf047664f1c145a89bc3784"), looks := true }, kinds := [], alts := [], laidByText := true, laidKinds := [.data, .data, .data, .data, .sentinel, .sentinel, .pinned], laidTests := true, laidLooks := .later }
def MachineProgramsCardSaid : Prop := Claim7.holds Tryz.pinned (.plain (OpenSpec.ofChange machineProgramsSpec)) machineProgramsCard

/-- THE SECOND FORM's CARD OF 'magnetolaw13.MachinePrograms'. -/
def machineProgramsUptoCard : Claim7 := { stood := { row := machineProgramsUptoRow, standIns := [], harness := (true, "cf5f2e7fa0861f24098ff2eaea7cefcacbdd2f3ebbf047664f1c145a89bc3784"), looks := true }, kinds := [], alts := [], laidByText := true, laidKinds := [.data, .data, .data, .data, .sentinel, .sentinel, .pinned], laidTests := true, laidLooks := .later }
def MachineProgramsUptoCardSaid : Prop := Claim7.holds Tryz.pinned (.plain (OpenSpec.upto machineProgramsSpec)) machineProgramsUptoCard
end Rows
end Go.Proofs.YthfpejhonhaggaaGreatDoor
