/-
  DERIVED. GIVEN WITH THE SEED: THE CARDS: each row of YtaoolgcddapegaaGreatDoorRows.lean that lists a variable, with what it lists TIED to the program's text (the seventh form; the later family's looks); each row that meets fmt, with fmt's text TOLD by the authors' own Lean function (tested against real Go, not proved from fmt's source: count such statements apart). THE CARD IS WHAT COUNTS. Prove the row's statement (the work); the ties are given (YtaoolgcddapegaaGreatDoorTie.lean); close each card by the builder's one call (the guide's Derived/Test/ToyasCard.lean, 'card_holds'). Laid BY PROGRAM, IN A SANDBOX (cutbox-door.mjs). By AI agents, Wed Nov 11 2026. No macro, syntax, notation, axiom, sorry.
-/
import Derived.Test.YtaoolgcddapegaaGreatDoorRows
import GoSem.ClaimSeven
namespace Go.Proofs.YtaoolgcddapegaaGreatDoor
namespace Rows

/-- THE TIED CARD OF 'magnetolaw13.MachineRuns'. -/
def machineRunsCard : Claim7 := { stood := { row := machineRunsRow, standIns := [], harness := (true, "760e714821c91dc110b74832b70f92a0658ddeca8d2356503c87352349a5be13"), looks := true }, kinds := [], alts := [], laidByText := true, laidKinds := [.data, .data, .data, .data, .sentinel, .sentinel, .pinned], laidTests := true, laidLooks := .later }
def MachineRunsCardSaid : Prop := Claim7.holds Tryz.pinned (.plain (OpenSpec.ofChange machineRunsSpec)) machineRunsCard

/-- THE TIED CARD OF 'magnetolaw13.MachineSingle'. -/
def machineSingleCard : Claim7 := { stood := { row := machineSingleRow, standIns := [], harness := (true, "760e714821c91dc110b74832b70f92a0658ddeca8d2356503c87352349a5be13"), looks := true }, kinds := [], alts := [], laidByText := true, laidKinds := [.data, .data, .data, .data, .sentinel, .sentinel, .pinned], laidTests := true, laidLooks := .later }
def MachineSingleCardSaid : Prop := Claim7.holds Tryz.pinned (.plain (OpenSpec.ofChange machineSingleSpec)) machineSingleCard

/-- THE TIED CARD OF 'magnetolaw13.MachineSteps'. -/
def machineStepsCard : Claim7 := { stood := { row := machineStepsRow, standIns := [], harness := (true, "760e714821c91dc110b74832b70f92a0658ddeca8d2356503c87352349a5be13"), looks := true }, kinds := [], alts := [], laidByText := true, laidKinds := [.data, .data, .data, .data, .sentinel, .sentinel, .pinned], laidTests := true, laidLooks := .later }
def MachineStepsCardSaid : Prop := Claim7.holds Tryz.pinned (.plain (OpenSpec.ofChange machineStepsSpec)) machineStepsCard

/-- THE TIED CARD OF 'magnetolaw13.MachineLocal'. -/
def machineLocalCard : Claim7 := { stood := { row := machineLocalRow, standIns := [], harness := (true, "760e714821c91dc110b74832b70f92a0658ddeca8d2356503c87352349a5be13"), looks := true }, kinds := [], alts := [], laidByText := true, laidKinds := [.data, .data, .data, .data, .sentinel, .sentinel, .pinned], laidTests := true, laidLooks := .later }
def MachineLocalCardSaid : Prop := Claim7.holds Tryz.pinned (.plain (OpenSpec.ofChange machineLocalSpec)) machineLocalCard

/-- THE SECOND FORM's CARD OF 'magnetolaw13.MachineRuns'. -/
def machineRunsUptoCard : Claim7 := { stood := { row := machineRunsUptoRow, standIns := [], harness := (true, "760e714821c91dc110b74832b70f92a0658ddeca8d2356503c87352349a5be13"), looks := true }, kinds := [], alts := [], laidByText := true, laidKinds := [.data, .data, .data, .data, .sentinel, .sentinel, .pinned], laidTests := true, laidLooks := .later }
def MachineRunsUptoCardSaid : Prop := Claim7.holds Tryz.pinned (.plain (OpenSpec.upto machineRunsSpec)) machineRunsUptoCard

/-- THE SECOND FORM's CARD OF 'magnetolaw13.MachineSingle'. -/
def machineSingleUptoCard : Claim7 := { stood := { row := machineSingleUptoRow, standIns := [], harness := (true, "760e714821c91dc110b74832b70f92a0658ddeca8d2356503c87352349a5be13"), looks := true }, kinds := [], alts := [], laidByText := true, laidKinds := [.data, .data, .data, .data, .sentinel, .sentinel, .pinned], laidTests := true, laidLooks := .later }
def MachineSingleUptoCardSaid : Prop := Claim7.holds Tryz.pinned (.plain (OpenSpec.upto machineSingleSpec)) machineSingleUptoCard

/-- THE SECOND FORM's CARD OF 'magnetolaw13.MachineSteps'. -/
def machineStepsUptoCard : Claim7 := { stood := { row := machineStepsUptoRow, standIns := [], harness := (true, "760e714821c91dc110b74832b70f92a0658ddeca8d2356503c87352349a5be13"), looks := true }, kinds := [], alts := [], laidByText := true, laidKinds := [.data, .data, .data, .data, .sentinel, .sentinel, .pinned], laidTests := true, laidLooks := .later }
def MachineStepsUptoCardSaid : Prop := Claim7.holds Tryz.pinned (.plain (OpenSpec.upto machineStepsSpec)) machineStepsUptoCard

/-- THE SECOND FORM's CARD OF 'magnetolaw13.MachineLocal'. -/
def machineLocalUptoCard : Claim7 := { stood := { row := machineLocalUptoRow, standIns := [], harness := (true, "760e714821c91dc110b74832b70f92a0658ddeca8d2356503c87352349a5be13"), looks := true }, kinds := [], alts := [], laidByText := true, laidKinds := [.data, .data, .data, .data, .sentinel, .sentinel, .pinned], laidTests := true, laidLooks := .later }
def MachineLocalUptoCardSaid : Prop := Claim7.holds Tryz.pinned (.plain (OpenSpec.upto machineLocalSpec)) machineLocalUptoCard
end Rows
end Go.Proofs.YtaoolgcddapegaaGreatDoor
