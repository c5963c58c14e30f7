/-
  DERIVED. GIVEN WITH THE SEED: THE CARDS: each row of YthhdaackhfffiaaDoorRows.lean that lists a variable, with what it lists TIED to the program's text (the seventh form; the later family's looks); each row that meets fmt, with fmt's text TOLD by the authors' own Lean function (tested against real Go, not proved from fmt's source: count such statements apart). THE CARD IS WHAT COUNTS. Prove the row's statement (the work); the ties are given (YthhdaackhfffiaaDoorTie.lean); close each card by the builder's one call (the guide's Derived/Test/ToyasCard.lean, 'card_holds'). Laid BY PROGRAM, IN A SANDBOX (cutbox-door.mjs). By AI agents, Wed Nov 11 2026. No macro, syntax, notation, axiom, sorry.
-/
import Derived.Test.YthhdaackhfffiaaDoorRows
import GoSem.ClaimSeven
namespace Go.Proofs.YthhdaackhfffiaaDoor
namespace Rows

/-- THE TIED CARD OF 'magnetolaw28.DriveRamps'. -/
def driveRampsCard : Claim7 := { stood := { row := driveRampsRow, standIns := [], harness := (true, "605f3e6eaf7ef3707a3d17bf984ca5b1f396e688240d07960169220b14e2553b"), looks := true }, kinds := [], alts := [], laidByText := true, laidKinds := [.data, .data, .data, .data, .sentinel, .sentinel, .pinned], laidTests := true, laidLooks := .later }
def DriveRampsCardSaid : Prop := Claim7.holds Tryd.pinned (.plain (OpenSpec.ofChange driveRampsSpec)) driveRampsCard

/-- THE TIED CARD OF 'magnetolaw28.DriveTimes'. -/
def driveTimesCard : Claim7 := { stood := { row := driveTimesRow, standIns := [], harness := (true, "605f3e6eaf7ef3707a3d17bf984ca5b1f396e688240d07960169220b14e2553b"), looks := true }, kinds := [], alts := [], laidByText := true, laidKinds := [.data, .data, .data, .data, .sentinel, .sentinel, .pinned], laidTests := true, laidLooks := .later }
def DriveTimesCardSaid : Prop := Claim7.holds Tryd.pinned (.plain (OpenSpec.ofChange driveTimesSpec)) driveTimesCard

/-- THE TIED CARD OF 'magnetolaw28.DriveTexts'. -/
def driveTextsCard : Claim7 := { stood := { row := driveTextsRow, standIns := [], harness := (true, "605f3e6eaf7ef3707a3d17bf984ca5b1f396e688240d07960169220b14e2553b"), looks := true }, kinds := [], alts := [], laidByText := true, laidKinds := [.data, .data, .data, .data, .sentinel, .sentinel, .pinned], laidTests := true, laidLooks := .later }
def DriveTextsCardSaid : Prop := Claim7.holds Tryd.pinned (.plain (OpenSpec.ofChange driveTextsSpec)) driveTextsCard

/-- THE TIED CARD OF 'magnetolaw28.DriveBack'. -/
def driveBackCard : Claim7 := { stood := { row := driveBackRow, standIns := [], harness := (true, "605f3e6eaf7ef3707a3d17bf984ca5b1f396e688240d07960169220b14e2553b"), looks := true }, kinds := [], alts := [], laidByText := true, laidKinds := [.data, .data, .data, .data, .sentinel, .sentinel, .pinned], laidTests := true, laidLooks := .later }
def DriveBackCardSaid : Prop := Claim7.holds Tryd.pinned (.plain (OpenSpec.ofChange driveBackSpec)) driveBackCard

/-- THE TIED CARD OF 'magnetolaw28.DriveBlanks'. -/
def driveBlanksCard : Claim7 := { stood := { row := driveBlanksRow, standIns := [], harness := (true, "605f3e6eaf7ef3707a3d17bf984ca5b1f396e688240d07960169220b14e2553b"), looks := true }, kinds := [], alts := [], laidByText := true, laidKinds := [.data, .data, .data, .data, .sentinel, .sentinel, .pinned], laidTests := true, laidLooks := .later }
def DriveBlanksCardSaid : Prop := Claim7.holds Tryd.pinned (.plain (OpenSpec.ofChange driveBlanksSpec)) driveBlanksCard

/-- THE SECOND FORM's CARD OF 'magnetolaw28.DriveRamps'. -/
def driveRampsUptoCard : Claim7 := { stood := { row := driveRampsUptoRow, standIns := [], harness := (true, "605f3e6eaf7ef3707a3d17bf984ca5b1f396e688240d07960169220b14e2553b"), looks := true }, kinds := [], alts := [], laidByText := true, laidKinds := [.data, .data, .data, .data, .sentinel, .sentinel, .pinned], laidTests := true, laidLooks := .later }
def DriveRampsUptoCardSaid : Prop := Claim7.holds Tryd.pinned (.plain (OpenSpec.upto driveRampsSpec)) driveRampsUptoCard

/-- THE SECOND FORM's CARD OF 'magnetolaw28.DriveTimes'. -/
def driveTimesUptoCard : Claim7 := { stood := { row := driveTimesUptoRow, standIns := [], harness := (true, "605f3e6eaf7ef3707a3d17bf984ca5b1f396e688240d07960169220b14e2553b"), looks := true }, kinds := [], alts := [], laidByText := true, laidKinds := [.data, .data, .data, .data, .sentinel, .sentinel, .pinned], laidTests := true, laidLooks := .later }
def DriveTimesUptoCardSaid : Prop := Claim7.holds Tryd.pinned (.plain (OpenSpec.upto driveTimesSpec)) driveTimesUptoCard

/-- THE SECOND FORM's CARD OF 'magnetolaw28.DriveTexts'. -/
def driveTextsUptoCard : Claim7 := { stood := { row := driveTextsUptoRow, standIns := [], harness := (true, "605f3e6eaf7ef3707a3d17bf984ca5b1f396e688240d07960169220b14e2553b"), looks := true }, kinds := [], alts := [], laidByText := true, laidKinds := [.data, .data, .data, .data, .sentinel, .sentinel, .pinned], laidTests := true, laidLooks := .later }
def DriveTextsUptoCardSaid : Prop := Claim7.holds Tryd.pinned (.plain (OpenSpec.upto driveTextsSpec)) driveTextsUptoCard

/-- THE SECOND FORM's CARD OF 'magnetolaw28.DriveBack'. -/
def driveBackUptoCard : Claim7 := { stood := { row := driveBackUptoRow, standIns := [], harness := (true, "605f3e6eaf7ef3707a3d17bf984ca5b1f396e688240d07960169220b14e2553b"), looks := true }, kinds := [], alts := [], laidByText := true, laidKinds := [.data, .data, .data, .data, .sentinel, .sentinel, .pinned], laidTests := true, laidLooks := .later }
def DriveBackUptoCardSaid : Prop := Claim7.holds Tryd.pinned (.plain (OpenSpec.upto driveBackSpec)) driveBackUptoCard

/-- THE SECOND FORM's CARD OF 'magnetolaw28.DriveBlanks'. -/
def driveBlanksUptoCard : Claim7 := { stood := { row := driveBlanksUptoRow, standIns := [], harness := (true, "605f3e6eaf7ef3707a3d17bf984ca5b1f396e688240d07960169220b14e2553b"), looks := true }, kinds := [], alts := [], laidByText := true, laidKinds := [.data, .data, .data, .data, .sentinel, .sentinel, .pinned], laidTests := true, laidLooks := .later }
def DriveBlanksUptoCardSaid : Prop := Claim7.holds Tryd.pinned (.plain (OpenSpec.upto driveBlanksSpec)) driveBlanksUptoCard
end Rows
end Go.Proofs.YthhdaackhfffiaaDoor
