/-
  DERIVED. GIVEN WITH THE SEED: THE CARDS: each row of YtdilhoibcbihlaaDoorRows.lean that lists a variable, with what it lists TIED to the program's text (the seventh form; the later family's looks); each row that meets fmt, with fmt's text TOLD by the authors' own Lean function (tested against real Go, not proved from fmt's source: count such statements apart). THE CARD IS WHAT COUNTS. Prove the row's statement (the work); the ties are given (YtdilhoibcbihlaaDoorTie.lean); close each card by the builder's one call (the guide's Derived/Test/ToyasCard.lean, 'card_holds'). Laid BY PROGRAM, IN A SANDBOX (cutbox-door.mjs). By AI agents, Wed Nov 11 2026. No macro, syntax, notation, axiom, sorry.
-/
import Derived.Test.YtdilhoibcbihlaaDoorRows
import GoSem.ClaimSeven
namespace Go.Proofs.YtdilhoibcbihlaaDoor
namespace Rows

/-- THE TIED CARD OF 'magnetolaw05.CurveInverses'. -/
def curveInversesCard : Claim7 := { stood := { row := curveInversesRow, standIns := [], harness := (true, "6daa0ef3024de62495e2e604f1bda261b42bd14130864e47cba5c3928014b078"), looks := false }, kinds := [], alts := [], laidByText := true, laidKinds := [.data, .data, .data], laidTests := true, laidLooks := .later }
def CurveInversesCardSaid : Prop := Claim7.holds Tryd.pinned (.plain (OpenSpec.ofChange curveInversesSpec)) curveInversesCard

/-- THE TIED CARD OF 'magnetolaw05.CurveUndone'. -/
def curveUndoneCard : Claim7 := { stood := { row := curveUndoneRow, standIns := [], harness := (true, "6daa0ef3024de62495e2e604f1bda261b42bd14130864e47cba5c3928014b078"), looks := false }, kinds := [], alts := [], laidByText := true, laidKinds := [.data, .data, .data], laidTests := true, laidLooks := .later }
def CurveUndoneCardSaid : Prop := Claim7.holds Tryd.pinned (.plain (OpenSpec.ofChange curveUndoneSpec)) curveUndoneCard

/-- THE TIED CARD OF 'magnetolaw05.CurveContains'. -/
def curveContainsCard : Claim7 := { stood := { row := curveContainsRow, standIns := [], harness := (true, "6daa0ef3024de62495e2e604f1bda261b42bd14130864e47cba5c3928014b078"), looks := false }, kinds := [], alts := [], laidByText := true, laidKinds := [.data, .data, .data], laidTests := true, laidLooks := .later }
def CurveContainsCardSaid : Prop := Claim7.holds Tryd.pinned (.plain (OpenSpec.ofChange curveContainsSpec)) curveContainsCard

/-- THE TIED CARD OF 'magnetolaw05.CurveNodes'. -/
def curveNodesCard : Claim7 := { stood := { row := curveNodesRow, standIns := [], harness := (true, "6daa0ef3024de62495e2e604f1bda261b42bd14130864e47cba5c3928014b078"), looks := false }, kinds := [], alts := [], laidByText := true, laidKinds := [.data, .data, .data], laidTests := true, laidLooks := .later }
def CurveNodesCardSaid : Prop := Claim7.holds Tryd.pinned (.plain (OpenSpec.ofChange curveNodesSpec)) curveNodesCard

/-- THE TIED CARD OF 'magnetolaw05.CurveValues'. -/
def curveValuesCard : Claim7 := { stood := { row := curveValuesRow, standIns := [], harness := (true, "6daa0ef3024de62495e2e604f1bda261b42bd14130864e47cba5c3928014b078"), looks := false }, kinds := [], alts := [], laidByText := true, laidKinds := [.data, .data, .data], laidTests := true, laidLooks := .later }
def CurveValuesCardSaid : Prop := Claim7.holds Tryd.pinned (.plain (OpenSpec.ofChange curveValuesSpec)) curveValuesCard

/-- THE TIED CARD OF 'magnetolaw05.CurveChanges'. -/
def curveChangesCard : Claim7 := { stood := { row := curveChangesRow, standIns := [], harness := (true, "6daa0ef3024de62495e2e604f1bda261b42bd14130864e47cba5c3928014b078"), looks := false }, kinds := [], alts := [], laidByText := true, laidKinds := [.data, .data, .data], laidTests := true, laidLooks := .later }
def CurveChangesCardSaid : Prop := Claim7.holds Tryd.pinned (.plain (OpenSpec.ofChange curveChangesSpec)) curveChangesCard

/-- THE TIED CARD OF 'magnetolaw05.CurveLinear'. -/
def curveLinearCard : Claim7 := { stood := { row := curveLinearRow, standIns := [], harness := (true, "6daa0ef3024de62495e2e604f1bda261b42bd14130864e47cba5c3928014b078"), looks := false }, kinds := [], alts := [], laidByText := true, laidKinds := [.data, .data, .data], laidTests := true, laidLooks := .later }
def CurveLinearCardSaid : Prop := Claim7.holds Tryd.pinned (.plain (OpenSpec.ofChange curveLinearSpec)) curveLinearCard

/-- THE SECOND FORM's CARD OF 'magnetolaw05.CurveInverses'. -/
def curveInversesUptoCard : Claim7 := { stood := { row := curveInversesUptoRow, standIns := [], harness := (true, "6daa0ef3024de62495e2e604f1bda261b42bd14130864e47cba5c3928014b078"), looks := false }, kinds := [], alts := [], laidByText := true, laidKinds := [.data, .data, .data], laidTests := true, laidLooks := .later }
def CurveInversesUptoCardSaid : Prop := Claim7.holds Tryd.pinned (.plain (OpenSpec.upto curveInversesSpec)) curveInversesUptoCard

/-- THE SECOND FORM's CARD OF 'magnetolaw05.CurveUndone'. -/
def curveUndoneUptoCard : Claim7 := { stood := { row := curveUndoneUptoRow, standIns := [], harness := (true, "6daa0ef3024de62495e2e604f1bda261b42bd14130864e47cba5c3928014b078"), looks := false }, kinds := [], alts := [], laidByText := true, laidKinds := [.data, .data, .data], laidTests := true, laidLooks := .later }
def CurveUndoneUptoCardSaid : Prop := Claim7.holds Tryd.pinned (.plain (OpenSpec.upto curveUndoneSpec)) curveUndoneUptoCard

/-- THE SECOND FORM's CARD OF 'magnetolaw05.CurveContains'. -/
def curveContainsUptoCard : Claim7 := { stood := { row := curveContainsUptoRow, standIns := [], harness := (true, "6daa0ef3024de62495e2e604f1bda261b42bd14130864e47cba5c3928014b078"), looks := false }, kinds := [], alts := [], laidByText := true, laidKinds := [.data, .data, .data], laidTests := true, laidLooks := .later }
def CurveContainsUptoCardSaid : Prop := Claim7.holds Tryd.pinned (.plain (OpenSpec.upto curveContainsSpec)) curveContainsUptoCard

/-- THE SECOND FORM's CARD OF 'magnetolaw05.CurveNodes'. -/
def curveNodesUptoCard : Claim7 := { stood := { row := curveNodesUptoRow, standIns := [], harness := (true, "6daa0ef3024de62495e2e604f1bda261b42bd14130864e47cba5c3928014b078"), looks := false }, kinds := [], alts := [], laidByText := true, laidKinds := [.data, .data, .data], laidTests := true, laidLooks := .later }
def CurveNodesUptoCardSaid : Prop := Claim7.holds Tryd.pinned (.plain (OpenSpec.upto curveNodesSpec)) curveNodesUptoCard

/-- THE SECOND FORM's CARD OF 'magnetolaw05.CurveValues'. -/
def curveValuesUptoCard : Claim7 := { stood := { row := curveValuesUptoRow, standIns := [], harness := (true, "6daa0ef3024de62495e2e604f1bda261b42bd14130864e47cba5c3928014b078"), looks := false }, kinds := [], alts := [], laidByText := true, laidKinds := [.data, .data, .data], laidTests := true, laidLooks := .later }
def CurveValuesUptoCardSaid : Prop := Claim7.holds Tryd.pinned (.plain (OpenSpec.upto curveValuesSpec)) curveValuesUptoCard

/-- THE SECOND FORM's CARD OF 'magnetolaw05.CurveChanges'. -/
def curveChangesUptoCard : Claim7 := { stood := { row := curveChangesUptoRow, standIns := [], harness := (true, "6daa0ef3024de62495e2e604f1bda261b42bd14130864e47cba5c3928014b078"), looks := false }, kinds := [], alts := [], laidByText := true, laidKinds := [.data, .data, .data], laidTests := true, laidLooks := .later }
def CurveChangesUptoCardSaid : Prop := Claim7.holds Tryd.pinned (.plain (OpenSpec.upto curveChangesSpec)) curveChangesUptoCard

/-- THE SECOND FORM's CARD OF 'magnetolaw05.CurveLinear'. -/
def curveLinearUptoCard : Claim7 := { stood := { row := curveLinearUptoRow, standIns := [], harness := (true, "6daa0ef3024de62495e2e604f1bda261b42bd14130864e47cba5c3928014b078"), looks := false }, kinds := [], alts := [], laidByText := true, laidKinds := [.data, .data, .data], laidTests := true, laidLooks := .later }
def CurveLinearUptoCardSaid : Prop := Claim7.holds Tryd.pinned (.plain (OpenSpec.upto curveLinearSpec)) curveLinearUptoCard
end Rows
end Go.Proofs.YtdilhoibcbihlaaDoor
