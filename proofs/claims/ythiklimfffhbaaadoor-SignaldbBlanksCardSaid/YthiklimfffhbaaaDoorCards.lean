/-
  DERIVED. GIVEN WITH THE SEED: THE CARDS: each row of YthiklimfffhbaaaDoorRows.lean that lists a variable, with what it lists TIED to the program's text (the seventh form; the later family's looks); each row that meets fmt, with fmt's text TOLD by the authors' own Lean function (tested against real Go, not proved from fmt's source: count such statements apart). THE CARD IS WHAT COUNTS. Prove the row's statement (the work); the ties are given (YthiklimfffhbaaaDoorTie.lean); close each card by the builder's one call (the guide's Derived/Test/ToyasCard.lean, 'card_holds'). Laid BY PROGRAM, IN A SANDBOX (cutbox-door.mjs). By AI agents, Wed Nov 11 2026. No macro, syntax, notation, axiom, sorry.
-/
import Derived.Test.YthiklimfffhbaaaDoorRows
import GoSem.ClaimSeven
namespace Go.Proofs.YthiklimfffhbaaaDoor
namespace Rows

/-- THE TIED CARD OF 'magnetolaw42.SignaldbTexts'. -/
def signaldbTextsCard : Claim7 := { stood := { row := signaldbTextsRow, standIns := [], harness := (true, "44903ffafba81fbfbebc1da7cb9a2325c5735e6bc565cfc92e2425e43c85591e"), looks := true }, kinds := [], alts := [], laidByText := true, laidKinds := [.data, .data, .data], laidTests := true, laidLooks := .later }
def SignaldbTextsCardSaid : Prop := Claim7.holds Tryd.pinned (.plain (OpenSpec.ofChange signaldbTextsSpec)) signaldbTextsCard

/-- THE TIED CARD OF 'magnetolaw42.SignaldbParses'. -/
def signaldbParsesCard : Claim7 := { stood := { row := signaldbParsesRow, standIns := [], harness := (true, "44903ffafba81fbfbebc1da7cb9a2325c5735e6bc565cfc92e2425e43c85591e"), looks := true }, kinds := [], alts := [], laidByText := true, laidKinds := [.data, .data, .data, .data, .sentinel, .sentinel, .pinned], laidTests := true, laidLooks := .later }
def SignaldbParsesCardSaid : Prop := Claim7.holds Tryd.pinned (.plain (OpenSpec.ofChange signaldbParsesSpec)) signaldbParsesCard

/-- THE TIED CARD OF 'magnetolaw42.SignaldbBack'. -/
def signaldbBackCard : Claim7 := { stood := { row := signaldbBackRow, standIns := [], harness := (true, "44903ffafba81fbfbebc1da7cb9a2325c5735e6bc565cfc92e2425e43c85591e"), looks := true }, kinds := [], alts := [], laidByText := true, laidKinds := [.data, .data, .data, .data, .sentinel, .sentinel, .pinned], laidTests := true, laidLooks := .later }
def SignaldbBackCardSaid : Prop := Claim7.holds Tryd.pinned (.plain (OpenSpec.ofChange signaldbBackSpec)) signaldbBackCard

/-- THE TIED CARD OF 'magnetolaw42.SignaldbBlanks'. -/
def signaldbBlanksCard : Claim7 := { stood := { row := signaldbBlanksRow, standIns := [], harness := (true, "44903ffafba81fbfbebc1da7cb9a2325c5735e6bc565cfc92e2425e43c85591e"), looks := true }, kinds := [], alts := [], laidByText := true, laidKinds := [.data, .data, .data, .data, .sentinel, .sentinel, .pinned], laidTests := true, laidLooks := .later }
def SignaldbBlanksCardSaid : Prop := Claim7.holds Tryd.pinned (.plain (OpenSpec.ofChange signaldbBlanksSpec)) signaldbBlanksCard

/-- THE SECOND FORM's CARD OF 'magnetolaw42.SignaldbTexts'. -/
def signaldbTextsUptoCard : Claim7 := { stood := { row := signaldbTextsUptoRow, standIns := [], harness := (true, "44903ffafba81fbfbebc1da7cb9a2325c5735e6bc565cfc92e2425e43c85591e"), looks := true }, kinds := [], alts := [], laidByText := true, laidKinds := [.data, .data, .data], laidTests := true, laidLooks := .later }
def SignaldbTextsUptoCardSaid : Prop := Claim7.holds Tryd.pinned (.plain (OpenSpec.upto signaldbTextsSpec)) signaldbTextsUptoCard

/-- THE SECOND FORM's CARD OF 'magnetolaw42.SignaldbParses'. -/
def signaldbParsesUptoCard : Claim7 := { stood := { row := signaldbParsesUptoRow, standIns := [], harness := (true, "44903ffafba81fbfbebc1da7cb9a2325c5735e6bc565cfc92e2425e43c85591e"), looks := true }, kinds := [], alts := [], laidByText := true, laidKinds := [.data, .data, .data, .data, .sentinel, .sentinel, .pinned], laidTests := true, laidLooks := .later }
def SignaldbParsesUptoCardSaid : Prop := Claim7.holds Tryd.pinned (.plain (OpenSpec.upto signaldbParsesSpec)) signaldbParsesUptoCard

/-- THE SECOND FORM's CARD OF 'magnetolaw42.SignaldbBack'. -/
def signaldbBackUptoCard : Claim7 := { stood := { row := signaldbBackUptoRow, standIns := [], harness := (true, "44903ffafba81fbfbebc1da7cb9a2325c5735e6bc565cfc92e2425e43c85591e"), looks := true }, kinds := [], alts := [], laidByText := true, laidKinds := [.data, .data, .data, .data, .sentinel, .sentinel, .pinned], laidTests := true, laidLooks := .later }
def SignaldbBackUptoCardSaid : Prop := Claim7.holds Tryd.pinned (.plain (OpenSpec.upto signaldbBackSpec)) signaldbBackUptoCard

/-- THE SECOND FORM's CARD OF 'magnetolaw42.SignaldbBlanks'. -/
def signaldbBlanksUptoCard : Claim7 := { stood := { row := signaldbBlanksUptoRow, standIns := [], harness := (true, "44903ffafba81fbfbebc1da7cb9a2325c5735e6bc565cfc92e2425e43c85591e"), looks := true }, kinds := [], alts := [], laidByText := true, laidKinds := [.data, .data, .data, .data, .sentinel, .sentinel, .pinned], laidTests := true, laidLooks := .later }
def SignaldbBlanksUptoCardSaid : Prop := Claim7.holds Tryd.pinned (.plain (OpenSpec.upto signaldbBlanksSpec)) signaldbBlanksUptoCard
end Rows
end Go.Proofs.YthiklimfffhbaaaDoor
