/-
  DERIVED. GIVEN WITH THE SEED: THE CARDS: each row of YtlklealllohmgaaDoorRows.lean that lists a variable, with what it lists TIED to the program's text (the seventh form; the later family's looks); each row that meets fmt, with fmt's text TOLD by the authors' own Lean function (tested against real Go, not proved from fmt's source: count such statements apart). THE CARD IS WHAT COUNTS. Prove the row's statement (the work); the ties are given (YtlklealllohmgaaDoorTie.lean); close each card by the builder's one call (the guide's Derived/Test/ToyasCard.lean, 'card_holds'). Laid BY PROGRAM, IN A SANDBOX (cutbox-door.mjs). By AI agents, Wed Nov 11 2026. No macro, syntax, notation, axiom, sorry.
-/
import Derived.Test.YtlklealllohmgaaDoorRows
import GoSem.ClaimSeven
namespace Go.Proofs.YtlklealllohmgaaDoor
namespace Rows

/-- THE TIED CARD OF 'magnetolaw09.BlocklexTokens'. -/
def blocklexTokensCard : Claim7 := { stood := { row := blocklexTokensRow, standIns := [], harness := (true, "39b53774c980ee79d6a74dff35a6f7a9f8ee4c331b5353cdfb9713be91b346e6"), looks := true }, kinds := [], alts := [], laidByText := true, laidKinds := [.data, .data, .data, .data, .sentinel, .sentinel, .pinned], laidTests := true, laidLooks := .later }
def BlocklexTokensCardSaid : Prop := Claim7.holds Tryd.pinned (.plain (OpenSpec.ofChange blocklexTokensSpec)) blocklexTokensCard

/-- THE TIED CARD OF 'magnetolaw09.BlocklexPlaces'. -/
def blocklexPlacesCard : Claim7 := { stood := { row := blocklexPlacesRow, standIns := [], harness := (true, "39b53774c980ee79d6a74dff35a6f7a9f8ee4c331b5353cdfb9713be91b346e6"), looks := true }, kinds := [], alts := [], laidByText := true, laidKinds := [.data, .data, .data, .data, .sentinel, .sentinel, .pinned], laidTests := true, laidLooks := .later }
def BlocklexPlacesCardSaid : Prop := Claim7.holds Tryd.pinned (.plain (OpenSpec.ofChange blocklexPlacesSpec)) blocklexPlacesCard

/-- THE TIED CARD OF 'magnetolaw09.BlocklexNumbers'. -/
def blocklexNumbersCard : Claim7 := { stood := { row := blocklexNumbersRow, standIns := [], harness := (true, "39b53774c980ee79d6a74dff35a6f7a9f8ee4c331b5353cdfb9713be91b346e6"), looks := true }, kinds := [], alts := [], laidByText := true, laidKinds := [.data, .data, .data, .data, .sentinel, .sentinel, .pinned], laidTests := true, laidLooks := .later }
def BlocklexNumbersCardSaid : Prop := Claim7.holds Tryd.pinned (.plain (OpenSpec.ofChange blocklexNumbersSpec)) blocklexNumbersCard

/-- THE TIED CARD OF 'magnetolaw09.BlocklexKinds'. -/
def blocklexKindsCard : Claim7 := { stood := { row := blocklexKindsRow, standIns := [], harness := (true, "39b53774c980ee79d6a74dff35a6f7a9f8ee4c331b5353cdfb9713be91b346e6"), looks := true }, kinds := [], alts := [], laidByText := true, laidKinds := [.data, .data, .data, .data, .sentinel, .sentinel, .pinned], laidTests := true, laidLooks := .later }
def BlocklexKindsCardSaid : Prop := Claim7.holds Tryd.pinned (.plain (OpenSpec.ofChange blocklexKindsSpec)) blocklexKindsCard

/-- THE TIED CARD OF 'magnetolaw09.BlocklexBack'. -/
def blocklexBackCard : Claim7 := { stood := { row := blocklexBackRow, standIns := [], harness := (true, "39b53774c980ee79d6a74dff35a6f7a9f8ee4c331b5353cdfb9713be91b346e6"), looks := true }, kinds := [], alts := [], laidByText := true, laidKinds := [.data, .data, .data, .data, .sentinel, .sentinel, .pinned], laidTests := true, laidLooks := .later }
def BlocklexBackCardSaid : Prop := Claim7.holds Tryd.pinned (.plain (OpenSpec.ofChange blocklexBackSpec)) blocklexBackCard

/-- THE TIED CARD OF 'magnetolaw09.BlocklexWords'. -/
def blocklexWordsCard : Claim7 := { stood := { row := blocklexWordsRow, standIns := [], harness := (true, "39b53774c980ee79d6a74dff35a6f7a9f8ee4c331b5353cdfb9713be91b346e6"), looks := true }, kinds := [], alts := [], laidByText := true, laidKinds := [.data, .data, .data, .data, .sentinel, .sentinel, .pinned], laidTests := true, laidLooks := .later }
def BlocklexWordsCardSaid : Prop := Claim7.holds Tryd.pinned (.plain (OpenSpec.ofChange blocklexWordsSpec)) blocklexWordsCard

/-- THE SECOND FORM's CARD OF 'magnetolaw09.BlocklexTokens'. -/
def blocklexTokensUptoCard : Claim7 := { stood := { row := blocklexTokensUptoRow, standIns := [], harness := (true, "39b53774c980ee79d6a74dff35a6f7a9f8ee4c331b5353cdfb9713be91b346e6"), looks := true }, kinds := [], alts := [], laidByText := true, laidKinds := [.data, .data, .data, .data, .sentinel, .sentinel, .pinned], laidTests := true, laidLooks := .later }
def BlocklexTokensUptoCardSaid : Prop := Claim7.holds Tryd.pinned (.plain (OpenSpec.upto blocklexTokensSpec)) blocklexTokensUptoCard

/-- THE SECOND FORM's CARD OF 'magnetolaw09.BlocklexPlaces'. -/
def blocklexPlacesUptoCard : Claim7 := { stood := { row := blocklexPlacesUptoRow, standIns := [], harness := (true, "39b53774c980ee79d6a74dff35a6f7a9f8ee4c331b5353cdfb9713be91b346e6"), looks := true }, kinds := [], alts := [], laidByText := true, laidKinds := [.data, .data, .data, .data, .sentinel, .sentinel, .pinned], laidTests := true, laidLooks := .later }
def BlocklexPlacesUptoCardSaid : Prop := Claim7.holds Tryd.pinned (.plain (OpenSpec.upto blocklexPlacesSpec)) blocklexPlacesUptoCard

/-- THE SECOND FORM's CARD OF 'magnetolaw09.BlocklexNumbers'. -/
def blocklexNumbersUptoCard : Claim7 := { stood := { row := blocklexNumbersUptoRow, standIns := [], harness := (true, "39b53774c980ee79d6a74dff35a6f7a9f8ee4c331b5353cdfb9713be91b346e6"), looks := true }, kinds := [], alts := [], laidByText := true, laidKinds := [.data, .data, .data, .data, .sentinel, .sentinel, .pinned], laidTests := true, laidLooks := .later }
def BlocklexNumbersUptoCardSaid : Prop := Claim7.holds Tryd.pinned (.plain (OpenSpec.upto blocklexNumbersSpec)) blocklexNumbersUptoCard

/-- THE SECOND FORM's CARD OF 'magnetolaw09.BlocklexKinds'. -/
def blocklexKindsUptoCard : Claim7 := { stood := { row := blocklexKindsUptoRow, standIns := [], harness := (true, "39b53774c980ee79d6a74dff35a6f7a9f8ee4c331b5353cdfb9713be91b346e6"), looks := true }, kinds := [], alts := [], laidByText := true, laidKinds := [.data, .data, .data, .data, .sentinel, .sentinel, .pinned], laidTests := true, laidLooks := .later }
def BlocklexKindsUptoCardSaid : Prop := Claim7.holds Tryd.pinned (.plain (OpenSpec.upto blocklexKindsSpec)) blocklexKindsUptoCard

/-- THE SECOND FORM's CARD OF 'magnetolaw09.BlocklexBack'. -/
def blocklexBackUptoCard : Claim7 := { stood := { row := blocklexBackUptoRow, standIns := [], harness := (true, "39b53774c980ee79d6a74dff35a6f7a9f8ee4c331b5353cdfb9713be91b346e6"), looks := true }, kinds := [], alts := [], laidByText := true, laidKinds := [.data, .data, .data, .data, .sentinel, .sentinel, .pinned], laidTests := true, laidLooks := .later }
def BlocklexBackUptoCardSaid : Prop := Claim7.holds Tryd.pinned (.plain (OpenSpec.upto blocklexBackSpec)) blocklexBackUptoCard

/-- THE SECOND FORM's CARD OF 'magnetolaw09.BlocklexWords'. -/
def blocklexWordsUptoCard : Claim7 := { stood := { row := blocklexWordsUptoRow, standIns := [], harness := (true, "39b53774c980ee79d6a74dff35a6f7a9f8ee4c331b5353cdfb9713be91b346e6"), looks := true }, kinds := [], alts := [], laidByText := true, laidKinds := [.data, .data, .data, .data, .sentinel, .sentinel, .pinned], laidTests := true, laidLooks := .later }
def BlocklexWordsUptoCardSaid : Prop := Claim7.holds Tryd.pinned (.plain (OpenSpec.upto blocklexWordsSpec)) blocklexWordsUptoCard
end Rows
end Go.Proofs.YtlklealllohmgaaDoor
