/-
  DERIVED. GIVEN WITH THE SEED: THE CARDS: each row of YtadgnficogeheaaGreatDoorRows.lean that lists a variable, with what it lists TIED to the program's text (the seventh form; the later family's looks); each row that meets fmt, with fmt's text TOLD by the authors' own Lean function (tested against real Go, not proved from fmt's source: count such statements apart). THE CARD IS WHAT COUNTS. Prove the row's statement (the work); the ties are given (YtadgnficogeheaaGreatDoorTie.lean); close each card by the builder's one call (the guide's Derived/Test/ToyasCard.lean, 'card_holds'). Laid BY PROGRAM, IN A SANDBOX (cutbox-door.mjs). By AI agents, Wed Nov 11 2026. No macro, syntax, notation, axiom, sorry.
-/
import Derived.Test.YtadgnficogeheaaGreatDoorRows
import GoSem.ClaimSeven
namespace Go.Proofs.YtadgnficogeheaaGreatDoor
namespace Rows

/-- THE TIED CARD OF 'magnetolaw06.SurfaceBack'. -/
def surfaceBackCard : Claim7 := { stood := { row := surfaceBackRow, standIns := [], harness := (true, "cc82c8075264e9631be2174d577d67c33c2e30de6a7d49259c23a22e75b6fcb8"), looks := true }, kinds := [], alts := [], laidByText := true, laidKinds := [.data, .data, .data, .data, .sentinel, .sentinel, .pinned], laidTests := true, laidLooks := .later }
def SurfaceBackCardSaid : Prop := Claim7.holds Tryz.pinned (.plain (OpenSpec.ofChange surfaceBackSpec)) surfaceBackCard

/-- THE SECOND FORM's CARD OF 'magnetolaw06.SurfaceBack'. -/
def surfaceBackUptoCard : Claim7 := { stood := { row := surfaceBackUptoRow, standIns := [], harness := (true, "cc82c8075264e9631be2174d577d67c33c2e30de6a7d49259c23a22e75b6fcb8"), looks := true }, kinds := [], alts := [], laidByText := true, laidKinds := [.data, .data, .data, .data, .sentinel, .sentinel, .pinned], laidTests := true, laidLooks := .later }
def SurfaceBackUptoCardSaid : Prop := Claim7.holds Tryz.pinned (.plain (OpenSpec.upto surfaceBackSpec)) surfaceBackUptoCard
end Rows
end Go.Proofs.YtadgnficogeheaaGreatDoor
