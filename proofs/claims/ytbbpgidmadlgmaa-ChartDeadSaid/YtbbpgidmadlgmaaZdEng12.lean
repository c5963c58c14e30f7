/- The proof engine, twelfth part: a text's lines (strings.Split), what comes before a separator (strings.Cut); a law's form with the world's shape kept. Conditions: none; it is generic in the program. -/
import Derived.Test.YtbbpgidmadlgmaaZdEng11
import Derived.Lib.SplitLaws
import Derived.Lib.IndexBytes
import Derived.Lib.IndexMore
import Derived.HandedShaped
import Derived.Shelf.Vars
namespace Go.Eng
set_option linter.unusedSimpArgs false
set_option linter.unusedVariables false
open Go.RowKit
variable {P : Program} {f : FuncId} {N : Nat} {R : Value → World → Prop}

/-- a variable holds some number -/
def IntW (w : World) (g : Nat) (k : IntKind) : Prop := ∃ m, w.cell? ⟨g, 0, none⟩ = some (.int k m)
theorem IntW.sep {w w' : World} {L : List Claim} {g : Nat} {k : IntKind} (h : IntW w g k) (S : Sep w L w') : IntW w' g k := by
  obtain ⟨m, h1⟩ := h
  exact ⟨m, S.cell h1⟩

/-! ### a list of bytes, split at a byte -/

end Go.Eng

