/- Walks of functions of this seat, printed by a program over the engine. Conditions: as each theorem says. -/
import Derived.Test.YthiklimfffhbaaaDoorZlP15
namespace Go.Proofs.YthiklimfffhbaaaDoor
open Go.Eng Go.RowKit
set_option linter.unusedSimpArgs false
set_option linter.unusedVariables false
theorem nb {a u : Bool} (h : (!a) = u) : a = !u := by cases a <;> subst h <;> rfl
end Go.Proofs.YthiklimfffhbaaaDoor

