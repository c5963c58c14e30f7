/- Walks of functions of this seat, printed by a program over the engine. Conditions: as each theorem says. -/
import Derived.Test.YthiklimfffhbaaaDoorProg
import Derived.Test.YthiklimfffhbaaaDoorZlEng9
namespace Go.Proofs.YthiklimfffhbaaaDoor
open Go.Eng Go.RowKit
set_option linter.unusedSimpArgs false
set_option linter.unusedVariables false
theorem Tryd.mixed : Tryd.prog.follows .mixedOrders = true := by kernel_rfl
end Go.Proofs.YthiklimfffhbaaaDoor

