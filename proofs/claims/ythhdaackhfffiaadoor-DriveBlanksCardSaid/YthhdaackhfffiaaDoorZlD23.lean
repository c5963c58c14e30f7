/- Walks of functions of this seat, printed by a program over the engine. Conditions: as each theorem says. -/
import Derived.Test.YthhdaackhfffiaaDoorZlD22
namespace Go.Proofs.YthhdaackhfffiaaDoor
open Go.Eng Go.RowKit
set_option linter.unusedSimpArgs false
set_option linter.unusedVariables false
theorem hb3 : HasBody Tryd.prog 3 := fun _ _ => by kernel_rfl
end Go.Proofs.YthhdaackhfffiaaDoor

