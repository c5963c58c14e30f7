/- Walks of functions of this seat, printed by a program over the engine. Conditions: as each theorem says. -/
import Derived.Test.YthhdaackhfffiaaDoorZlD21
namespace Go.Proofs.YthhdaackhfffiaaDoor
open Go.Eng Go.RowKit
set_option linter.unusedSimpArgs false
set_option linter.unusedVariables false
theorem valid_of_texte {l : List Dr} (h : textE l = 0) : validD l = true := by
  cases hv : validD l with
  | true => rfl
  | false => rw [texte_no hv] at h; exact absurd h (by decide)
end Go.Proofs.YthhdaackhfffiaaDoor

