/- Walks of functions of this seat, printed by a program over the engine. Conditions: as each theorem says. -/
import Derived.Test.YtdilhoibcbihlaaDoorZV17
namespace Go.Proofs.YtdilhoibcbihlaaDoor
open Go.Eng Go.RowKit
set_option linter.unusedSimpArgs false
set_option linter.unusedVariables false
theorem at_good {c : Crv} (h : validV c = true) (x : Int) : atV c x = valueV c x := by unfold atV; rw [h]; rfl
theorem hb3 : HasBody Tryd.prog 3 := fun _ _ => by kernel_rfl
end Go.Proofs.YtdilhoibcbihlaaDoor

