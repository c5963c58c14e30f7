/- Walks of functions of this seat, printed by a program over the engine. Conditions: as each theorem says. -/
import Derived.Test.YthiklimfffhbaaaDoorZlS2
namespace Go.Proofs.YthiklimfffhbaaaDoor
open Go.Eng Go.RowKit
set_option linter.unusedSimpArgs false
set_option linter.unusedVariables false
theorem iter_bd (m : Bool) {b : Int} (hb : 0 ≤ b ∧ b ≤ 63) (k : Nat) : 0 ≤ iterB m b k ∧ iterB m b k ≤ 63 + 15 * k ∧ b / 8 ≤ iterB m b k / 8 := by
  induction k with
  | zero => simp [iterB]; omega
  | succ k ih => rw [iterB]; unfold nextB; split <;> (try split) <;> omega
end Go.Proofs.YthiklimfffhbaaaDoor

