/- Walks of functions of this seat, printed by a program over the engine. Conditions: as each theorem says. -/
import Derived.Test.YtbbpgidmadlgmaaZxC3
namespace Go.Proofs.Ytbbpgidmadlgmaa
open Go.Eng Go.RowKit
set_option linter.unusedSimpArgs false
set_option linter.unusedVariables false
theorem step_moves (c : Cht) (s a x : Int) : (stepI c s a x < 0 → stepS c s a x = s ∧ stepA c s a x = min (a + 1) 1000) ∧ (¬ stepI c s a x < 0 → stepS c s a x = (c.gMoves_l.getD (stepI c s a x).toNat (⟨0, 0, 0, 0, 0⟩ : Mv)).gTo ∧ stepA c s a x = 0) := by
  constructor <;> intro h
  · unfold stepS stepA; rw [if_pos h, if_pos h]; exact ⟨rfl, rfl⟩
  · unfold stepS stepA; rw [if_neg h, if_neg h]; exact ⟨rfl, rfl⟩
end Go.Proofs.Ytbbpgidmadlgmaa

