/- Walks of functions of this seat, printed by a program over the engine. Conditions: as each theorem says. -/
import Derived.Test.YtbbpgidmadlgmaaZdC3
namespace Go.Proofs.Ytbbpgidmadlgmaa
open Go.Eng Go.RowKit
set_option linter.unusedSimpArgs false
set_option linter.unusedVariables false
theorem step_moves (c : Cht) (s a x : Int) : (stepI c s a x < 0 → stepS c s a x = s ∧ stepA c s a x = min (a + 1) 1000) ∧ (¬ stepI c s a x < 0 → stepS c s a x = (c.gMoves_l.getD (stepI c s a x).toNat (⟨0, 0, 0, 0, 0⟩ : Mv)).gTo ∧ stepA c s a x = 0) := by
  constructor <;> intro h
  · unfold stepS stepA; rw [if_pos h, if_pos h]; exact ⟨rfl, rfl⟩
  · unfold stepS stepA; rw [if_neg h, if_neg h]; exact ⟨rfl, rfl⟩
theorem run_inv {c : Cht} {l : List Int} (h : runE c l = 0) : validC c = true ∧ l.length ≤ 1000 ∧ (∀ j, j < l.length → insideB c (l.getD j 0) = true) ∧ runO c l = outF c l l.length := by
  have h1 : validC c = true := by
    cases hv : validC c with
    | true => rfl
    | false => rw [run_e1 hv] at h; exact absurd h (by decide)
  have h2 : l.length ≤ 1000 := by
    rcases Nat.lt_or_ge 1000 l.length with h2 | h2
    · rw [run_e5 h1 h2] at h; exact absurd h (by decide)
    · exact h2
  have h3 : (l.any fun x => !insideB c x) = false := by
    cases hv : (l.any fun x => !insideB c x) with
    | false => rfl
    | true => rw [run_e2 h1 h2 hv] at h; exact absurd h (by decide)
  refine ⟨h1, h2, fun j hj => ?_, (run_ok h1 h2 h3).2⟩
  rw [List.any_eq_false] at h3
  have := h3 (l.getD j 0) (by rw [List.getD_eq_getElem?_getD, List.getElem?_eq_getElem hj]; exact List.getElem_mem hj)
  simpa using this
end Go.Proofs.Ytbbpgidmadlgmaa

