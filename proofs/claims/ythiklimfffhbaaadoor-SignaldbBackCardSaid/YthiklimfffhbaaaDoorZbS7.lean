/- Walks of functions of this seat, printed by a program over the engine. Conditions: as each theorem says. -/
import Derived.Test.YthiklimfffhbaaaDoorZbS6
namespace Go.Proofs.YthiklimfffhbaaaDoor
open Go.Eng Go.RowKit
set_option linter.unusedSimpArgs false
set_option linter.unusedVariables false
theorem fault_zero {d : Db} (h : (faultF d).2 = 0) : ∀ k, k < d.gFrames_l.length → headErr d k = 0 ∧ ∀ j, j < (d.gFrames_l.getD k frm0).gSignals_l.length → sigErr (d.gFrames_l.getD k frm0) j = 0 := by
  intro k hk
  unfold faultF at h
  split at h
  · cases h
  · have := pick_zero h k hk
    unfold frmR at this
    split at this
    · rename_i h2; exact absurd this h2
    · rename_i h2; exact ⟨by simpa using h2, sigs_zero this⟩
theorem sig_zero {f : Frm} {k : Nat} (h : sigErr f k = 0) : sigOK (f.gSignals_l.getD k sig0) = true ∧ (∀ b ∈ sbits (f.gSignals_l.getD k sig0), outB f b = false) ∧ ∀ x ∈ f.gSignals_l.take k, lapB (f.gSignals_l.getD k sig0) x = false := by
  unfold sigErr at h
  split at h
  · omega
  rename_i h1
  split at h
  · omega
  rename_i h2
  split at h
  · omega
  rename_i h3
  simp only [Bool.not_eq_true, Bool.not_eq_false, List.any_eq_false] at h1 h2 h3
  refine ⟨h1, h2, fun x hx => ?_⟩
  have := h3 x hx
  simp only [Bool.or_eq_false_iff] at this
  exact this.2
theorem hb13 : HasBody Tryd.prog 13 := fun _ _ => by kernel_rfl
end Go.Proofs.YthiklimfffhbaaaDoor

