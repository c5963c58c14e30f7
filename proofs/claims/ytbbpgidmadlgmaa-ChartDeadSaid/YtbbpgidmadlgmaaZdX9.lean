/- Walks of functions of this seat, printed by a program over the engine. Conditions: as each theorem says. -/
import Derived.Test.YtbbpgidmadlgmaaZdX8
namespace Go.Proofs.Ytbbpgidmadlgmaa
open Go.Eng Go.RowKit
set_option linter.unusedSimpArgs false
set_option linter.unusedVariables false
/-! what the reference explores -/
noncomputable def inB (P : Int → Prop) (i : Nat) : Bool := @decide (P i) (Classical.propDecidable _)
noncomputable def selL (P : Int → Prop) (n : Nat) : List Int := ((List.range n).filter (inB P)).map fun (k : Nat) => (k : Int)
theorem selL_zero (P : Int → Prop) : [] = selL P (0 : Int).toNat := rfl
theorem selL_yes {P : Int → Prop} {n : Int} {l : List Int} (h : l = selL P n.toNat) (h0 : 0 ≤ n) (hp : P n) : l ++ [n] = selL P (n + 1).toNat := by
  have e : (n.toNat : Int) = n := Int.toNat_of_nonneg h0
  have hb : inB P n.toNat = true := by unfold inB; rw [e]; exact @decide_eq_true _ (Classical.propDecidable _) hp
  rw [show (n + 1).toNat = n.toNat + 1 by omega]
  unfold selL at *
  rw [List.range_succ, List.filter_append, List.map_append, ← h]
  simp [hb, e]
theorem selL_no {P : Int → Prop} {n : Int} {l : List Int} (h : l = selL P n.toNat) (h0 : 0 ≤ n) (hp : ¬ P n) : l = selL P (n + 1).toNat := by
  have e : (n.toNat : Int) = n := Int.toNat_of_nonneg h0
  have hb : inB P n.toNat = false := by unfold inB; rw [e]; exact @decide_eq_false _ (Classical.propDecidable _) hp
  rw [show (n + 1).toNat = n.toNat + 1 by omega]
  unfold selL at *
  rw [List.range_succ, List.filter_append, List.map_append, ← h]
  simp [hb]
theorem selL_len (P : Int → Prop) (n : Nat) : (selL P n).length ≤ n := by
  unfold selL; rw [List.length_map]; exact Nat.le_trans (List.length_filter_le _ _) (by rw [List.length_range]; exact Nat.le_refl _)
theorem selL_mem {P : Int → Prop} {n : Nat} {i : Int} : i ∈ selL P n ↔ 0 ≤ i ∧ i < (n : Int) ∧ P i := by
  unfold selL
  rw [List.mem_map]
  constructor
  · rintro ⟨k, hk, rfl⟩
    rw [List.mem_filter, List.mem_range] at hk
    exact ⟨by omega, by omega, by have := hk.2; unfold inB at this; exact @of_decide_eq_true _ (Classical.propDecidable _) this⟩
  · rintro ⟨h0, h1, h2⟩
    refine ⟨i.toNat, List.mem_filter.2 ⟨List.mem_range.2 (by omega), ?_⟩, by omega⟩
    unfold inB; rw [Int.toNat_of_nonneg h0]; exact @decide_eq_true _ (Classical.propDecidable _) h2
noncomputable def reachL (c : Cht) : List Int := if validC c then selL (RS c) c.gStates_n else []
noncomputable def deadL (c : Cht) : List Int := if validC c then selL (fun i => ¬ RM c i) c.gMoves_n else []
section
variable {c : Cht} {last s a x cur : Int} {lS lM lS' lM' : List Bool} {q : List Int} {b : Bool}
end

end Go.Proofs.Ytbbpgidmadlgmaa

