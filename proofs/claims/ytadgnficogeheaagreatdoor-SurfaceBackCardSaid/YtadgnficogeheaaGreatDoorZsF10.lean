/- Walks of functions of this seat, printed by a program over the engine. Conditions: as each theorem says. -/
import Derived.Test.YtadgnficogeheaaGreatDoorZsF9
namespace Go.Proofs.YtadgnficogeheaaGreatDoor
open Go.Eng Go.RowKit
set_option linter.unusedSimpArgs false
set_option linter.unusedVariables false
theorem seg_exists {xs : List Int} (x : Int) (ax : axisB xs = true) : ∃ (i : Nat) (x' : Int), i + 1 < xs.length ∧ xs.getD i 0 ≤ x' ∧ x' ≤ xs.getD (i + 1) 0 ∧ (x' < xs.getD (i + 1) 0 ∨ i + 2 = xs.length) ∧ x' = min (max x (xs.getD 0 0)) (xs.getD (xs.length - 1) 0) := by
  obtain ⟨hl, _⟩ := axis_facts ax
  have hends := axis_mono ax (show 0 < xs.length - 1 by omega) (by omega)
  obtain ⟨x', hx⟩ : ∃ x', x' = min (max x (xs.getD 0 0)) (xs.getD (xs.length - 1) 0) := ⟨_, rfl⟩
  have key : ∀ k, k + 2 ≤ xs.length → (∃ i, i < k ∧ xs.getD i 0 ≤ x' ∧ x' < xs.getD (i + 1) 0) ∨ xs.getD k 0 ≤ x' := by
    intro k
    induction k with
    | zero => intro _; right; omega
    | succ k ih =>
      intro hk
      rcases ih (by omega) with ⟨i, h1, h2, h3⟩ | h
      · exact .inl ⟨i, by omega, h2, h3⟩
      · by_cases h2 : x' < xs.getD (k + 1) 0
        · exact .inl ⟨k, by omega, h, h2⟩
        · exact .inr (by omega)
  rcases key (xs.length - 2) (by omega) with ⟨i, h1, h2, h3⟩ | h
  · exact ⟨i, x', by omega, h2, by omega, .inl h3, hx⟩
  · exact ⟨xs.length - 2, x', by omega, h, by rw [show xs.length - 2 + 1 = xs.length - 1 by omega]; omega, .inr (by omega), hx⟩
theorem curve_node {xs ys : List Int} {i : Nat} (ax : axisB xs = true) (hi : i < xs.length) : curveF xs ys (xs.getD i 0) = ys.getD i 0 := by
  have hl := (axis_facts ax).1
  have h0 := axis_le ax (show 0 ≤ i by omega) hi
  have h1 := axis_le ax (show i ≤ xs.length - 1 by omega) (by omega)
  by_cases e : i + 1 < xs.length
  · have m := axis_mono ax (show i < i + 1 by omega) e
    rw [curve_seg (x' := xs.getD i 0) ax e (Int.le_refl _) (by omega) (.inl m) (by omega)]
    exact btw_left _ _ _ _
  · have e1 : i - 1 + 1 = i := by omega
    have m := axis_mono ax (show i - 1 < i by omega) hi
    rw [curve_seg (x' := xs.getD i 0) (i := i - 1) ax (by omega) (by omega) (by rw [e1]; exact Int.le_refl _) (.inr (by omega)) (by omega), e1]
    exact btw_right _ _ m
/-- what is known of a valid map -/
structure Vm (m : Mp) : Prop where
  ax : axisB m.gX_l = true
  ay : axisB m.gY_l = true
  z : ∀ i, i < m.gX_n → ∀ j, j < m.gY_n → -1073741824 ≤ zF m i j ∧ zF m i j ≤ 1073741824
theorem colZ_length (m : Mp) (j : Nat) : (colZ m j).length = m.gX_n := by simp [colZ]
theorem colF_length (m : Mp) (x : Int) : (colF m x).length = m.gY_n := by simp [colF]
theorem value_node {m : Mp} (hX : m.gX_l.length = m.gX_n) (hY : m.gY_l.length = m.gY_n) (ax : axisB m.gX_l = true) (ay : axisB m.gY_l = true) {a b : Nat} (ha : a < m.gX_n) (hb : b < m.gY_n) : valueF m (m.gX_l.getD a 0) (m.gY_l.getD b 0) = zF m a b := by
  unfold valueF
  rw [curve_node ay (by omega), colF_getD m _ hb, curve_node ax (by omega), colZ_getD m ha]
end Go.Proofs.YtadgnficogeheaaGreatDoor

