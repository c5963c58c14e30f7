/- Walks of functions of this seat, printed by a program over the engine. Conditions: as each theorem says. -/
import Derived.Test.YtdilhoibcbihlaaDoorV6
namespace Go.Proofs.YtdilhoibcbihlaaDoor
open Go.Eng Go.RowKit
set_option linter.unusedSimpArgs false
set_option linter.unusedVariables false
theorem seg_exists {xs : List Int} (x : Int) (ax : axisB xs = true) : ∃ (i : Nat) (x' : Int), i + 1 < xs.length ∧ xs.getD i 0 ≤ x' ∧ x' ≤ xs.getD (i + 1) 0 ∧ (x' < xs.getD (i + 1) 0 ∨ i + 2 = xs.length) ∧ x' = min (max x (xs.getD 0 0)) (xs.getD (xs.length - 1) 0) := by
  obtain ⟨hl, _⟩ := axis_facts ax
  have hends := axis_mono ax (show 0 < xs.length - 1 by omega) (by omega)
  obtain ⟨x', hx⟩ : ∃ x', x' = min (max x (xs.getD 0 0)) (xs.getD (xs.length - 1) 0) := ⟨_, rfl⟩
  have key : ∀ k, k + 2 ≤ xs.length → (∃ i, i < k ∧ xs.getD i 0 ≤ x' ∧ x' < xs.getD (i + 1) 0) ∨ xs.getD k 0 ≤ x' := by
    intro k
    induction k with
    | zero => intro _; right; omega
    | succ k ih =>
      intro hk
      rcases ih (by omega) with ⟨i, h1, h2, h3⟩ | h
      · exact .inl ⟨i, by omega, h2, h3⟩
      · by_cases h2 : x' < xs.getD (k + 1) 0
        · exact .inl ⟨k, by omega, h, h2⟩
        · exact .inr (by omega)
  rcases key (xs.length - 2) (by omega) with ⟨i, h1, h2, h3⟩ | h
  · exact ⟨i, x', by omega, h2, by omega, .inl h3, hx⟩
  · exact ⟨xs.length - 2, x', by omega, h, by rw [show xs.length - 2 + 1 = xs.length - 1 by omega]; omega, .inr (by omega), hx⟩
theorem curve_in {xs ys : List Int} {lo hi : Int} (x : Int) (ax : axisB xs = true) (hl : ys.length = xs.length) (hb : ∀ j, j < ys.length → lo ≤ ys.getD j 0 ∧ ys.getD j 0 ≤ hi) : lo ≤ curveF xs ys x ∧ curveF xs ys x ≤ hi := by
  obtain ⟨i, x', h1, h2, h3, h4, h5⟩ := seg_exists x ax
  rw [curve_seg ax h1 h2 h3 h4 h5]
  have b1 := hb i (by omega)
  have b2 := hb (i + 1) (by omega)
  obtain ⟨c1, c2⟩ := btw_bounds (y0 := ys.getD i 0) (y1 := ys.getD (i + 1) 0) (axis_mono ax (show i < i + 1 by omega) h1) h2 h3
  omega
theorem btw_form {x0 x1 y0 y1 x : Int} (h : x0 < x1) : btwF x0 x1 y0 y1 x = ((x1 - x) * y0 + (x - x0) * y1) / (x1 - x0) := by
  unfold btwF
  rw [show (x1 - x) * y0 + (x - x0) * y1 = (x - x0) * (y1 - y0) + y0 * (x1 - x0) by grind, Int.add_mul_ediv_right _ _ (by omega)]
  omega
theorem btw_mono_y {x0 x1 y0 y1 z0 z1 x : Int} (h : x0 < x1) (h0 : x0 ≤ x) (h1 : x ≤ x1) (hy : y0 ≤ z0) (hz : y1 ≤ z1) : btwF x0 x1 y0 y1 x ≤ btwF x0 x1 z0 z1 x := by
  rw [btw_form h, btw_form h]
  refine Int.ediv_le_ediv (by omega) ?_
  have a1 := Int.mul_le_mul_of_nonneg_left hy (show 0 ≤ x1 - x by omega)
  have a2 := Int.mul_le_mul_of_nonneg_left hz (show 0 ≤ x - x0 by omega)
  omega
theorem btw_mono_x {x0 x1 y0 y1 x x' : Int} (h : x0 < x1) (hx : x ≤ x') (hy : y0 ≤ y1) : btwF x0 x1 y0 y1 x ≤ btwF x0 x1 y0 y1 x' := by
  unfold btwF
  have a1 := Int.mul_le_mul_of_nonneg_right (show x - x0 ≤ x' - x0 by omega) (show 0 ≤ y1 - y0 by omega)
  have := Int.ediv_le_ediv (show 0 < x1 - x0 by omega) a1
  omega
theorem curve_mono_y {xs ys zs : List Int} {x : Int} (ax : axisB xs = true) (h : ∀ j, j < xs.length → ys.getD j 0 ≤ zs.getD j 0) : curveF xs ys x ≤ curveF xs zs x := by
  obtain ⟨i, x', h1, h2, h3, h4, h5⟩ := seg_exists x ax
  rw [curve_seg ax h1 h2 h3 h4 h5, curve_seg ax h1 h2 h3 h4 h5]
  exact btw_mono_y (axis_mono ax (show i < i + 1 by omega) h1) h2 h3 (h i (by omega)) (h (i + 1) h1)
theorem mono_le {ys : List Int} {n : Nat} (h : ∀ j, j + 1 < n → ys.getD j 0 ≤ ys.getD (j + 1) 0) : ∀ {i j : Nat}, i ≤ j → j < n → ys.getD i 0 ≤ ys.getD j 0 := by
  intro i j
  induction j with
  | zero => intro h1 _; rw [show i = 0 by omega]; exact Int.le_refl _
  | succ j ih =>
    intro h1 h2
    by_cases e : i = j + 1
    · subst e; exact Int.le_refl _
    · exact Int.le_trans (ih (by omega) (by omega)) (h j h2)
theorem curve_mono_x {xs ys : List Int} {x z : Int} (ax : axisB xs = true) (h : ∀ j, j + 1 < xs.length → ys.getD j 0 ≤ ys.getD (j + 1) 0) (hx : x ≤ z) : curveF xs ys x ≤ curveF xs ys z := by
  obtain ⟨i, x', h1, h2, h3, h4, h5⟩ := seg_exists x ax
  obtain ⟨k, z', k1, k2, k3, k4, k5⟩ := seg_exists z ax
  rw [curve_seg ax h1 h2 h3 h4 h5, curve_seg ax k1 k2 k3 k4 k5]
  have hxz : x' ≤ z' := by rw [h5, k5]; omega
  have m1 := axis_mono ax (show i < i + 1 by omega) h1
  have m2 := axis_mono ax (show k < k + 1 by omega) k1
  rcases Nat.lt_trichotomy i k with e | e | e
  · have b1 := (btw_bounds (y0 := ys.getD i 0) (y1 := ys.getD (i + 1) 0) m1 h2 h3).1 (h i h1)
    have b2 := (btw_bounds (y0 := ys.getD k 0) (y1 := ys.getD (k + 1) 0) m2 k2 k3).1 (h k k1)
    have := mono_le h (show i + 1 ≤ k by omega) (by omega)
    omega
  · subst e; exact btw_mono_x m1 hxz (h i h1)
  · have := axis_le ax (show k + 1 ≤ i by omega) (by omega)
    have e2 : x' = z' := by omega
    subst e2
    have b1 := (btw_bounds (y0 := ys.getD i 0) (y1 := ys.getD (i + 1) 0) m1 h2 h3).1 (h i h1)
    have hk : x' = xs.getD (k + 1) 0 := by omega
    have hi : xs.getD i 0 = xs.getD (k + 1) 0 := by omega
    have hik : i = k + 1 := by
      rcases Nat.lt_or_ge (k + 1) i with e3 | e3
      · have := axis_mono ax e3 (by omega); omega
      · omega
    subst hik
    have e4 : btwF (xs.getD k 0) (xs.getD (k + 1) 0) (ys.getD k 0) (ys.getD (k + 1) 0) x' = ys.getD (k + 1) 0 := by rw [hk]; exact btw_right _ _ m2
    have e5 : btwF (xs.getD (k + 1) 0) (xs.getD (k + 1 + 1) 0) (ys.getD (k + 1) 0) (ys.getD (k + 1 + 1) 0) x' = ys.getD (k + 1) 0 := by rw [hk]; exact btw_left _ _ _ _
    omega
theorem curve_node {xs ys : List Int} {i : Nat} (ax : axisB xs = true) (hi : i < xs.length) : curveF xs ys (xs.getD i 0) = ys.getD i 0 := by
  have hl := (axis_facts ax).1
  have h0 := axis_le ax (show 0 ≤ i by omega) hi
  have h1 := axis_le ax (show i ≤ xs.length - 1 by omega) (by omega)
  by_cases e : i + 1 < xs.length
  · have m := axis_mono ax (show i < i + 1 by omega) e
    rw [curve_seg (x' := xs.getD i 0) ax e (Int.le_refl _) (by omega) (.inl m) (by omega)]
    exact btw_left _ _ _ _
  · have e1 : i - 1 + 1 = i := by omega
    have m := axis_mono ax (show i - 1 < i by omega) hi
    rw [curve_seg (x' := xs.getD i 0) (i := i - 1) ax (by omega) (by omega) (by rw [e1]; exact Int.le_refl _) (.inr (by omega)) (by omega), e1]
    exact btw_right _ _ m
theorem curve_low {xs ys : List Int} {x : Int} (h : x ≤ xs.getD 0 0) : curveF xs ys x = ys.getD 0 0 := by unfold curveF; rw [if_pos h]
theorem curve_high {xs ys : List Int} {x : Int} (ax : axisB xs = true) (h : xs.getD (xs.length - 1) 0 ≤ x) : curveF xs ys x = ys.getD (xs.length - 1) 0 := by
  have hl := (axis_facts ax).1
  have := axis_mono ax (show 0 < xs.length - 1 by omega) (by omega)
  unfold curveF; rw [if_neg (by omega), if_pos h]
def leastF (q : Int → Bool) (n : Int) : Int := (((List.range n.toNat).findIdx (fun k : Nat => q (k : Int)) : Nat) : Int)
theorem least_eq {q : Int → Bool} {n r : Int} (hq : ∀ i j, 0 ≤ i → i ≤ j → j < n → q i = true → q j = true) (h0 : 0 ≤ r ∧ r ≤ n) (h1 : r = 0 ∨ q (r - 1) = false) (h2 : r = n ∨ q r = true) : leastF q n = r := by
  unfold leastF
  have key : (List.range n.toNat).findIdx (fun k : Nat => q (k : Int)) = r.toNat := by
    rcases h2 with h2 | h2
    · subst h2
      refine (List.findIdx_eq_length.2 ?_).trans (by simp : (List.range r.toNat).length = r.toNat)
      intro x hx
      simp only [List.mem_range] at hx
      rcases h1 with h1 | h1
      · omega
      · cases e : q (x : Int) with
        | false => rfl
        | true => rw [hq x (r - 1) (by omega) (by omega) (by omega) e] at h1; cases h1
    · by_cases e : r = n
      · subst e
        refine (List.findIdx_eq_length.2 ?_).trans (by simp : (List.range r.toNat).length = r.toNat)
        intro x hx
        simp only [List.mem_range] at hx
        rcases h1 with h1 | h1
        · omega
        · cases e : q (x : Int) with
          | false => rfl
          | true => rw [hq x (r - 1) (by omega) (by omega) (by omega) e] at h1; cases h1
      · rw [List.findIdx_eq (by simp; omega)]
        simp only [List.getElem_range]
        refine ⟨by rw [show ((r.toNat : Nat) : Int) = r by omega]; exact h2, fun j hj => ?_⟩
        rcases h1 with h1 | h1
        · omega
        · cases e : q (j : Int) with
          | false => rfl
          | true => rw [hq j (r - 1) (by omega) (by omega) (by omega) e] at h1; cases h1
  rw [key]; omega
theorem least_bounds (q : Int → Bool) {n : Int} (h : 0 ≤ n) : 0 ≤ leastF q n ∧ leastF q n ≤ n := by
  unfold leastF
  have := List.findIdx_le_length (p := fun k : Nat => q (k : Int)) (xs := List.range n.toNat)
  simp only [List.length_range] at this
  omega
theorem least_facts {q : Int → Bool} {n : Int} (h : 0 ≤ n) : (leastF q n < n → q (leastF q n) = true) ∧ ∀ i, 0 ≤ i → i < leastF q n → q i = false := by
  unfold leastF
  constructor
  · intro h2
    have h3 : (List.range n.toNat).findIdx (fun k : Nat => q (k : Int)) < (List.range n.toNat).length := by simp; omega
    have := List.findIdx_getElem (p := fun k : Nat => q (k : Int)) (w := h3)
    simpa using this
  · intro i h0 h2
    have := List.not_of_lt_findIdx (p := fun k : Nat => q (k : Int)) (xs := List.range n.toNat) (i := i.toNat) (by omega)
    simp only [List.getElem_range, Int.toNat_of_nonneg h0] at this
    simpa using this
def ptsF (l : List Int) (lo hi : Int) : List Int := [lo, hi] ++ l.filter fun x => decide (lo < x) && decide (x < hi)
def minF (d : Int) (l : List Int) : Int := l.foldl min d
def maxF (d : Int) (l : List Int) : Int := l.foldl max d
theorem minF_snoc (d : Int) (l : List Int) (v : Int) : minF d (l ++ [v]) = min (minF d l) v := by simp [minF]
theorem maxF_snoc (d : Int) (l : List Int) (v : Int) : maxF d (l ++ [v]) = max (maxF d l) v := by simp [maxF]
theorem minF_spec (d : Int) (l : List Int) : (minF d l = d ∨ minF d l ∈ l) ∧ minF d l ≤ d ∧ ∀ x ∈ l, minF d l ≤ x := by
  unfold minF
  induction l generalizing d with
  | nil => simp
  | cons a l ih =>
    simp only [List.foldl_cons]
    obtain ⟨h1, h2, h3⟩ := ih (min d a)
    refine ⟨?_, by omega, fun x hx => ?_⟩
    · rcases h1 with h | h
      · rcases Int.le_total d a with e | e
        · left; rw [h]; omega
        · right; rw [h, show min d a = a by omega]; simp
      · right; exact List.mem_cons_of_mem _ h
    · rcases List.mem_cons.1 hx with rfl | hx
      · omega
      · exact h3 x hx
theorem maxF_spec (d : Int) (l : List Int) : (maxF d l = d ∨ maxF d l ∈ l) ∧ d ≤ maxF d l ∧ ∀ x ∈ l, x ≤ maxF d l := by
  unfold maxF
  induction l generalizing d with
  | nil => simp
  | cons a l ih =>
    simp only [List.foldl_cons]
    obtain ⟨h1, h2, h3⟩ := ih (max d a)
    refine ⟨?_, by omega, fun x hx => ?_⟩
    · rcases h1 with h | h
      · rcases Int.le_total a d with e | e
        · left; rw [h]; omega
        · right; rw [h, show max d a = a by omega]; simp
      · right; exact List.mem_cons_of_mem _ h
    · rcases List.mem_cons.1 hx with rfl | hx
      · omega
      · exact h3 x hx
theorem minF_eq {d e : Int} {l : List Int} (hd : d ∈ l ∨ ∀ x ∈ l, x ≤ d) (he : e ∈ l ∨ ∀ x ∈ l, x ≤ e) (hl : l ≠ []) : minF d l = minF e l := by
  obtain ⟨a1, a2, a3⟩ := minF_spec d l
  obtain ⟨b1, b2, b3⟩ := minF_spec e l
  have mem : ∀ {d : Int}, (d ∈ l ∨ ∀ x ∈ l, x ≤ d) → (minF d l = d ∨ minF d l ∈ l) → minF d l ≤ d → (∀ x ∈ l, minF d l ≤ x) → minF d l ∈ l := by
    intro d h1 h2 h3 h4
    rcases h2 with h2 | h2
    · rcases h1 with h1 | h1
      · rw [h2]; exact h1
      · cases l with
        | nil => exact absurd rfl hl
        | cons x r =>
          have := h1 x (by simp); have := h4 x (by simp)
          rw [show minF d (x :: r) = x by omega]; simp
    · exact h2
  have := b3 _ (mem hd a1 a2 a3)
  have := a3 _ (mem he b1 b2 b3)
  omega
theorem maxF_eq {d e : Int} {l : List Int} (hd : d ∈ l ∨ ∀ x ∈ l, d ≤ x) (he : e ∈ l ∨ ∀ x ∈ l, e ≤ x) (hl : l ≠ []) : maxF d l = maxF e l := by
  obtain ⟨a1, a2, a3⟩ := maxF_spec d l
  obtain ⟨b1, b2, b3⟩ := maxF_spec e l
  have mem : ∀ {d : Int}, (d ∈ l ∨ ∀ x ∈ l, d ≤ x) → (maxF d l = d ∨ maxF d l ∈ l) → d ≤ maxF d l → (∀ x ∈ l, x ≤ maxF d l) → maxF d l ∈ l := by
    intro d h1 h2 h3 h4
    rcases h2 with h2 | h2
    · rcases h1 with h1 | h1
      · rw [h2]; exact h1
      · cases l with
        | nil => exact absurd rfl hl
        | cons x r =>
          have := h1 x (by simp); have := h4 x (by simp)
          rw [show maxF d (x :: r) = x by omega]; simp
    · exact h2
  have := b3 _ (mem hd a1 a2 a3)
  have := a3 _ (mem he b1 b2 b3)
  omega
theorem pts_ends (l : List Int) (lo hi : Int) : lo ∈ ptsF l lo hi ∧ hi ∈ ptsF l lo hi := by simp [ptsF]
theorem pts_around {l : List Int} {x a b : Int} (ha : a ≤ x) (hb : x ≤ b) : ∃ u v, u ∈ ptsF l a b ∧ v ∈ ptsF l a b ∧ u ≤ x ∧ x ≤ v ∧ ∀ k ∈ l, k ≤ u ∨ v ≤ k := by
  induction l with
  | nil => exact ⟨a, b, by simp [ptsF], by simp [ptsF], ha, hb, by simp⟩
  | cons c l ih =>
    obtain ⟨u, v, h1, h2, h3, h4, h5⟩ := ih
    have sub : ∀ k, k ∈ ptsF l a b → k ∈ ptsF (c :: l) a b := by
      intro k hk
      simp only [ptsF, List.mem_append, List.mem_filter, List.mem_cons] at hk ⊢
      rcases hk with hk | ⟨hk, hk2⟩
      · exact .inl hk
      · exact .inr ⟨.inr hk, hk2⟩
    by_cases e : u < c ∧ c < v
    · have hub : a ≤ u ∧ v ≤ b := by
        simp only [ptsF, List.mem_append, List.mem_filter, List.mem_cons, Bool.and_eq_true, decide_eq_true_eq, List.not_mem_nil, or_false] at h1 h2
        omega
      have hc : c ∈ ptsF (c :: l) a b := by
        simp only [ptsF, List.mem_append, List.mem_filter, List.mem_cons, Bool.and_eq_true, decide_eq_true_eq]
        exact .inr ⟨.inl (by first | rfl | trivial), by omega, by omega⟩
      by_cases hcx : c ≤ x
      · exact ⟨c, v, hc, sub v h2, hcx, h4, fun k hk => by
          rcases List.mem_cons.1 hk with rfl | hk
          · exact .inl (Int.le_refl _)
          · have := h5 k hk; omega⟩
      · exact ⟨u, c, sub u h1, hc, h3, by omega, fun k hk => by
          rcases List.mem_cons.1 hk with rfl | hk
          · exact .inr (Int.le_refl _)
          · have := h5 k hk; omega⟩
    · exact ⟨u, v, sub u h1, sub v h2, h3, h4, fun k hk => by
        rcases List.mem_cons.1 hk with rfl | hk
        · omega
        · exact h5 k hk⟩
theorem btw_anti_x {x0 x1 y0 y1 x x' : Int} (h : x0 < x1) (hx : x ≤ x') (hy : y1 ≤ y0) : btwF x0 x1 y0 y1 x' ≤ btwF x0 x1 y0 y1 x := by
  unfold btwF
  have a1 := Int.mul_le_mul_of_nonpos_right (show x - x0 ≤ x' - x0 by omega) (show y1 - y0 ≤ 0 by omega)
  have := Int.ediv_le_ediv (show 0 < x1 - x0 by omega) a1
  omega
theorem curve_cell {xs : List Int} (ys : List Int) {i : Nat} {z : Int} (ax : axisB xs = true) (a1 : i + 1 < xs.length) (z1 : xs.getD i 0 ≤ z) (z2 : z ≤ xs.getD (i + 1) 0) : curveF xs ys z = btwF (xs.getD i 0) (xs.getD (i + 1) 0) (ys.getD i 0) (ys.getD (i + 1) 0) z := by
  have m := axis_mono ax (show i < i + 1 by omega) a1
  have l0 := axis_le ax (show 0 ≤ i by omega) (by omega)
  have l1 := axis_le ax (show i + 1 ≤ xs.length - 1 by omega) (by omega)
  by_cases z3 : z < xs.getD (i + 1) 0 ∨ i + 2 = xs.length
  · exact curve_seg ax a1 z1 z2 z3 (by omega)
  · have z4 : z = xs.getD (i + 1) 0 := by omega
    rw [z4, curve_node ax a1, btw_right _ _ m]
theorem seg_around {xs : List Int} {u x v : Int} (ax : axisB xs = true) (h1 : u < x) (h2 : x < v) (h : ∀ k ∈ xs, k ≤ u ∨ v ≤ k) : v ≤ xs.getD 0 0 ∨ xs.getD (xs.length - 1) 0 ≤ u ∨ ∃ i, i + 1 < xs.length ∧ xs.getD i 0 ≤ u ∧ v ≤ xs.getD (i + 1) 0 := by
  have hl := (axis_facts ax).1
  by_cases e1 : v ≤ xs.getD 0 0
  · exact .inl e1
  by_cases e2 : xs.getD (xs.length - 1) 0 ≤ u
  · exact .inr (.inl e2)
  have mem : ∀ i, i < xs.length → xs.getD i 0 ≤ u ∨ v ≤ xs.getD i 0 := fun i hi => h _ (getD_mem 0 hi)
  have m0 := mem 0 (by omega)
  have ml := mem (xs.length - 1) (by omega)
  obtain ⟨i, x', a1, a2, a3, a4, a5⟩ := seg_exists x ax
  have mi := mem i (by omega)
  have mj := mem (i + 1) a1
  have hx : x' = x := by omega
  subst hx
  exact .inr (.inr ⟨i, a1, by omega, by omega⟩)
theorem curve_between {xs ys : List Int} {u x v : Int} (ax : axisB xs = true) (h1 : u ≤ x) (h2 : x ≤ v) (h : ∀ k ∈ xs, k ≤ u ∨ v ≤ k) : min (curveF xs ys u) (curveF xs ys v) ≤ curveF xs ys x ∧ curveF xs ys x ≤ max (curveF xs ys u) (curveF xs ys v) := by
  by_cases e3 : u = x
  · rw [e3]; omega
  by_cases e4 : v = x
  · rw [e4]; omega
  rcases seg_around ax (show u < x by omega) (show x < v by omega) h with e | e | ⟨i, a1, a2, a3⟩
  · rw [curve_low (x := u) (by omega), curve_low (x := x) (by omega), curve_low (x := v) e]; omega
  · rw [curve_high ax (x := u) e, curve_high ax (x := x) (by omega), curve_high ax (x := v) (by omega)]; omega
  · rw [curve_cell ys ax a1 (z := u) a2 (by omega), curve_cell ys ax a1 (z := x) (by omega) (by omega), curve_cell ys ax a1 (z := v) (by omega) a3]
    have m := axis_mono ax (show i < i + 1 by omega) a1
    rcases Int.le_total (ys.getD i 0) (ys.getD (i + 1) 0) with e | e
    · have b1 := btw_mono_x m h1 e
      have b2 := btw_mono_x m h2 e
      omega
    · have b1 := btw_anti_x m h1 e
      have b2 := btw_anti_x m h2 e
      omega
theorem curve_anti_x {xs ys : List Int} {x z : Int} (ax : axisB xs = true) (h : ∀ j, j + 1 < xs.length → ys.getD (j + 1) 0 ≤ ys.getD j 0) (hx : x ≤ z) : curveF xs ys z ≤ curveF xs ys x := by
  obtain ⟨i, x', h1, h2, h3, h4, h5⟩ := seg_exists x ax
  obtain ⟨k, z', k1, k2, k3, k4, k5⟩ := seg_exists z ax
  rw [curve_seg ax h1 h2 h3 h4 h5, curve_seg ax k1 k2 k3 k4 k5]
  have hxz : x' ≤ z' := by rw [h5, k5]; omega
  have m1 := axis_mono ax (show i < i + 1 by omega) h1
  have m2 := axis_mono ax (show k < k + 1 by omega) k1
  have anti : ∀ {i j : Nat}, i ≤ j → j < xs.length → ys.getD j 0 ≤ ys.getD i 0 := by
    intro i j
    induction j with
    | zero => intro h1 _; rw [show i = 0 by omega]; exact Int.le_refl _
    | succ j ih =>
      intro h1 h2
      by_cases e : i = j + 1
      · subst e; exact Int.le_refl _
      · exact Int.le_trans (h j h2) (ih (by omega) (by omega))
  rcases Nat.lt_trichotomy i k with e | e | e
  · have b1 := (btw_bounds (y0 := ys.getD i 0) (y1 := ys.getD (i + 1) 0) m1 h2 h3).2 (h i h1)
    have b2 := (btw_bounds (y0 := ys.getD k 0) (y1 := ys.getD (k + 1) 0) m2 k2 k3).2 (h k k1)
    have := anti (show i + 1 ≤ k by omega) (by omega)
    omega
  · subst e; exact btw_anti_x m1 hxz (h i h1)
  · have := axis_le ax (show k + 1 ≤ i by omega) (by omega)
    have e2 : x' = z' := by omega
    have hk : z' = xs.getD (k + 1) 0 := by omega
    have hi : xs.getD i 0 = xs.getD (k + 1) 0 := by omega
    have hik : i = k + 1 := by
      rcases Nat.lt_or_ge (k + 1) i with e3 | e3
      · have := axis_mono ax e3 (by omega); omega
      · omega
    subst hik
    have e4 : btwF (xs.getD k 0) (xs.getD (k + 1) 0) (ys.getD k 0) (ys.getD (k + 1) 0) z' = ys.getD (k + 1) 0 := by rw [hk]; exact btw_right _ _ m2
    have e5 : btwF (xs.getD (k + 1) 0) (xs.getD (k + 1 + 1) 0) (ys.getD (k + 1) 0) (ys.getD (k + 1 + 1) 0) x' = ys.getD (k + 1) 0 := by rw [e2, hk]; exact btw_left _ _ _ _
    omega

def upT (l : List Int) (i : Int) : Bool := (List.range i.toNat).all fun j => decide (l.getD j 0 ≤ l.getD (j + 1) 0)
def dnT (l : List Int) (i : Int) : Bool := (List.range i.toNat).all fun j => decide (l.getD j 0 ≥ l.getD (j + 1) 0)
def dirL (l : List Int) : Int := if upT l ((l.length : Int) - 1) then 1 else if dnT l ((l.length : Int) - 1) then -1 else 0
theorem upT_step {l : List Int} {i : Int} (h0 : 0 ≤ i) : upT l (i + 1) = (upT l i && decide (l.getD i.toNat 0 ≤ l.getD (i + 1).toNat 0)) := by
  unfold upT
  rw [show (i + 1).toNat = i.toNat + 1 by omega, List.range_succ, List.all_append]; simp
theorem dnT_step {l : List Int} {i : Int} (h0 : 0 ≤ i) : dnT l (i + 1) = (dnT l i && decide (l.getD i.toNat 0 ≥ l.getD (i + 1).toNat 0)) := by
  unfold dnT
  rw [show (i + 1).toNat = i.toNat + 1 by omega, List.range_succ, List.all_append]; simp
theorem upT_facts {l : List Int} (h : upT l ((l.length : Int) - 1) = true) : ∀ j, j + 1 < l.length → l.getD j 0 ≤ l.getD (j + 1) 0 := by
  intro j hj
  unfold upT at h
  simp only [List.all_eq_true, List.mem_range, decide_eq_true_eq] at h
  exact h j (by omega)
theorem dnT_facts {l : List Int} (h : dnT l ((l.length : Int) - 1) = true) : ∀ j, j + 1 < l.length → l.getD (j + 1) 0 ≤ l.getD j 0 := by
  intro j hj
  unfold dnT at h
  simp only [List.all_eq_true, List.mem_range, decide_eq_true_eq] at h
  exact h j (by omega)
def dirV (c : Crv) : Int := if validV c then dirL c.gY_l else 0
theorem dir_up {l : List Int} (h : upT l ((l.length : Int) - 1) = true) : dirL l = 1 := by unfold dirL; rw [if_pos h]
theorem dir_dn {l : List Int} (h : upT l ((l.length : Int) - 1) = false) (h2 : dnT l ((l.length : Int) - 1) = true) : dirL l = -1 := by unfold dirL; rw [if_neg (by rw [h]; decide), if_pos h2]
theorem dir_no {l : List Int} (h : upT l ((l.length : Int) - 1) = false) (h2 : dnT l ((l.length : Int) - 1) = false) : dirL l = 0 := by unfold dirL; rw [if_neg (by rw [h]; decide), if_neg (by rw [h2]; decide)]
theorem dir_one {l : List Int} : dirL l = 1 ↔ upT l ((l.length : Int) - 1) = true := by
  unfold dirL
  constructor
  · intro h
    cases hu : upT l ((l.length : Int) - 1) with
    | true => rfl
    | false => rw [hu] at h; simp only [Bool.false_eq_true, if_false] at h; split at h <;> omega
  · intro h; rw [if_pos h]
theorem value_mono_c {c : Crv} (hX : c.gX_l.length = c.gX_n) (hY : c.gY_l.length = c.gX_n) (hv : validV c = true) (hu : upT c.gY_l ((c.gY_l.length : Int) - 1) = true) {x z : Int} (h : x ≤ z) : valueV c x ≤ valueV c z :=
  curve_mono_x (validV_facts hv).2.1 (fun j hj => upT_facts hu j (by omega)) h
theorem value_anti_c {c : Crv} (hX : c.gX_l.length = c.gX_n) (hY : c.gY_l.length = c.gX_n) (hv : validV c = true) (hd : dnT c.gY_l ((c.gY_l.length : Int) - 1) = true) {x z : Int} (h : x ≤ z) : valueV c z ≤ valueV c x :=
  curve_anti_x (validV_facts hv).2.1 (fun j hj => dnT_facts hd j (by omega)) h
def civQ (c : Crv) (y i : Int) : Bool := decide (valueV c (c.gX_l.getD 0 0 + i) ≥ y)
def civN (c : Crv) : Int := c.gX_l.getD ((c.gX_n : Int) - 1).toNat 0 - c.gX_l.getD 0 0
def civE (c : Crv) (y : Int) : Int := if validV c then (if dirL c.gY_l = 1 then (if c.gY_l.getD ((c.gX_n : Int) - 1).toNat 0 < y then 2 else 0) else 6) else 1
def civX (c : Crv) (y : Int) : Int := if civE c y = 0 then c.gX_l.getD 0 0 + leastF (civQ c y) (civN c) else 0
theorem civ1 {c : Crv} {y : Int} (h : validV c = false) : civE c y = 1 ∧ civX c y = 0 := by
  have e : civE c y = 1 := by unfold civE; rw [h]; rfl
  exact ⟨e, by unfold civX; rw [e]; rfl⟩
theorem civ2 {c : Crv} {y : Int} (h : validV c = true) (h2 : dirL c.gY_l ≠ 1) : civE c y = 6 ∧ civX c y = 0 := by
  have e : civE c y = 6 := by unfold civE; rw [h, if_pos rfl, if_neg h2]
  exact ⟨e, by unfold civX; rw [e]; rfl⟩
theorem civ3 {c : Crv} {y : Int} (h : validV c = true) (h2 : dirL c.gY_l = 1) (h3 : c.gY_l.getD ((c.gX_n : Int) - 1).toNat 0 < y) : civE c y = 2 ∧ civX c y = 0 := by
  have e : civE c y = 2 := by unfold civE; rw [h, if_pos rfl, if_pos h2, if_pos h3]
  exact ⟨e, by unfold civX; rw [e]; rfl⟩
theorem civ_mono {c : Crv} (hX : c.gX_l.length = c.gX_n) (hY : c.gY_l.length = c.gX_n) (hv : validV c = true) (h2 : dirL c.gY_l = 1) (y n : Int) : ∀ i j, 0 ≤ i → i ≤ j → j < n → civQ c y i = true → civQ c y j = true := by
  intro i j _ hij _ h
  have := value_mono_c hX hY hv (dir_one.1 h2) (show c.gX_l.getD 0 0 + i ≤ c.gX_l.getD 0 0 + j by omega)
  unfold civQ at h ⊢
  rw [decide_eq_true_eq] at h ⊢
  omega
theorem civ4 {c : Crv} (hX : c.gX_l.length = c.gX_n) (hY : c.gY_l.length = c.gX_n) {y r x : Int} (h : validV c = true) (h2 : dirL c.gY_l = 1) (h3 : ¬ c.gY_l.getD ((c.gX_n : Int) - 1).toNat 0 < y)
    (hx : x = c.gX_l.getD 0 0 + r) (h4 : 0 ≤ r ∧ r ≤ civN c) (h5 : r = 0 ∨ civQ c y (r - 1) = false) (h6 : r = civN c ∨ civQ c y r = true) : civE c y = 0 ∧ civX c y = x := by
  have e : civE c y = 0 := by unfold civE; rw [h, if_pos rfl, if_pos h2, if_neg h3]
  exact ⟨e, by unfold civX; rw [if_pos e, least_eq (civ_mono hX hY h h2 y _) h4 h5 h6, hx]⟩
theorem value_last {c : Crv} (hX : c.gX_l.length = c.gX_n) (hv : validV c = true) : valueV c (c.gX_l.getD ((c.gX_n : Int) - 1).toNat 0) = c.gY_l.getD ((c.gX_n : Int) - 1).toNat 0 := by
  have hl := (axis_facts (validV_facts hv).2.1).1
  exact curve_node (validV_facts hv).2.1 (by omega)
theorem civ_cases {c : Crv} (hX : c.gX_l.length = c.gX_n) (hv : validV c = true) (h : dirL c.gY_l = 1) (y : Int) :
    (civE c y = 0 ∨ civE c y = 2) ∧ (civE c y = 2 → c.gY_l.getD ((c.gX_n : Int) - 1).toNat 0 < y) ∧ (c.gY_l.getD ((c.gX_n : Int) - 1).toNat 0 < y → civE c y = 2) ∧
    (civE c y = 0 → c.gX_l.getD 0 0 ≤ civX c y ∧ civX c y ≤ c.gX_l.getD ((c.gX_n : Int) - 1).toNat 0 ∧ y ≤ valueV c (civX c y) ∧ (civX c y = c.gX_l.getD 0 0 ∨ valueV c (civX c y - 1) < y)) := by
  obtain ⟨_, h1, _⟩ := validV_facts hv
  have hl := (axis_facts h1).1
  have hm := axis_mono h1 (show 0 < ((c.gX_n : Int) - 1).toNat by omega) (by omega)
  by_cases h3 : c.gY_l.getD ((c.gX_n : Int) - 1).toNat 0 < y
  · obtain ⟨e, _⟩ := civ3 hv h h3
    exact ⟨.inr e, fun _ => h3, fun _ => e, fun h => by omega⟩
  · have e : civE c y = 0 := by unfold civE; rw [hv, if_pos rfl, if_pos h, if_neg h3]
    refine ⟨.inl e, fun h => by omega, fun h => absurd h h3, fun _ => ?_⟩
    have ex : civX c y = c.gX_l.getD 0 0 + leastF (civQ c y) (civN c) := by unfold civX; rw [if_pos e]
    have hN : 0 ≤ civN c := by unfold civN; omega
    obtain ⟨b1, b2⟩ := least_bounds (civQ c y) hN
    obtain ⟨c1, c2⟩ := least_facts (q := civQ c y) hN
    rw [ex]
    refine ⟨by omega, by unfold civN at b2 ⊢; omega, ?_, ?_⟩
    · by_cases e2 : leastF (civQ c y) (civN c) < civN c
      · have := c1 e2
        unfold civQ at this
        rw [decide_eq_true_eq] at this
        exact this
      · rw [show c.gX_l.getD 0 0 + leastF (civQ c y) (civN c) = c.gX_l.getD ((c.gX_n : Int) - 1).toNat 0 by unfold civN at e2 b2 ⊢; omega, value_last hX hv]
        omega
    · by_cases e2 : leastF (civQ c y) (civN c) = 0
      · left; omega
      · right
        have := c2 (leastF (civQ c y) (civN c) - 1) (by omega) (by omega)
        unfold civQ at this
        rw [decide_eq_false_iff_not] at this
        rw [show c.gX_l.getD 0 0 + leastF (civQ c y) (civN c) - 1 = c.gX_l.getD 0 0 + (leastF (civQ c y) (civN c) - 1) by omega]
        unfold civQ
        omega
/-- the values at the ends of a range, and at the nodes between them -/
def ovT (c : Crv) (a b i : Int) : List Int := valueV c b :: ((List.range i.toNat).filter fun j => decide (a < c.gX_l.getD j 0) && decide (c.gX_l.getD j 0 < b)).map fun j => c.gY_l.getD j 0
def ovLo (c : Crv) (a b : Int) : Int := minF (valueV c a) (ovT c a b (c.gX_n : Int))
def ovHi (c : Crv) (a b : Int) : Int := maxF (valueV c a) (ovT c a b (c.gX_n : Int))
theorem ovT_zero (c : Crv) (a b : Int) : ovT c a b 0 = [valueV c b] := by simp [ovT]
theorem ovT_yes {c : Crv} {a b i : Int} (h0 : 0 ≤ i) (h1 : a < c.gX_l.getD i.toNat 0) (h2 : c.gX_l.getD i.toNat 0 < b) : ovT c a b (i + 1) = ovT c a b i ++ [c.gY_l.getD i.toNat 0] := by
  unfold ovT
  rw [show (i + 1).toNat = i.toNat + 1 by omega, List.range_succ, List.filter_append, List.map_append, List.filter_cons, if_pos (by simp only [Bool.and_eq_true, decide_eq_true_eq]; omega)]
  rfl
theorem ovT_no {c : Crv} {a b i : Int} (h0 : 0 ≤ i) (h1 : ¬ a < c.gX_l.getD i.toNat 0 ∨ ¬ c.gX_l.getD i.toNat 0 < b) : ovT c a b (i + 1) = ovT c a b i := by
  unfold ovT
  rw [show (i + 1).toNat = i.toNat + 1 by omega, List.range_succ, List.filter_append, List.map_append, List.filter_cons, if_neg (by simp only [Bool.and_eq_true, decide_eq_true_eq]; omega)]
  simp
theorem ovT_mem {c : Crv} {a b i v : Int} : v ∈ ovT c a b i ↔ v = valueV c b ∨ ∃ j, j < i.toNat ∧ (a < c.gX_l.getD j 0 ∧ c.gX_l.getD j 0 < b) ∧ c.gY_l.getD j 0 = v := by
  simp [ovT, List.mem_filter, and_assoc]
/-- r is the least value over the range -/
def IsLo (c : Crv) (a b r : Int) : Prop := (∃ z, a ≤ z ∧ z ≤ b ∧ valueV c z = r) ∧ ∀ z, a ≤ z → z ≤ b → r ≤ valueV c z
def IsHi (c : Crv) (a b r : Int) : Prop := (∃ z, a ≤ z ∧ z ≤ b ∧ valueV c z = r) ∧ ∀ z, a ≤ z → z ≤ b → valueV c z ≤ r
theorem IsLo.eq {c : Crv} {a b r s : Int} (h : IsLo c a b r) (k : IsLo c a b s) : r = s := by
  obtain ⟨⟨z, h1, h2, h3⟩, h4⟩ := h
  obtain ⟨⟨y, k1, k2, k3⟩, k4⟩ := k
  have := h4 y k1 k2; have := k4 z h1 h2; omega
theorem IsHi.eq {c : Crv} {a b r s : Int} (h : IsHi c a b r) (k : IsHi c a b s) : r = s := by
  obtain ⟨⟨z, h1, h2, h3⟩, h4⟩ := h
  obtain ⟨⟨y, k1, k2, k3⟩, k4⟩ := k
  have := h4 y k1 k2; have := k4 z h1 h2; omega
/-- around a point of a range: two points of the range, each an end or a node, with no node between them -/
theorem around {l : List Int} {a b z : Int} (ha : a ≤ z) (hb : z ≤ b) : ∃ u v, (u = a ∨ u ∈ l ∧ a < u ∧ u < b) ∧ (v = b ∨ v ∈ l ∧ a < v ∧ v < b) ∧ u ≤ z ∧ z ≤ v ∧ ∀ k ∈ l, k ≤ u ∨ v ≤ k := by
  obtain ⟨u, v, h1, h2, h3, h4, h5⟩ := pts_around (l := l) ha hb
  simp only [ptsF, List.mem_append, List.mem_cons, List.not_mem_nil, or_false, List.mem_filter, Bool.and_eq_true, decide_eq_true_eq] at h1 h2
  have e1 : (u = a ∨ u ∈ l ∧ a < u ∧ u < b) ∨ u = b := by rcases h1 with (h | h) | h <;> simp [h]
  have e2 : (v = b ∨ v ∈ l ∧ a < v ∧ v < b) ∨ v = a := by rcases h2 with (h | h) | h <;> simp [h]
  rcases e1 with e1 | e1
  · rcases e2 with e2 | e2
    · exact ⟨u, v, e1, e2, h3, h4, h5⟩
    · have hz : z = a := by omega
      by_cases hab : a = b
      · exact ⟨u, v, e1, .inl (by omega), h3, h4, h5⟩
      · obtain ⟨u', v', k1, k2, k3, k4, k5⟩ := pts_around (l := l) (x := a) (a := a) (b := b) (Int.le_refl _) (by omega)
        -- the next point above a
        have key : ∀ l : List Int, ∃ v, (v = b ∨ v ∈ l ∧ a < v ∧ v < b) ∧ a ≤ v ∧ ∀ k ∈ l, k ≤ a ∨ v ≤ k := by
          intro l
          induction l with
          | nil => exact ⟨b, .inl rfl, by omega, by simp⟩
          | cons x l ih =>
            obtain ⟨v, i1, i2, i3⟩ := ih
            by_cases hx : a < x ∧ x < v
            · refine ⟨x, .inr ⟨by simp, hx.1, ?_⟩, by omega, fun k hk => ?_⟩
              · rcases i1 with i1 | ⟨_, _, i1⟩ <;> omega
              · rcases List.mem_cons.1 hk with rfl | hk
                · exact .inr (Int.le_refl _)
                · have := i3 k hk; omega
            · refine ⟨v, ?_, i2, fun k hk => ?_⟩
              · rcases i1 with i1 | ⟨i1, i4⟩
                · exact .inl i1
                · exact .inr ⟨by simp [i1], i4⟩
              · rcases List.mem_cons.1 hk with rfl | hk
                · omega
                · exact i3 k hk
        obtain ⟨v2, i1, i2, i3⟩ := key l
        exact ⟨a, v2, .inl rfl, i1, by omega, by omega, i3⟩
  · have hz : z = b := by omega
    have key : ∀ l : List Int, ∃ u, (u = a ∨ u ∈ l ∧ a < u ∧ u < b) ∧ u ≤ b ∧ ∀ k ∈ l, k ≤ u ∨ b ≤ k := by
      intro l
      induction l with
      | nil => exact ⟨a, .inl rfl, by omega, by simp⟩
      | cons x l ih =>
        obtain ⟨u, i1, i2, i3⟩ := ih
        by_cases hx : u < x ∧ x < b
        · refine ⟨x, .inr ⟨by simp, ?_, hx.2⟩, by omega, fun k hk => ?_⟩
          · rcases i1 with i1 | ⟨_, i1, _⟩ <;> omega
          · rcases List.mem_cons.1 hk with rfl | hk
            · exact .inl (Int.le_refl _)
            · have := i3 k hk; omega
        · refine ⟨u, ?_, i2, fun k hk => ?_⟩
          · rcases i1 with i1 | ⟨i1, i4⟩
            · exact .inl i1
            · exact .inr ⟨by simp [i1], i4⟩
          · rcases List.mem_cons.1 hk with rfl | hk
            · omega
            · exact i3 k hk
    obtain ⟨u2, i1, i2, i3⟩ := key l
    exact ⟨u2, b, i1, .inl rfl, by omega, by omega, i3⟩
theorem node_at {c : Crv} (hv : validV c = true) {j : Nat} (hj : j < c.gX_l.length) : valueV c (c.gX_l.getD j 0) = c.gY_l.getD j 0 := curve_node (validV_facts hv).2.1 hj
theorem mem_node {l : List Int} {k : Int} (h : k ∈ l) : ∃ j, j < l.length ∧ l.getD j 0 = k := by
  obtain ⟨j, hj, rfl⟩ := List.mem_iff_getElem.1 h
  exact ⟨j, hj, by simp [List.getD, hj]⟩
theorem isLo_of {c : Crv} (hv : validV c = true) {a b r : Int} (h1 : ∃ z, a ≤ z ∧ z ≤ b ∧ valueV c z = r) (ha : r ≤ valueV c a) (hb : r ≤ valueV c b) (hn : ∀ j, j < c.gX_l.length → a < c.gX_l.getD j 0 → c.gX_l.getD j 0 < b → r ≤ c.gY_l.getD j 0) : IsLo c a b r := by
  refine ⟨h1, fun z hz1 hz2 => ?_⟩
  obtain ⟨u, v, e1, e2, e3, e4, e5⟩ := around (l := c.gX_l) hz1 hz2
  have hu : r ≤ valueV c u := by
    rcases e1 with e1 | ⟨e1, e6, e7⟩
    · rw [e1]; exact ha
    · obtain ⟨j, hj, rfl⟩ := mem_node e1
      rw [node_at hv hj]; exact hn j hj e6 e7
  have hw : r ≤ valueV c v := by
    rcases e2 with e2 | ⟨e2, e6, e7⟩
    · rw [e2]; exact hb
    · obtain ⟨j, hj, rfl⟩ := mem_node e2
      rw [node_at hv hj]; exact hn j hj e6 e7
  have := (curve_between (ys := c.gY_l) (validV_facts hv).2.1 e3 e4 e5).1
  unfold valueV at *
  omega
theorem isHi_of {c : Crv} (hv : validV c = true) {a b r : Int} (h1 : ∃ z, a ≤ z ∧ z ≤ b ∧ valueV c z = r) (ha : valueV c a ≤ r) (hb : valueV c b ≤ r) (hn : ∀ j, j < c.gX_l.length → a < c.gX_l.getD j 0 → c.gX_l.getD j 0 < b → c.gY_l.getD j 0 ≤ r) : IsHi c a b r := by
  refine ⟨h1, fun z hz1 hz2 => ?_⟩
  obtain ⟨u, v, e1, e2, e3, e4, e5⟩ := around (l := c.gX_l) hz1 hz2
  have hu : valueV c u ≤ r := by
    rcases e1 with e1 | ⟨e1, e6, e7⟩
    · rw [e1]; exact ha
    · obtain ⟨j, hj, rfl⟩ := mem_node e1
      rw [node_at hv hj]; exact hn j hj e6 e7
  have hw : valueV c v ≤ r := by
    rcases e2 with e2 | ⟨e2, e6, e7⟩
    · rw [e2]; exact hb
    · obtain ⟨j, hj, rfl⟩ := mem_node e2
      rw [node_at hv hj]; exact hn j hj e6 e7
  have := (curve_between (ys := c.gY_l) (validV_facts hv).2.1 e3 e4 e5).2
  unfold valueV at *
  omega
theorem ovLo_is {c : Crv} (hX : c.gX_l.length = c.gX_n) (hv : validV c = true) {a b : Int} (hab : a ≤ b) : IsLo c a b (ovLo c a b) := by
  obtain ⟨n1, n2, n3⟩ := minF_spec (valueV c a) (ovT c a b (c.gX_n : Int))
  refine isLo_of hv ?_ n2 (n3 _ (ovT_mem.2 (.inl rfl))) fun j hj h1 h2 => n3 _ (ovT_mem.2 (.inr ⟨j, by omega, ⟨h1, h2⟩, rfl⟩))
  rcases n1 with h | h
  · exact ⟨a, Int.le_refl _, hab, h.symm⟩
  · rcases ovT_mem.1 h with h | ⟨j, hj, ⟨h1, h2⟩, h3⟩
    · exact ⟨b, hab, Int.le_refl _, h.symm⟩
    · exact ⟨c.gX_l.getD j 0, by omega, by omega, by rw [node_at hv (by omega)]; exact h3⟩
theorem ovHi_is {c : Crv} (hX : c.gX_l.length = c.gX_n) (hv : validV c = true) {a b : Int} (hab : a ≤ b) : IsHi c a b (ovHi c a b) := by
  obtain ⟨n1, n2, n3⟩ := maxF_spec (valueV c a) (ovT c a b (c.gX_n : Int))
  refine isHi_of hv ?_ n2 (n3 _ (ovT_mem.2 (.inl rfl))) fun j hj h1 h2 => n3 _ (ovT_mem.2 (.inr ⟨j, by omega, ⟨h1, h2⟩, rfl⟩))
  rcases n1 with h | h
  · exact ⟨a, Int.le_refl _, hab, h.symm⟩
  · rcases ovT_mem.1 h with h | ⟨j, hj, ⟨h1, h2⟩, h3⟩
    · exact ⟨b, hab, Int.le_refl _, h.symm⟩
    · exact ⟨c.gX_l.getD j 0, by omega, by omega, by rw [node_at hv (by omega)]; exact h3⟩
theorem isLo_join {c : Crv} {a b x r s : Int} (h1 : a ≤ x) (h2 : x ≤ b) (hr : IsLo c a x r) (hs : IsLo c x b s) : IsLo c a b (min r s) := by
  obtain ⟨⟨z, z1, z2, z3⟩, z4⟩ := hr
  obtain ⟨⟨y, y1, y2, y3⟩, y4⟩ := hs
  refine ⟨?_, fun k k1 k2 => ?_⟩
  · rcases Int.le_total r s with h | h
    · exact ⟨z, z1, by omega, by omega⟩
    · exact ⟨y, by omega, y2, by omega⟩
  · rcases Int.le_total k x with h | h
    · have := z4 k k1 h; omega
    · have := y4 k h k2; omega
theorem isHi_join {c : Crv} {a b x r s : Int} (h1 : a ≤ x) (h2 : x ≤ b) (hr : IsHi c a x r) (hs : IsHi c x b s) : IsHi c a b (max r s) := by
  obtain ⟨⟨z, z1, z2, z3⟩, z4⟩ := hr
  obtain ⟨⟨y, y1, y2, y3⟩, y4⟩ := hs
  refine ⟨?_, fun k k1 k2 => ?_⟩
  · rcases Int.le_total r s with h | h
    · exact ⟨y, by omega, y2, by omega⟩
    · exact ⟨z, z1, by omega, by omega⟩
  · rcases Int.le_total k x with h | h
    · have := z4 k k1 h; omega
    · have := y4 k h k2; omega
def covE (c : Crv) (a b : Int) : Int := if validV c = true ∧ a ≤ b then 0 else 1
def covL (c : Crv) (a b : Int) : Int := if validV c = true ∧ a ≤ b then ovLo c a b else 0
def covH (c : Crv) (a b : Int) : Int := if validV c = true ∧ a ≤ b then ovHi c a b else 0
theorem cov_no {c : Crv} {a b : Int} (h : validV c = false ∨ a > b) : covE c a b = 1 ∧ covL c a b = 0 ∧ covH c a b = 0 := by
  have : ¬ (validV c = true ∧ a ≤ b) := by
    rintro ⟨h1, h2⟩
    rcases h with h | h
    · rw [h1] at h; cases h
    · omega
  unfold covE covL covH; rw [if_neg this, if_neg this, if_neg this]; exact ⟨rfl, rfl, rfl⟩
theorem cov_yes {c : Crv} {a b : Int} (h : validV c = true) (h1 : a ≤ b) : covE c a b = 0 ∧ covL c a b = ovLo c a b ∧ covH c a b = ovHi c a b := by
  unfold covE covL covH; rw [if_pos ⟨h, h1⟩, if_pos ⟨h, h1⟩, if_pos ⟨h, h1⟩]; exact ⟨rfl, rfl, rfl⟩
theorem lo_step {c : Crv} {a b r i : Int} (hv : validV c = true) (h0 : 0 ≤ i) (hi : i < (c.gX_l.length : Int)) (h1 : a ≤ c.gX_l.getD i.toNat 0) (h2 : c.gX_l.getD i.toNat 0 ≤ b) (h : ∃ z, a ≤ z ∧ z ≤ b ∧ valueV c z = r) : ∃ z, a ≤ z ∧ z ≤ b ∧ valueV c z = min r (c.gY_l.getD i.toNat 0) := by
  rcases Int.le_total r (c.gY_l.getD i.toNat 0) with e | e
  · obtain ⟨z, k1, k2, k3⟩ := h
    exact ⟨z, k1, k2, by omega⟩
  · exact ⟨_, h1, h2, by rw [node_at hv (by omega)]; omega⟩
theorem hi_step {c : Crv} {a b r i : Int} (hv : validV c = true) (h0 : 0 ≤ i) (hi : i < (c.gX_l.length : Int)) (h1 : a ≤ c.gX_l.getD i.toNat 0) (h2 : c.gX_l.getD i.toNat 0 ≤ b) (h : ∃ z, a ≤ z ∧ z ≤ b ∧ valueV c z = r) : ∃ z, a ≤ z ∧ z ≤ b ∧ valueV c z = max r (c.gY_l.getD i.toNat 0) := by
  rcases Int.le_total (c.gY_l.getD i.toNat 0) r with e | e
  · obtain ⟨z, k1, k2, k3⟩ := h
    exact ⟨z, k1, k2, by omega⟩
  · exact ⟨_, h1, h2, by rw [node_at hv (by omega)]; omega⟩
theorem lo_first {c : Crv} {a b : Int} (h : a ≤ b) : ∃ z, a ≤ z ∧ z ≤ b ∧ valueV c z = min (valueV c a) (valueV c b) := by
  rcases Int.le_total (valueV c a) (valueV c b) with e | e
  · exact ⟨a, by omega, h, by omega⟩
  · exact ⟨b, h, by omega, by omega⟩
theorem hi_first {c : Crv} {a b : Int} (h : a ≤ b) : ∃ z, a ≤ z ∧ z ≤ b ∧ valueV c z = max (valueV c a) (valueV c b) := by
  rcases Int.le_total (valueV c a) (valueV c b) with e | e
  · exact ⟨b, h, by omega, by omega⟩
  · exact ⟨a, by omega, h, by omega⟩

end Go.Proofs.YtdilhoibcbihlaaDoor
