/- Walks of functions of this seat, printed by a program over the engine. Conditions: as each theorem says. -/
import Derived.Test.YtdilhoibcbihlaaDoorZV6
namespace Go.Proofs.YtdilhoibcbihlaaDoor
open Go.Eng Go.RowKit
set_option linter.unusedSimpArgs false
set_option linter.unusedVariables false
theorem seg_exists {xs : List Int} (x : Int) (ax : axisB xs = true) : ∃ (i : Nat) (x' : Int), i + 1 < xs.length ∧ xs.getD i 0 ≤ x' ∧ x' ≤ xs.getD (i + 1) 0 ∧ (x' < xs.getD (i + 1) 0 ∨ i + 2 = xs.length) ∧ x' = min (max x (xs.getD 0 0)) (xs.getD (xs.length - 1) 0) := by
  obtain ⟨hl, _⟩ := axis_facts ax
  have hends := axis_mono ax (show 0 < xs.length - 1 by omega) (by omega)
  obtain ⟨x', hx⟩ : ∃ x', x' = min (max x (xs.getD 0 0)) (xs.getD (xs.length - 1) 0) := ⟨_, rfl⟩
  have key : ∀ k, k + 2 ≤ xs.length → (∃ i, i < k ∧ xs.getD i 0 ≤ x' ∧ x' < xs.getD (i + 1) 0) ∨ xs.getD k 0 ≤ x' := by
    intro k
    induction k with
    | zero => intro _; right; omega
    | succ k ih =>
      intro hk
      rcases ih (by omega) with ⟨i, h1, h2, h3⟩ | h
      · exact .inl ⟨i, by omega, h2, h3⟩
      · by_cases h2 : x' < xs.getD (k + 1) 0
        · exact .inl ⟨k, by omega, h, h2⟩
        · exact .inr (by omega)
  rcases key (xs.length - 2) (by omega) with ⟨i, h1, h2, h3⟩ | h
  · exact ⟨i, x', by omega, h2, by omega, .inl h3, hx⟩
  · exact ⟨xs.length - 2, x', by omega, h, by rw [show xs.length - 2 + 1 = xs.length - 1 by omega]; omega, .inr (by omega), hx⟩
theorem btw_mono_x {x0 x1 y0 y1 x x' : Int} (h : x0 < x1) (hx : x ≤ x') (hy : y0 ≤ y1) : btwF x0 x1 y0 y1 x ≤ btwF x0 x1 y0 y1 x' := by
  unfold btwF
  have a1 := Int.mul_le_mul_of_nonneg_right (show x - x0 ≤ x' - x0 by omega) (show 0 ≤ y1 - y0 by omega)
  have := Int.ediv_le_ediv (show 0 < x1 - x0 by omega) a1
  omega
theorem mono_le {ys : List Int} {n : Nat} (h : ∀ j, j + 1 < n → ys.getD j 0 ≤ ys.getD (j + 1) 0) : ∀ {i j : Nat}, i ≤ j → j < n → ys.getD i 0 ≤ ys.getD j 0 := by
  intro i j
  induction j with
  | zero => intro h1 _; rw [show i = 0 by omega]; exact Int.le_refl _
  | succ j ih =>
    intro h1 h2
    by_cases e : i = j + 1
    · subst e; exact Int.le_refl _
    · exact Int.le_trans (ih (by omega) (by omega)) (h j h2)
theorem curve_mono_x {xs ys : List Int} {x z : Int} (ax : axisB xs = true) (h : ∀ j, j + 1 < xs.length → ys.getD j 0 ≤ ys.getD (j + 1) 0) (hx : x ≤ z) : curveF xs ys x ≤ curveF xs ys z := by
  obtain ⟨i, x', h1, h2, h3, h4, h5⟩ := seg_exists x ax
  obtain ⟨k, z', k1, k2, k3, k4, k5⟩ := seg_exists z ax
  rw [curve_seg ax h1 h2 h3 h4 h5, curve_seg ax k1 k2 k3 k4 k5]
  have hxz : x' ≤ z' := by rw [h5, k5]; omega
  have m1 := axis_mono ax (show i < i + 1 by omega) h1
  have m2 := axis_mono ax (show k < k + 1 by omega) k1
  rcases Nat.lt_trichotomy i k with e | e | e
  · have b1 := (btw_bounds (y0 := ys.getD i 0) (y1 := ys.getD (i + 1) 0) m1 h2 h3).1 (h i h1)
    have b2 := (btw_bounds (y0 := ys.getD k 0) (y1 := ys.getD (k + 1) 0) m2 k2 k3).1 (h k k1)
    have := mono_le h (show i + 1 ≤ k by omega) (by omega)
    omega
  · subst e; exact btw_mono_x m1 hxz (h i h1)
  · have := axis_le ax (show k + 1 ≤ i by omega) (by omega)
    have e2 : x' = z' := by omega
    subst e2
    have b1 := (btw_bounds (y0 := ys.getD i 0) (y1 := ys.getD (i + 1) 0) m1 h2 h3).1 (h i h1)
    have hk : x' = xs.getD (k + 1) 0 := by omega
    have hi : xs.getD i 0 = xs.getD (k + 1) 0 := by omega
    have hik : i = k + 1 := by
      rcases Nat.lt_or_ge (k + 1) i with e3 | e3
      · have := axis_mono ax e3 (by omega); omega
      · omega
    subst hik
    have e4 : btwF (xs.getD k 0) (xs.getD (k + 1) 0) (ys.getD k 0) (ys.getD (k + 1) 0) x' = ys.getD (k + 1) 0 := by rw [hk]; exact btw_right _ _ m2
    have e5 : btwF (xs.getD (k + 1) 0) (xs.getD (k + 1 + 1) 0) (ys.getD (k + 1) 0) (ys.getD (k + 1 + 1) 0) x' = ys.getD (k + 1) 0 := by rw [hk]; exact btw_left _ _ _ _
    omega
theorem curve_node {xs ys : List Int} {i : Nat} (ax : axisB xs = true) (hi : i < xs.length) : curveF xs ys (xs.getD i 0) = ys.getD i 0 := by
  have hl := (axis_facts ax).1
  have h0 := axis_le ax (show 0 ≤ i by omega) hi
  have h1 := axis_le ax (show i ≤ xs.length - 1 by omega) (by omega)
  by_cases e : i + 1 < xs.length
  · have m := axis_mono ax (show i < i + 1 by omega) e
    rw [curve_seg (x' := xs.getD i 0) ax e (Int.le_refl _) (by omega) (.inl m) (by omega)]
    exact btw_left _ _ _ _
  · have e1 : i - 1 + 1 = i := by omega
    have m := axis_mono ax (show i - 1 < i by omega) hi
    rw [curve_seg (x' := xs.getD i 0) (i := i - 1) ax (by omega) (by omega) (by rw [e1]; exact Int.le_refl _) (.inr (by omega)) (by omega), e1]
    exact btw_right _ _ m
def leastF (q : Int → Bool) (n : Int) : Int := (((List.range n.toNat).findIdx (fun k : Nat => q (k : Int)) : Nat) : Int)
theorem least_eq {q : Int → Bool} {n r : Int} (hq : ∀ i j, 0 ≤ i → i ≤ j → j < n → q i = true → q j = true) (h0 : 0 ≤ r ∧ r ≤ n) (h1 : r = 0 ∨ q (r - 1) = false) (h2 : r = n ∨ q r = true) : leastF q n = r := by
  unfold leastF
  have key : (List.range n.toNat).findIdx (fun k : Nat => q (k : Int)) = r.toNat := by
    rcases h2 with h2 | h2
    · subst h2
      refine (List.findIdx_eq_length.2 ?_).trans (by simp : (List.range r.toNat).length = r.toNat)
      intro x hx
      simp only [List.mem_range] at hx
      rcases h1 with h1 | h1
      · omega
      · cases e : q (x : Int) with
        | false => rfl
        | true => rw [hq x (r - 1) (by omega) (by omega) (by omega) e] at h1; cases h1
    · by_cases e : r = n
      · subst e
        refine (List.findIdx_eq_length.2 ?_).trans (by simp : (List.range r.toNat).length = r.toNat)
        intro x hx
        simp only [List.mem_range] at hx
        rcases h1 with h1 | h1
        · omega
        · cases e : q (x : Int) with
          | false => rfl
          | true => rw [hq x (r - 1) (by omega) (by omega) (by omega) e] at h1; cases h1
      · rw [List.findIdx_eq (by simp; omega)]
        simp only [List.getElem_range]
        refine ⟨by rw [show ((r.toNat : Nat) : Int) = r by omega]; exact h2, fun j hj => ?_⟩
        rcases h1 with h1 | h1
        · omega
        · cases e : q (j : Int) with
          | false => rfl
          | true => rw [hq j (r - 1) (by omega) (by omega) (by omega) e] at h1; cases h1
  rw [key]; omega
def minF (d : Int) (l : List Int) : Int := l.foldl min d
def maxF (d : Int) (l : List Int) : Int := l.foldl max d
theorem minF_snoc (d : Int) (l : List Int) (v : Int) : minF d (l ++ [v]) = min (minF d l) v := by simp [minF]
theorem maxF_snoc (d : Int) (l : List Int) (v : Int) : maxF d (l ++ [v]) = max (maxF d l) v := by simp [maxF]
theorem curve_cell {xs : List Int} (ys : List Int) {i : Nat} {z : Int} (ax : axisB xs = true) (a1 : i + 1 < xs.length) (z1 : xs.getD i 0 ≤ z) (z2 : z ≤ xs.getD (i + 1) 0) : curveF xs ys z = btwF (xs.getD i 0) (xs.getD (i + 1) 0) (ys.getD i 0) (ys.getD (i + 1) 0) z := by
  have m := axis_mono ax (show i < i + 1 by omega) a1
  have l0 := axis_le ax (show 0 ≤ i by omega) (by omega)
  have l1 := axis_le ax (show i + 1 ≤ xs.length - 1 by omega) (by omega)
  by_cases z3 : z < xs.getD (i + 1) 0 ∨ i + 2 = xs.length
  · exact curve_seg ax a1 z1 z2 z3 (by omega)
  · have z4 : z = xs.getD (i + 1) 0 := by omega
    rw [z4, curve_node ax a1, btw_right _ _ m]
def upT (l : List Int) (i : Int) : Bool := (List.range i.toNat).all fun j => decide (l.getD j 0 ≤ l.getD (j + 1) 0)
def dnT (l : List Int) (i : Int) : Bool := (List.range i.toNat).all fun j => decide (l.getD j 0 ≥ l.getD (j + 1) 0)
def dirL (l : List Int) : Int := if upT l ((l.length : Int) - 1) then 1 else if dnT l ((l.length : Int) - 1) then -1 else 0
theorem upT_step {l : List Int} {i : Int} (h0 : 0 ≤ i) : upT l (i + 1) = (upT l i && decide (l.getD i.toNat 0 ≤ l.getD (i + 1).toNat 0)) := by
  unfold upT
  rw [show (i + 1).toNat = i.toNat + 1 by omega, List.range_succ, List.all_append]; simp
theorem dnT_step {l : List Int} {i : Int} (h0 : 0 ≤ i) : dnT l (i + 1) = (dnT l i && decide (l.getD i.toNat 0 ≥ l.getD (i + 1).toNat 0)) := by
  unfold dnT
  rw [show (i + 1).toNat = i.toNat + 1 by omega, List.range_succ, List.all_append]; simp
theorem upT_facts {l : List Int} (h : upT l ((l.length : Int) - 1) = true) : ∀ j, j + 1 < l.length → l.getD j 0 ≤ l.getD (j + 1) 0 := by
  intro j hj
  unfold upT at h
  simp only [List.all_eq_true, List.mem_range, decide_eq_true_eq] at h
  exact h j (by omega)
def dirV (c : Crv) : Int := if validV c then dirL c.gY_l else 0
theorem dir_up {l : List Int} (h : upT l ((l.length : Int) - 1) = true) : dirL l = 1 := by unfold dirL; rw [if_pos h]
theorem dir_dn {l : List Int} (h : upT l ((l.length : Int) - 1) = false) (h2 : dnT l ((l.length : Int) - 1) = true) : dirL l = -1 := by unfold dirL; rw [if_neg (by rw [h]; decide), if_pos h2]
theorem dir_no {l : List Int} (h : upT l ((l.length : Int) - 1) = false) (h2 : dnT l ((l.length : Int) - 1) = false) : dirL l = 0 := by unfold dirL; rw [if_neg (by rw [h]; decide), if_neg (by rw [h2]; decide)]
theorem dir_one {l : List Int} : dirL l = 1 ↔ upT l ((l.length : Int) - 1) = true := by
  unfold dirL
  constructor
  · intro h
    cases hu : upT l ((l.length : Int) - 1) with
    | true => rfl
    | false => rw [hu] at h; simp only [Bool.false_eq_true, if_false] at h; split at h <;> omega
  · intro h; rw [if_pos h]
theorem value_mono_c {c : Crv} (hX : c.gX_l.length = c.gX_n) (hY : c.gY_l.length = c.gX_n) (hv : validV c = true) (hu : upT c.gY_l ((c.gY_l.length : Int) - 1) = true) {x z : Int} (h : x ≤ z) : valueV c x ≤ valueV c z :=
  curve_mono_x (validV_facts hv).2.1 (fun j hj => upT_facts hu j (by omega)) h
def civQ (c : Crv) (y i : Int) : Bool := decide (valueV c (c.gX_l.getD 0 0 + i) ≥ y)
def civN (c : Crv) : Int := c.gX_l.getD ((c.gX_n : Int) - 1).toNat 0 - c.gX_l.getD 0 0
def civE (c : Crv) (y : Int) : Int := if validV c then (if dirL c.gY_l = 1 then (if c.gY_l.getD ((c.gX_n : Int) - 1).toNat 0 < y then 2 else 0) else 6) else 1
def civX (c : Crv) (y : Int) : Int := if civE c y = 0 then c.gX_l.getD 0 0 + leastF (civQ c y) (civN c) else 0
theorem civ1 {c : Crv} {y : Int} (h : validV c = false) : civE c y = 1 ∧ civX c y = 0 := by
  have e : civE c y = 1 := by unfold civE; rw [h]; rfl
  exact ⟨e, by unfold civX; rw [e]; rfl⟩
theorem civ2 {c : Crv} {y : Int} (h : validV c = true) (h2 : dirL c.gY_l ≠ 1) : civE c y = 6 ∧ civX c y = 0 := by
  have e : civE c y = 6 := by unfold civE; rw [h, if_pos rfl, if_neg h2]
  exact ⟨e, by unfold civX; rw [e]; rfl⟩
theorem civ3 {c : Crv} {y : Int} (h : validV c = true) (h2 : dirL c.gY_l = 1) (h3 : c.gY_l.getD ((c.gX_n : Int) - 1).toNat 0 < y) : civE c y = 2 ∧ civX c y = 0 := by
  have e : civE c y = 2 := by unfold civE; rw [h, if_pos rfl, if_pos h2, if_pos h3]
  exact ⟨e, by unfold civX; rw [e]; rfl⟩
theorem civ_mono {c : Crv} (hX : c.gX_l.length = c.gX_n) (hY : c.gY_l.length = c.gX_n) (hv : validV c = true) (h2 : dirL c.gY_l = 1) (y n : Int) : ∀ i j, 0 ≤ i → i ≤ j → j < n → civQ c y i = true → civQ c y j = true := by
  intro i j _ hij _ h
  have := value_mono_c hX hY hv (dir_one.1 h2) (show c.gX_l.getD 0 0 + i ≤ c.gX_l.getD 0 0 + j by omega)
  unfold civQ at h ⊢
  rw [decide_eq_true_eq] at h ⊢
  omega
theorem civ4 {c : Crv} (hX : c.gX_l.length = c.gX_n) (hY : c.gY_l.length = c.gX_n) {y r x : Int} (h : validV c = true) (h2 : dirL c.gY_l = 1) (h3 : ¬ c.gY_l.getD ((c.gX_n : Int) - 1).toNat 0 < y)
    (hx : x = c.gX_l.getD 0 0 + r) (h4 : 0 ≤ r ∧ r ≤ civN c) (h5 : r = 0 ∨ civQ c y (r - 1) = false) (h6 : r = civN c ∨ civQ c y r = true) : civE c y = 0 ∧ civX c y = x := by
  have e : civE c y = 0 := by unfold civE; rw [h, if_pos rfl, if_pos h2, if_neg h3]
  exact ⟨e, by unfold civX; rw [if_pos e, least_eq (civ_mono hX hY h h2 y _) h4 h5 h6, hx]⟩
theorem value_last {c : Crv} (hX : c.gX_l.length = c.gX_n) (hv : validV c = true) : valueV c (c.gX_l.getD ((c.gX_n : Int) - 1).toNat 0) = c.gY_l.getD ((c.gX_n : Int) - 1).toNat 0 := by
  have hl := (axis_facts (validV_facts hv).2.1).1
  exact curve_node (validV_facts hv).2.1 (by omega)
/-- the values at the ends of a range, and at the nodes between them -/
def ovT (c : Crv) (a b i : Int) : List Int := valueV c b :: ((List.range i.toNat).filter fun j => decide (a < c.gX_l.getD j 0) && decide (c.gX_l.getD j 0 < b)).map fun j => c.gY_l.getD j 0
def ovLo (c : Crv) (a b : Int) : Int := minF (valueV c a) (ovT c a b (c.gX_n : Int))
def ovHi (c : Crv) (a b : Int) : Int := maxF (valueV c a) (ovT c a b (c.gX_n : Int))
theorem ovT_zero (c : Crv) (a b : Int) : ovT c a b 0 = [valueV c b] := by simp [ovT]
theorem ovT_yes {c : Crv} {a b i : Int} (h0 : 0 ≤ i) (h1 : a < c.gX_l.getD i.toNat 0) (h2 : c.gX_l.getD i.toNat 0 < b) : ovT c a b (i + 1) = ovT c a b i ++ [c.gY_l.getD i.toNat 0] := by
  unfold ovT
  rw [show (i + 1).toNat = i.toNat + 1 by omega, List.range_succ, List.filter_append, List.map_append, List.filter_cons, if_pos (by simp only [Bool.and_eq_true, decide_eq_true_eq]; omega)]
  rfl
theorem ovT_no {c : Crv} {a b i : Int} (h0 : 0 ≤ i) (h1 : ¬ a < c.gX_l.getD i.toNat 0 ∨ ¬ c.gX_l.getD i.toNat 0 < b) : ovT c a b (i + 1) = ovT c a b i := by
  unfold ovT
  rw [show (i + 1).toNat = i.toNat + 1 by omega, List.range_succ, List.filter_append, List.map_append, List.filter_cons, if_neg (by simp only [Bool.and_eq_true, decide_eq_true_eq]; omega)]
  simp
theorem node_at {c : Crv} (hv : validV c = true) {j : Nat} (hj : j < c.gX_l.length) : valueV c (c.gX_l.getD j 0) = c.gY_l.getD j 0 := curve_node (validV_facts hv).2.1 hj
theorem mem_node {l : List Int} {k : Int} (h : k ∈ l) : ∃ j, j < l.length ∧ l.getD j 0 = k := by
  obtain ⟨j, hj, rfl⟩ := List.mem_iff_getElem.1 h
  exact ⟨j, hj, by simp [List.getD, hj]⟩
def covE (c : Crv) (a b : Int) : Int := if validV c = true ∧ a ≤ b then 0 else 1
def covL (c : Crv) (a b : Int) : Int := if validV c = true ∧ a ≤ b then ovLo c a b else 0
def covH (c : Crv) (a b : Int) : Int := if validV c = true ∧ a ≤ b then ovHi c a b else 0
theorem cov_no {c : Crv} {a b : Int} (h : validV c = false ∨ a > b) : covE c a b = 1 ∧ covL c a b = 0 ∧ covH c a b = 0 := by
  have : ¬ (validV c = true ∧ a ≤ b) := by
    rintro ⟨h1, h2⟩
    rcases h with h | h
    · rw [h1] at h; cases h
    · omega
  unfold covE covL covH; rw [if_neg this, if_neg this, if_neg this]; exact ⟨rfl, rfl, rfl⟩
theorem cov_yes {c : Crv} {a b : Int} (h : validV c = true) (h1 : a ≤ b) : covE c a b = 0 ∧ covL c a b = ovLo c a b ∧ covH c a b = ovHi c a b := by
  unfold covE covL covH; rw [if_pos ⟨h, h1⟩, if_pos ⟨h, h1⟩, if_pos ⟨h, h1⟩]; exact ⟨rfl, rfl, rfl⟩
end Go.Proofs.YtdilhoibcbihlaaDoor

