/- Walks of functions of this seat, printed by a program over the engine. Conditions: as each theorem says. -/
import Derived.Test.YtadgnficogeheaaGreatDoorZsT25
namespace Go.Proofs.YtadgnficogeheaaGreatDoor
open Go.Eng Go.RowKit
set_option linter.unusedSimpArgs false
set_option linter.unusedVariables false
/-! the law of a map's texts, in plain words -/
theorem clm_tl1 {w0 w : World} {a b c : Eng.Claim} {T : List Eng.Claim} (A : List Eng.Claim) (S : Sep w0 ((a :: b :: c :: T) ++ A) w) : Sep w0 (a :: b :: c :: (A ++ T)) w :=
  clm_perm6 (List.Perm.cons _ (List.Perm.cons _ (List.Perm.cons _ List.perm_append_comm))) S
theorem clm_tl2 {w0 w : World} {a b c : Eng.Claim} {T U : List Eng.Claim} (A : List Eng.Claim) (S : Sep w0 ((a :: b :: c :: T) ++ (A ++ U)) w) : Sep w0 (a :: b :: c :: (A ++ (T ++ U))) w := by
  refine clm_perm6 (List.Perm.cons _ (List.Perm.cons _ (List.Perm.cons _ ?_))) S
  show (T ++ (A ++ U)).Perm _
  rw [← List.append_assoc, ← List.append_assoc]
  exact List.perm_append_comm.append_right U
theorem tx_parsed {s : ByteArray} {c : Mp} (hl : lenM c) (hc : prE s = 0 → mvM c = mvB (lnsB s)) (h : prE s = 0) : txM c = s := by
  obtain ⟨h1, h2⟩ := back_text h
  have h3 := hc h
  have h4 : validM c = true := by rw [valid_v hl, h3]; exact h2
  unfold txM; rw [if_pos h4, h3]; exact h1
theorem tx_none {m : Mp} (h : validM m = false) : txM m = ByteArray.empty := by unfold txM; rw [if_neg (by rw [h]; decide)]
theorem fold_size {B : Nat} : ∀ (z : List (List Int)) (t : ByteArray), (∀ r ∈ z, (lnT WZ r).size ≤ B) → (z.foldl (fun t r => t ++ lnT WZ r) t).size ≤ t.size + z.length * B
  | [], t, _ => by simp
  | r :: z, t, h => by
    have h1 := fold_size (B := B) z (t ++ lnT WZ r) fun x hx => h x (List.mem_cons_of_mem _ hx)
    have h2 := h r (List.mem_cons_self ..)
    rw [ByteArray.size_append] at h1
    rw [List.foldl_cons, List.length_cons, Nat.add_mul]
    omega
theorem tx_bd {w : World} {m : Mp} (hm : mpQ w m) (hv : validM m = true) : (txM m).size ≤ 4000000 := by
  have hl := lenM_of hm
  obtain ⟨h1, h2, h3, h4⟩ := valid_facts hv
  have a1 := (axis_facts h1).1
  have a2 := (axis_facts h2).1
  unfold txM; rw [if_pos hv]
  unfold txV mvM
  have s1 := lnT_size (wd := WX) (l := m.gX_l) (by decide) (by omega) hm.2.2.1
  have s2 := lnT_size (wd := WY) (l := m.gY_l) (by decide) (by omega) hm.2.2.2.2.2.1
  have s3 := fold_size (B := 102420) (m.gZ_l.map fun r => r.gS_l) (lnT WX m.gX_l ++ lnT WY m.gY_l) fun r hr => by
    obtain ⟨q, hq, rfl⟩ := List.mem_map.1 hr
    have hz := zn_small hm hv q hq
    have hq2 := (hm.2.2.2.2.2.2.2.2.1) q hq
    have hq3 := hq2.2.1.len_eq
    exact lnT_size (by decide) (by omega) hq2.2.2.1
  rw [List.length_map, ByteArray.size_append] at s3
  have hz3 := hl.2.2.1
  have hx := hl.1
  have : m.gZ_l.length * 102420 ≤ 32 * 102420 := Nat.mul_le_mul_right _ (by omega)
  show (List.foldl _ (lnT WX m.gX_l ++ lnT WY m.gY_l) (m.gZ_l.map fun r => r.gS_l)).size ≤ _
  omega
theorem tx_own {w : World} {m : Mp} (hm : mpQ w m) (hv : validM m = true) (h : ¬ 16384 < (txM m).size) : prE (txM m) = 0 ∧ mvB (lnsB (txM m)) = mvM m := by
  have h1 : txM m = txV (mvM m) := by unfold txM; rw [if_pos hv]
  rw [h1] at h ⊢
  exact own_text (by rw [← valid_v (lenM_of hm)]; exact hv) (by omega)
theorem set_cases {m : Mp} {i j z : Int} (hv : validM m = true) (hi : 0 ≤ i ∧ i < (m.gX_n : Int)) (hj : 0 ≤ j ∧ j < (m.gY_n : Int)) (h : setE m i j z ≠ 0) : setE m i j z = 2 ∧ (z < -1073741824 ∨ 1073741824 < z) := by
  cases he : elB z with
  | true => exact absurd (setE0 hv hi.1 hi.2 hj.1 hj.2 he) h
  | false => exact ⟨setE2 hv (.inr (.inr (.inr (.inr he)))), elB_not he⟩
theorem at_valid6 {m : Mp} (hv : validM m = true) (x y : Int) : atF m x y = valueF m x y := by unfold atF; rw [hv]; rfl
theorem set_good {m c : Mp} {i j z : Int} {w : World} (hm : mpQ w m) (hl : lenM c) (hv : validM m = true) (hi : 0 ≤ i ∧ i < (m.gX_n : Int)) (hj : 0 ≤ j ∧ j < (m.gY_n : Int)) (hc : setE m i j z = 0 → mvM c = setV (mvM m) i.toNat j.toNat z) (h : setE m i j z = 0) :
    mvM c = setV (mvM m) i.toNat j.toNat z ∧ validM c = true := by
  have h1 := hc h
  refine ⟨h1, ?_⟩
  cases he : elB z with
  | false => rw [setE2 hv (.inr (.inr (.inr (.inr he))))] at h; cases h
  | true =>
    rw [valid_v hl, h1]
    exact set_valid (by rw [← valid_v (lenM_of hm)]; exact hv) he
theorem set_at {m c : Mp} {i j z : Int} {w : World} (hm : mpQ w m) (hl : lenM c) (hv : validM m = true) (hi : 0 ≤ i ∧ i < (m.gX_n : Int)) (hj : 0 ≤ j ∧ j < (m.gY_n : Int)) (hc : mvM c = setV (mvM m) i.toNat j.toNat z ∧ validM c = true) : atF c (m.gX_l.getD i.toNat 0) (m.gY_l.getD j.toNat 0) = z := by
  rw [at_valid6 hc.2]
  exact set_node (lenM_of hm) hl hv hc.1 (by omega) (by omega)
theorem set_away {m c : Mp} {i j z x y : Int} {w : World} (hm : mpQ w m) (hl : lenM c) (hv : validM m = true) (hi : 0 ≤ i ∧ i < (m.gX_n : Int)) (hj : 0 ≤ j ∧ j < (m.gY_n : Int)) (hc : mvM c = setV (mvM m) i.toNat j.toNat z ∧ validM c = true)
    (hf : ((0 < i ∧ x ≤ m.gX_l.getD (i - 1).toNat 0) ∨ (i + 1 < (m.gX_n : Int) ∧ m.gX_l.getD (i + 1).toNat 0 ≤ x)) ∨ ((0 < j ∧ y ≤ m.gY_l.getD (j - 1).toNat 0) ∨ (j + 1 < (m.gY_n : Int) ∧ m.gY_l.getD (j + 1).toNat 0 ≤ y))) : atF c x y = atF m x y := by
  rw [at_valid6 hc.2, at_valid6 hv]
  refine set_far (lenM_of hm) hl hv hc.1 (by omega) (by omega) ?_
  have e1 : (i - 1).toNat = i.toNat - 1 := by omega
  have e2 : (i + 1).toNat = i.toNat + 1 := by omega
  have e3 : (j - 1).toNat = j.toNat - 1 := by omega
  have e4 : (j + 1).toNat = j.toNat + 1 := by omega
  rw [e1, e2, e3, e4] at hf
  rcases hf with (⟨f1, f2⟩ | ⟨f1, f2⟩) | (⟨f1, f2⟩ | ⟨f1, f2⟩)
  · exact .inl (.inl ⟨by omega, f2⟩)
  · exact .inl (.inr ⟨by omega, f2⟩)
  · exact .inr (.inl ⟨by omega, f2⟩)
  · exact .inr (.inr ⟨by omega, f2⟩)

end Go.Proofs.YtadgnficogeheaaGreatDoor

