/- Walks of functions of this seat, printed by a program over the engine. Conditions: as each theorem says. -/
import Derived.Test.YtadgnficogeheaaGreatDoorZsT21
namespace Go.Proofs.YtadgnficogeheaaGreatDoor
open Go.Eng Go.RowKit
set_option linter.unusedSimpArgs false
set_option linter.unusedVariables false
/-! rows of a map: copies, one row apart, one row turned -/
theorem add_zero6 (a : Addr) : a = a.add 0 := by simp [Addr.add]
theorem tlR_take {out : List Rw} {i : Int} (h0 : 0 ≤ i) (hi : i < (out.length : Int)) (r : Rw) : tlR ((out.set i.toNat r).take (i + 1).toNat) = rowOf Eng.encI r.gS_a r.gS_c 3 1 r.gS_l :: tlR (out.take i.toNat) := by
  rw [show (i + 1).toNat = i.toNat + 1 by omega, List.take_succ_eq_append_getElem (by rw [List.length_set]; omega), List.getElem_set_self, List.take_set_of_le (Nat.le_refl _)]
  exact tlR_snoc _ _
theorem clm_perm6 {w0 w : World} {A B : List Eng.Claim} (h : A.Perm B) (S : Sep w0 A w) : Sep w0 B w :=
  ⟨S.below, fun c hc => S.all c (h.mem_iff.2 hc), fun c hc => S.fresh c (h.mem_iff.2 hc), (h.pairwise_iff (fun h b hb hb2 => h b hb2 hb)).1 S.apart⟩
abbrev rowR (x : Rw) : Eng.Claim := rowOf Eng.encI x.gS_a x.gS_c 3 1 x.gS_l
theorem er_perm {α : Type} : ∀ (l : List α) (i : Nat) (h : i < l.length), l.Perm (l[i] :: l.eraseIdx i)
  | x :: l, 0, _ => List.Perm.refl _
  | x :: l, i + 1, h => ((er_perm l i (by simpa using h)).cons x).trans (List.Perm.swap _ _ _)
theorem tlR_perm {out : List Rw} {i : Nat} (hi : i < out.length) : (tlR out).Perm (rowR (out.getD i rw0) :: tlR (out.eraseIdx i)) := by
  unfold tlR
  have h1 : out.Perm (out.getD i rw0 :: out.eraseIdx i) := by
    rw [List.getD_eq_getElem?_getD, List.getElem?_eq_getElem hi]; exact er_perm out i hi
  exact ((List.reverse_perm _).map _).trans ((h1.map _).trans (List.Perm.cons _ ((List.reverse_perm _).map _).symm))
theorem clm_get {w0 w : World} {out : List Rw} {i : Nat} (A : List Eng.Claim) (hi : i < out.length) (S : Sep w0 (A ++ tlR out) w) : Sep w0 (rowOf Eng.encI (out.getD i rw0).gS_a (out.getD i rw0).gS_c 3 1 (out.getD i rw0).gS_l :: (A ++ tlR (out.eraseIdx i))) w :=
  clm_perm6 (((tlR_perm hi).append_left A).trans List.perm_middle) S
theorem erase_set {α : Type} (l : List α) (i : Nat) (x : α) : (l.set i x).eraseIdx i = l.eraseIdx i := by
  induction l generalizing i with
  | nil => rfl
  | cons y l ih => cases i with
    | zero => rfl
    | succ i => show y :: _ = y :: _; rw [ih]
theorem clm_put {w0 w : World} {out : List Rw} {i : Nat} (A : List Eng.Claim) (hi : i < out.length) (x : Rw) (S : Sep w0 (rowOf Eng.encI x.gS_a x.gS_c 3 1 x.gS_l :: (A ++ tlR (out.eraseIdx i))) w) : Sep w0 (A ++ tlR (out.set i x)) w := by
  have h := tlR_perm (out := out.set i x) (i := i) (by rw [List.length_set]; exact hi)
  rw [erase_set, setG_at hi] at h
  exact clm_perm6 ((h.append_left A).trans List.perm_middle).symm S
theorem rowW_set {out : List Rw} {i : Nat} {x : Rw} (hi : i < out.length) (hx : rwE x = rwE (out.getD i rw0)) (a : Option Addr) (c : Nat) (e : TypeId) : rowOf rwE a c e 1 (out.set i x) = rowOf rwE a c e 1 out := by
  have hf : (out.set i x).flatMap rwE = out.flatMap rwE := by
    rw [List.flatMap_def, List.flatMap_def, List.map_set, hx]
    congr 1
    refine List.ext_getElem (by rw [List.length_set]) fun k h1 h2 => ?_
    by_cases e : i = k
    · subst e; rw [List.getElem_set_self, List.getElem_map, List.getD_eq_getElem?_getD, List.getElem?_eq_getElem hi]; rfl
    · rw [List.getElem_set_ne e]
  unfold rowOf; rw [List.length_set, hf]
/-- the copy of a list of rows -/
def cpQ (w0 : World) (l : List Rw) (out : List Rw) : Prop := out.map (fun r => r.gS_l) = l.map (fun r => r.gS_l) ∧ ∀ r ∈ out, okR r
theorem cp_of {w0 : World} {l out : List Rw} (hl : out.length = l.length) (h : ∀ j, j < out.length → (out.getD j rw0).gS_l = (l.getD j rw0).gS_l ∧ okR (out.getD j rw0)) : cpQ w0 l out := by
  refine ⟨?_, fun r hr => ?_⟩
  · refine List.ext_getElem (by rw [List.length_map, List.length_map, hl]) fun k h1 h2 => ?_
    rw [List.length_map] at h1 h2
    have := (h k h1).1
    rw [List.getElem_map, List.getElem_map]
    rw [List.getD_eq_getElem?_getD, List.getD_eq_getElem?_getD, List.getElem?_eq_getElem h1, List.getElem?_eq_getElem h2] at this
    exact this
  · obtain ⟨k, hk, rfl⟩ := List.mem_iff_getElem.1 hr
    have := (h k hk).2
    rw [List.getD_eq_getElem?_getD, List.getElem?_eq_getElem hk] at this; exact this
theorem cp_step {l ou : List Rw} {i : Int} (h0 : 0 ≤ i) (hi : i < (ou.length : Int)) (h : ∀ j, j < i.toNat → (ou.getD j rw0).gS_l = (l.getD j rw0).gS_l ∧ okR (ou.getD j rw0)) {r : Rw} (hr : r.gS_l = (l.getD i.toNat rw0).gS_l) (ho : okR r) : ∀ j, j < (i + 1).toNat → ((ou.set i.toNat r).getD j rw0).gS_l = (l.getD j rw0).gS_l ∧ okR ((ou.set i.toNat r).getD j rw0) := fun j hj => by
  by_cases e : j = i.toNat
  · rw [e, setG_at (by omega)]; exact ⟨hr, ho⟩
  · rw [setG_ne (fun h => e h.symm)]; exact h j (by omega)
theorem cp_set {m : Mp} {out : List Rw} {a : Nat} {b : Nat} {z : Int} {x : Rw} (h : out.map (fun r => r.gS_l) = m.gZ_l.map fun r => r.gS_l) (hx : x.gS_l = (out.getD a rw0).gS_l.set b z) {xa ya za : Option Addr} {xc yc zc : Nat} {xn yn zn : Nat} : mvM ⟨xa, xn, xc, m.gX_l, ya, yn, yc, m.gY_l, za, zn, zc, out.set a x⟩ = setV (mvM m) a b z := by
  have e : (mvM m).z.getD a [] = (out.getD a rw0).gS_l := by
    show (m.gZ_l.map _).getD a [] = _
    rw [← h, List.getD_eq_getElem?_getD, List.getElem?_map, List.getD_eq_getElem?_getD]; cases out[a]? <;> rfl
  unfold setV; rw [e, ← hx]
  show (⟨m.gX_l, m.gY_l, (out.set a x).map _⟩ : MV) = ⟨m.gX_l, m.gY_l, (m.gZ_l.map _).set a _⟩
  rw [← h, List.map_set]

end Go.Proofs.YtadgnficogeheaaGreatDoor

