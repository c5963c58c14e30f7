/- Walks of functions of this seat, printed by a program over the engine. Conditions: as each theorem says. -/
import Derived.Test.YthfpejhonhaggaaGreatDoorZV5
import Derived.Test.YthfpejhonhaggaaGreatDoorZW8
namespace Go.Proofs.YthfpejhonhaggaaGreatDoor
open Go.Eng Go.RowKit
set_option linter.unusedSimpArgs false
set_option linter.unusedVariables false
structure Prg where
  gCode_a : Option Addr
  gCode_n : Nat
  gCode_c : Nat
  gCode_l : List Ins
  gTypes_a : Option Addr
  gTypes_n : Nat
  gTypes_c : Nat
  gTypes_l : List Fxd
  gCurves_a : Option Addr
  gCurves_n : Nat
  gCurves_c : Nat
  gCurves_l : List Crv
  gMaps_a : Option Addr
  gMaps_n : Nat
  gMaps_c : Nat
  gMaps_l : List Mp
  gCells : Int
  gInputs_a : Option Addr
  gInputs_n : Nat
  gInputs_c : Nat
  gInputs_l : List Int
  gStates_a : Option Addr
  gStates_n : Nat
  gStates_c : Nat
  gStates_l : List Int
  gOutputs_a : Option Addr
  gOutputs_n : Nat
  gOutputs_c : Nat
  gOutputs_l : List Int
  gInitial_a : Option Addr
  gInitial_n : Nat
  gInitial_c : Nat
  gInitial_l : List Int
def prgQ (w : World) (x : Prg) : Prop := (x.gCode_n ≤ x.gCode_c ∧ x.gCode_c ≤ 9223372036854775807) ∧ Recs insE 5 w x.gCode_a x.gCode_n x.gCode_l ∧ (∀ y ∈ x.gCode_l, (insQ w) y) ∧ (x.gTypes_n ≤ x.gTypes_c ∧ x.gTypes_c ≤ 9223372036854775807) ∧ Recs fxdE 10 w x.gTypes_a x.gTypes_n x.gTypes_l ∧ (∀ y ∈ x.gTypes_l, (fxdQ w) y) ∧ (x.gCurves_n ≤ x.gCurves_c ∧ x.gCurves_c ≤ 9223372036854775807) ∧ Recs crvE 2 w x.gCurves_a x.gCurves_n x.gCurves_l ∧ (∀ y ∈ x.gCurves_l, (crvQ w) y) ∧ (x.gMaps_n ≤ x.gMaps_c ∧ x.gMaps_c ≤ 9223372036854775807) ∧ Recs mpE 3 w x.gMaps_a x.gMaps_n x.gMaps_l ∧ (∀ y ∈ x.gMaps_l, (mpQ w) y) ∧ ((-9223372036854775808) ≤ x.gCells ∧ x.gCells ≤ 9223372036854775807) ∧ (x.gInputs_n ≤ x.gInputs_c ∧ x.gInputs_c ≤ 9223372036854775807) ∧ Ones (Value.int .i64) w x.gInputs_a x.gInputs_n x.gInputs_l ∧ (∀ y ∈ x.gInputs_l, (fun n => (-9223372036854775808) ≤ n ∧ n ≤ 9223372036854775807) y) ∧ (x.gStates_n ≤ x.gStates_c ∧ x.gStates_c ≤ 9223372036854775807) ∧ Ones (Value.int .i64) w x.gStates_a x.gStates_n x.gStates_l ∧ (∀ y ∈ x.gStates_l, (fun n => (-9223372036854775808) ≤ n ∧ n ≤ 9223372036854775807) y) ∧ (x.gOutputs_n ≤ x.gOutputs_c ∧ x.gOutputs_c ≤ 9223372036854775807) ∧ Ones (Value.int .i64) w x.gOutputs_a x.gOutputs_n x.gOutputs_l ∧ (∀ y ∈ x.gOutputs_l, (fun n => (-9223372036854775808) ≤ n ∧ n ≤ 9223372036854775807) y) ∧ (x.gInitial_n ≤ x.gInitial_c ∧ x.gInitial_c ≤ 9223372036854775807) ∧ Ones (Value.int .i64) w x.gInitial_a x.gInitial_n x.gInitial_l ∧ (∀ y ∈ x.gInitial_l, (fun n => (-9223372036854775808) ≤ n ∧ n ≤ 9223372036854775807) y) ∧ True
theorem prgQ_sep {w0 w : World} {L : List Eng.Claim} {x : Prg} (h : prgQ w0 x) (S : Sep w0 L w) : prgQ w x := by
  obtain ⟨hgCode1, hgCode2, hgCode3, hgTypes1, hgTypes2, hgTypes3, hgCurves1, hgCurves2, hgCurves3, hgMaps1, hgMaps2, hgMaps3, hgCells, hgInputs1, hgInputs2, hgInputs3, hgStates1, hgStates2, hgStates3, hgOutputs1, hgOutputs2, hgOutputs3, hgInitial1, hgInitial2, hgInitial3, _⟩ := h
  exact ⟨hgCode1, hgCode2.sep S, fun y hy => insQ_sep (hgCode3 y hy) S, hgTypes1, hgTypes2.sep S, fun y hy => fxdQ_sep (hgTypes3 y hy) S, hgCurves1, hgCurves2.sep S, fun y hy => crvQ_sep (hgCurves3 y hy) S, hgMaps1, hgMaps2.sep S, fun y hy => mpQ_sep (hgMaps3 y hy) S, hgCells, hgInputs1, hgInputs2.sep S, hgInputs3, hgStates1, hgStates2.sep S, hgStates3, hgOutputs1, hgOutputs2.sep S, hgOutputs3, hgInitial1, hgInitial2.sep S, hgInitial3, trivial⟩
abbrev prgC (x : Prg) : List Value := [.slice x.gCode_a x.gCode_n x.gCode_c, .slice x.gTypes_a x.gTypes_n x.gTypes_c, .slice x.gCurves_a x.gCurves_n x.gCurves_c, .slice x.gMaps_a x.gMaps_n x.gMaps_c, iv x.gCells, .slice x.gInputs_a x.gInputs_n x.gInputs_c, .slice x.gStates_a x.gStates_n x.gStates_c, .slice x.gOutputs_a x.gOutputs_n x.gOutputs_c, .slice x.gInitial_a x.gInitial_n x.gInitial_c]
abbrev prgA (x : Prg) : Array Value := #[.slice x.gCode_a x.gCode_n x.gCode_c, .slice x.gTypes_a x.gTypes_n x.gTypes_c, .slice x.gCurves_a x.gCurves_n x.gCurves_c, .slice x.gMaps_a x.gMaps_n x.gMaps_c, iv x.gCells, .slice x.gInputs_a x.gInputs_n x.gInputs_c, .slice x.gStates_a x.gStates_n x.gStates_c, .slice x.gOutputs_a x.gOutputs_n x.gOutputs_c, .slice x.gInitial_a x.gInitial_n x.gInitial_c]
structure Mch where
  gRegs_0 : Int
  gRegs_1 : Int
  gRegs_2 : Int
  gRegs_3 : Int
  gRegs_4 : Int
  gRegs_5 : Int
  gRegs_6 : Int
  gRegs_7 : Int
  gRegs_8 : Int
  gRegs_9 : Int
  gRegs_10 : Int
  gRegs_11 : Int
  gRegs_12 : Int
  gRegs_13 : Int
  gRegs_14 : Int
  gRegs_15 : Int
  gCells_a : Option Addr
  gCells_n : Nat
  gCells_c : Nat
  gCells_l : List Int
def tyN (p : Prg) (k : Int) : Fxd := p.gTypes_l.getD k.toNat fx0
def tyOK (p : Prg) (op k : Int) : Bool := decide (k / 16384 < (p.gTypes_n : Int) ∧ (op = 9 ∨ op = 10 ∨ k / 128 % 128 < (p.gTypes_n : Int)) ∧ (op = 13 ∨ op = 14 ∨ k % 128 < (p.gTypes_n : Int)))
def tyA (p : Prg) (op k : Int) : Fxd := if tyOK p op k then tyN p (k / 16384) else fx0
def tyB (p : Prg) (op k : Int) : Fxd := if tyOK p op k && decide (op ≠ 9 ∧ op ≠ 10) then tyN p (k / 128 % 128) else fx0
def tyC (p : Prg) (op k : Int) : Fxd := if tyOK p op k && decide (op ≠ 13 ∧ op ≠ 14) then tyN p (k % 128) else fx0
def namedB (p : Prg) (i : Ins) : Bool :=
  if i.gOp = 2 ∨ i.gOp = 3 then decide (i.gK < p.gCells) else if i.gOp = 20 then decide (i.gK < (p.gCurves_n : Int)) else if i.gOp = 21 then decide (i.gK < (p.gMaps_n : Int)) else if i.gOp = 22 then decide (i.gK / 32 + 1 < p.gCells)
  else if typedP i.gOp then tyOK p i.gOp i.gK && unitsB i.gOp (unitT (tyA p i.gOp i.gK)) (unitT (tyB p i.gOp i.gK)) (unitT (tyC p i.gOp i.gK)) else true
def fitsI (p : Prg) (i : Ins) : Bool := formB i && namedB p i
def cellsL (n : Int) (l : List Int) : Bool := decide (l.length ≤ 1000) && l.all fun c => decide (0 ≤ c) && decide (c < n)
def initB (n : Int) : Bool := decide (-1099511627776 ≤ n) && decide (n ≤ 1099511627776)
abbrev lenP (p : Prg) : Prop := p.gCode_n ≤ 4000 ∧ p.gTypes_n ≤ 100 ∧ p.gCurves_n ≤ 100 ∧ p.gMaps_n ≤ 100 ∧ 0 ≤ p.gCells ∧ p.gCells ≤ 1000
def validP (p : Prg) : Bool :=
  decide (lenP p) && (p.gTypes_l.all fixB && (p.gCurves_l.all validV && (p.gMaps_l.all validM && (p.gCode_l.all (fitsI p) && (cellsL p.gCells p.gInputs_l && (cellsL p.gCells p.gOutputs_l && (cellsL p.gCells p.gStates_l && (decide (p.gInitial_n = p.gStates_n) && (decide (p.gInputs_l ++ p.gStates_l).Nodup && p.gInitial_l.all initB)))))))))
theorem validP_no {p : Prg} (h : ¬ lenP p ∨ p.gTypes_l.all fixB = false ∨ p.gCurves_l.all validV = false ∨ p.gMaps_l.all validM = false ∨ p.gCode_l.all (fitsI p) = false ∨ cellsL p.gCells p.gInputs_l = false ∨ cellsL p.gCells p.gOutputs_l = false ∨ cellsL p.gCells p.gStates_l = false ∨ p.gInitial_n ≠ p.gStates_n ∨ ¬ (p.gInputs_l ++ p.gStates_l).Nodup ∨ p.gInitial_l.all initB = false) : validP p = false := by
  unfold validP
  rcases h with h | h | h | h | h | h | h | h | h | h | h
  · rw [decide_eq_false h]; rfl
  · rw [h]; simp
  · rw [h]; simp
  · rw [h]; simp
  · rw [h]; simp
  · rw [h]; simp
  · rw [h]; simp
  · rw [h]; simp
  · rw [decide_eq_false h]; simp
  · rw [decide_eq_false h]; simp
  · rw [h]; simp
theorem validP_yes {p : Prg} (h1 : lenP p) (h2 : p.gTypes_l.all fixB = true) (h3 : p.gCurves_l.all validV = true) (h4 : p.gMaps_l.all validM = true) (h5 : p.gCode_l.all (fitsI p) = true) (h6 : cellsL p.gCells p.gInputs_l = true) (h7 : cellsL p.gCells p.gOutputs_l = true) (h8 : cellsL p.gCells p.gStates_l = true) (h9 : p.gInitial_n = p.gStates_n) (h10 : (p.gInputs_l ++ p.gStates_l).Nodup) (h11 : p.gInitial_l.all initB = true) : validP p = true := by
  unfold validP; rw [decide_eq_true h1, h2, h3, h4, h5, h6, h7, h8, decide_eq_true h9, decide_eq_true h10, h11]; rfl
theorem validP_facts {p : Prg} (h : validP p = true) : lenP p ∧ p.gTypes_l.all fixB = true ∧ p.gCurves_l.all validV = true ∧ p.gMaps_l.all validM = true ∧ p.gCode_l.all (fitsI p) = true ∧ cellsL p.gCells p.gInputs_l = true ∧ cellsL p.gCells p.gOutputs_l = true ∧ cellsL p.gCells p.gStates_l = true ∧ p.gInitial_n = p.gStates_n ∧ (p.gInputs_l ++ p.gStates_l).Nodup ∧ p.gInitial_l.all initB = true := by
  unfold validP at h
  simp only [Bool.and_eq_true, decide_eq_true_eq] at h
  exact h
theorem cellsL_at {n : Int} {l : List Int} (h : cellsL n l = true) : l.length ≤ 1000 ∧ ∀ j, j < l.length → 0 ≤ l.getD j 0 ∧ l.getD j 0 < n := by
  unfold cellsL at h
  simp only [Bool.and_eq_true, decide_eq_true_eq] at h
  refine ⟨h.1, fun j hj => ?_⟩
  have := (all_getD 0).1 h.2 j hj
  simpa using this
theorem cellsL_yes {n : Int} {l : List Int} (h1 : l.length ≤ 1000) (h2 : ∀ j, j < l.length → 0 ≤ l.getD j 0 ∧ l.getD j 0 < n) : cellsL n l = true := by
  unfold cellsL; rw [decide_eq_true h1, Bool.true_and]; exact (all_getD 0).2 fun j hj => by simpa using h2 j hj
theorem cellsL_long {n : Int} {l : List Int} (h : ¬ l.length ≤ 1000) : cellsL n l = false := by unfold cellsL; rw [decide_eq_false h]; rfl
theorem cellsL_bad {n : Int} {l : List Int} {j : Nat} (hj : j < l.length) (h : l.getD j 0 < 0 ∨ n ≤ l.getD j 0) : cellsL n l = false := by
  unfold cellsL; rw [all_no 0 hj, Bool.and_false]
  rcases h with h | h
  · rw [decide_eq_false (by omega)]; rfl
  · rw [decide_eq_false (show ¬ l.getD j 0 < n by omega), Bool.and_false]
theorem cellsL_any {n : Int} {l : List Int} (h : (l.any fun c => !(decide (0 ≤ c) && decide (c < n))) = true) : cellsL n l = false := by
  rw [any_not_all] at h
  unfold cellsL
  cases hh : l.all (fun c => decide (0 ≤ c) && decide (c < n)) with
  | true => rw [hh] at h; cases h
  | false => rw [Bool.and_false]
theorem cellsL_none {n : Int} {l : List Int} (h1 : l.length ≤ 1000) (h : (l.any fun c => !(decide (0 ≤ c) && decide (c < n))) = false) : cellsL n l = true := by
  rw [any_not_all] at h
  unfold cellsL; rw [decide_eq_true h1, Bool.true_and]
  simpa using h
theorem any_false_all {α : Type} {q : α → Bool} {l : List α} (h : (l.any fun x => !q x) = false) : l.all q = true := by rw [any_not_all] at h; simpa using h
theorem any_true_all {α : Type} {q : α → Bool} {l : List α} (h : (l.any fun x => !q x) = true) : l.all q = false := by rw [any_not_all] at h; simpa using h
/-! marking the cells of a list -/
def markP (l : List Int) (n : Int) (k : Nat) (tk : List Bool) : Prop := (tk.length : Int) = n ∧ (l.take k).Nodup ∧ ∀ c : Nat, (c : Int) < n → (tk.getD c false = true ↔ (c : Int) ∈ l.take k)
theorem mark_zero {l : List Int} {n : Int} (h : 0 ≤ n) : markP l n 0 (List.replicate n.toNat false) := by
  refine ⟨by rw [List.length_replicate]; omega, by simp, fun c hc => ?_⟩
  have e : (List.replicate n.toNat false).getD c false = false := by rw [List.getD_eq_getElem?_getD, List.getElem?_replicate]; split <;> rfl
  rw [e]; simp
theorem take_snoc {l : List Int} {k : Nat} (hk : k < l.length) : l.take (k + 1) = l.take k ++ [l.getD k 0] := by
  rw [List.take_add_one, List.getD_eq_getElem?_getD, List.getElem?_eq_getElem hk]; rfl
theorem mark_step {l : List Int} {n : Int} {k : Nat} {tk : List Bool} (h : markP l n k tk) (hk : k < l.length) (hc : 0 ≤ l.getD k 0 ∧ l.getD k 0 < n) (hn : tk.getD (l.getD k 0).toNat false = false) : markP l n (k + 1) (tk.set (l.getD k 0).toNat true) := by
  obtain ⟨h1, h2, h3⟩ := h
  have hni : l.getD k 0 ∉ l.take k := by
    intro hm
    have := (h3 (l.getD k 0).toNat (by omega)).2 (by rw [Int.toNat_of_nonneg hc.1]; exact hm)
    rw [hn] at this; cases this
  refine ⟨by rw [List.length_set]; exact h1, ?_, fun c hcn => ?_⟩
  · rw [take_snoc hk, List.nodup_append]
    refine ⟨h2, by simp, fun a ha b hb => ?_⟩
    rw [List.mem_singleton] at hb
    intro e; subst e; subst hb; exact hni ha
  · rw [take_snoc hk, List.mem_append, List.mem_singleton, List.getD_eq_getElem?_getD, List.getElem?_set]
    by_cases e : (l.getD k 0).toNat = c
    · rw [if_pos e, if_pos (by omega)]
      constructor
      · intro _; right; omega
      · intro _; rfl
    · rw [if_neg e, ← List.getD_eq_getElem?_getD, h3 c hcn]
      constructor
      · intro h; exact .inl h
      · intro h
        rcases h with h | h
        · exact h
        · exact absurd (by omega) e
theorem mark_end {l : List Int} {n : Int} {tk : List Bool} {k : Nat} (h : markP l n k tk) (hk : l.length ≤ k) : l.Nodup := by
  have := h.2.1
  rw [List.take_of_length_le hk] at this; exact this
theorem mark_twice {l : List Int} {n : Int} {k : Nat} {tk : List Bool} (h : markP l n k tk) (hk : k < l.length) (hc : 0 ≤ l.getD k 0 ∧ l.getD k 0 < n) (hn : tk.getD (l.getD k 0).toNat false = true) : ¬ l.Nodup := by
  have hm := (h.2.2 (l.getD k 0).toNat (by omega)).1 hn
  rw [Int.toNat_of_nonneg hc.1] at hm
  intro hnd
  have h2 : (l.take (k + 1)).Nodup := List.Nodup.sublist (List.take_sublist _ _) hnd
  rw [take_snoc hk, List.nodup_append] at h2
  exact h2.2.2 _ hm _ (List.mem_singleton.2 rfl) rfl
theorem getD_two {a b : List Int} {n : Int} {j : Nat} (ha : ∀ j, j < a.length → 0 ≤ a.getD j 0 ∧ a.getD j 0 < n) (hb : ∀ j, j < b.length → 0 ≤ b.getD j 0 ∧ b.getD j 0 < n) (hj : j < (a ++ b).length) : 0 ≤ (a ++ b).getD j 0 ∧ (a ++ b).getD j 0 < n := by
  rw [List.length_append] at hj
  rw [List.getD_eq_getElem?_getD]
  by_cases h : j < a.length
  · rw [List.getElem?_append_left h, ← List.getD_eq_getElem?_getD]; exact ha j h
  · rw [List.getElem?_append_right (by omega), ← List.getD_eq_getElem?_getD]; exact hb _ (by omega)
/-! the machine at the beginning, and costs -/
def newN (p : Prg) : Nat → List Int
  | 0 => List.replicate p.gCells.toNat 0
  | k + 1 => (newN p k).set (p.gStates_l.getD k 0).toNat (p.gInitial_l.getD k 0)
theorem newN_len (p : Prg) : ∀ k, (newN p k).length = p.gCells.toNat
  | 0 => by unfold newN; rw [List.length_replicate]
  | k + 1 => by unfold newN; rw [List.length_set]; exact newN_len p k
def costN (p : Prg) : Nat → Int
  | 0 => 0
  | k + 1 => costN p k + costL.getD (p.gCode_l.getD k ins0).gOp.toNat 0
theorem costN_bd {p : Prg} (h : ∀ j, j < p.gCode_l.length → 1 ≤ (p.gCode_l.getD j ins0).gOp ∧ (p.gCode_l.getD j ins0).gOp ≤ 22) : ∀ k, k ≤ p.gCode_l.length → 0 ≤ costN p k ∧ costN p k ≤ 40 * k
  | 0, _ => by unfold costN; omega
  | k + 1, hk => by
    have ih := costN_bd h k (by omega)
    have := cost_bd (h k (by omega))
    unfold costN; omega
theorem code_at {p : Prg} (h : validP p = true) {j : Nat} (hj : j < p.gCode_l.length) : fitsI p (p.gCode_l.getD j ins0) = true := (all_getD ins0).1 (validP_facts h).2.2.2.2.1 j hj
theorem fits_form {p : Prg} {i : Ins} (h : fitsI p i = true) : formB i = true ∧ namedB p i = true := by unfold fitsI at h; rw [Bool.and_eq_true] at h; exact h

def sameR (x y l m : List Int) : Bool := (x == y) && (l == m)
theorem sameR_refl (x l : List Int) : sameR x x l l = true := by unfold sameR; rw [beq_self_eq_true, beq_self_eq_true]; rfl
theorem sameR_no {x y l m : List Int} (h : (x == y) = false ∨ l.length ≠ m.length ∨ ∃ j, l.getD j 0 ≠ m.getD j 0) : sameR x y l m = false := by
  unfold sameR
  rcases h with h | h | ⟨j, h⟩
  · rw [h]; rfl
  · rw [show (l == m) = false from beq_eq_false_iff_ne.2 (fun e => h (by rw [e])), Bool.and_false]
  · rw [show (l == m) = false from beq_eq_false_iff_ne.2 (fun e => h (by rw [e])), Bool.and_false]
def newX (p : Prg) : List Int := if validP p then newN p p.gStates_l.length else []
def newE (p : Prg) : Int := if validP p then 0 else 1
theorem newX_yes {p : Prg} (h : validP p = true) : newX p = newN p p.gStates_l.length ∧ newE p = 0 := by unfold newX newE; rw [if_pos h, if_pos h]; exact ⟨rfl, rfl⟩
theorem newX_no {p : Prg} (h : validP p = false) : newX p = [] ∧ newE p = 1 := by unfold newX newE; rw [if_neg (by rw [h]; decide), if_neg (by rw [h]; decide)]; exact ⟨rfl, rfl⟩
def costX (p : Prg) : Int := if validP p then costN p p.gCode_l.length else 0
def bigM (m : Mp) : Bool := decide ((m.gX_n : Int) > 40) || decide ((m.gY_n : Int) > 40) || decide ((m.gZ_n : Int) > 40)
def bigC (c : Crv) : Bool := decide ((c.gX_n : Int) > 100)
theorem tyOK_iff {p : Prg} {op k : Int} : tyOK p op k = true ↔ k / 16384 < (p.gTypes_n : Int) ∧ (op = 9 ∨ op = 10 ∨ k / 128 % 128 < (p.gTypes_n : Int)) ∧ (op = 13 ∨ op = 14 ∨ k % 128 < (p.gTypes_n : Int)) := by unfold tyOK; exact decide_eq_true_iff
theorem ty_no {p : Prg} {op k : Int} (h : tyOK p op k = false) : tyA p op k = fx0 ∧ tyB p op k = fx0 ∧ tyC p op k = fx0 := by unfold tyA tyB tyC; rw [h]; exact ⟨rfl, rfl, rfl⟩
theorem ty_yes {p : Prg} {op k : Int} (h : tyOK p op k = true) : tyA p op k = tyN p (k / 16384) ∧ tyB p op k = (if op ≠ 9 ∧ op ≠ 10 then tyN p (k / 128 % 128) else fx0) ∧ tyC p op k = (if op ≠ 13 ∧ op ≠ 14 then tyN p (k % 128) else fx0) := by
  unfold tyA tyB tyC; rw [h]
  refine ⟨rfl, ?_, ?_⟩
  · by_cases e : op ≠ 9 ∧ op ≠ 10
    · rw [if_pos e, decide_eq_true e]; rfl
    · rw [if_neg e, decide_eq_false e]; rfl
  · by_cases e : op ≠ 13 ∧ op ≠ 14
    · rw [if_pos e, decide_eq_true e]; rfl
    · rw [if_neg e, decide_eq_false e]; rfl
theorem tyN_q {w : World} {p : Prg} {k : Int} (h : ∀ y ∈ p.gTypes_l, fxdQ w y) : fxdQ w (tyN p k) := by
  unfold tyN
  by_cases e : k.toNat < p.gTypes_l.length
  · exact getD_Q h _ e
  · rw [List.getD_eq_getElem?_getD, List.getElem?_eq_none (by omega)]; exact ⟨by decide, by decide, by decide, by decide, by decide, by decide, by decide, by decide, by decide, trivial⟩
theorem fx0_q (w : World) : fxdQ w fx0 := ⟨by decide, by decide, by decide, by decide, by decide, by decide, by decide, by decide, by decide, trivial⟩
theorem ty_q {w : World} {p : Prg} {op k : Int} (h : ∀ y ∈ p.gTypes_l, fxdQ w y) : fxdQ w (tyA p op k) ∧ fxdQ w (tyB p op k) ∧ fxdQ w (tyC p op k) := by
  unfold tyA tyB tyC
  refine ⟨?_, ?_, ?_⟩ <;> split <;> first | exact tyN_q h | exact fx0_q w

abbrev fuC (t : Fxd) : List Value := [iv t.gUnit_M, iv t.gUnit_Kg, iv t.gUnit_S, iv t.gUnit_A, iv t.gUnit_K]
abbrev fuA (t : Fxd) : Array Value := #[iv t.gUnit_M, iv t.gUnit_Kg, iv t.gUnit_S, iv t.gUnit_A, iv t.gUnit_K]
end Go.Proofs.YthfpejhonhaggaaGreatDoor

