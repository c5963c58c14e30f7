/- Walks of functions of this seat, printed by a program over the engine. Conditions: as each theorem says. -/
import Derived.Test.YtaoolgcddapegaaGreatDoorZsV15
import Derived.Test.YtaoolgcddapegaaGreatDoorZsW18
namespace Go.Proofs.YtaoolgcddapegaaGreatDoor
open Go.Eng Go.RowKit
set_option linter.unusedSimpArgs false
set_option linter.unusedVariables false
set_option maxRecDepth 20000
set_option maxHeartbeats 20000000
structure Prg where
  gCode_a : Option Addr
  gCode_n : Nat
  gCode_c : Nat
  gCode_l : List Ins
  gTypes_a : Option Addr
  gTypes_n : Nat
  gTypes_c : Nat
  gTypes_l : List Fxd
  gCurves_a : Option Addr
  gCurves_n : Nat
  gCurves_c : Nat
  gCurves_l : List Crv
  gMaps_a : Option Addr
  gMaps_n : Nat
  gMaps_c : Nat
  gMaps_l : List Mp
  gCells : Int
  gInputs_a : Option Addr
  gInputs_n : Nat
  gInputs_c : Nat
  gInputs_l : List Int
  gStates_a : Option Addr
  gStates_n : Nat
  gStates_c : Nat
  gStates_l : List Int
  gOutputs_a : Option Addr
  gOutputs_n : Nat
  gOutputs_c : Nat
  gOutputs_l : List Int
  gInitial_a : Option Addr
  gInitial_n : Nat
  gInitial_c : Nat
  gInitial_l : List Int
def prgQ (w : World) (x : Prg) : Prop := (x.gCode_n ≤ x.gCode_c ∧ x.gCode_c ≤ 9223372036854775807) ∧ Recs insE 5 w x.gCode_a x.gCode_n x.gCode_l ∧ (∀ y ∈ x.gCode_l, (insQ w) y) ∧ (x.gTypes_n ≤ x.gTypes_c ∧ x.gTypes_c ≤ 9223372036854775807) ∧ Recs fxdE 10 w x.gTypes_a x.gTypes_n x.gTypes_l ∧ (∀ y ∈ x.gTypes_l, (fxdQ w) y) ∧ (x.gCurves_n ≤ x.gCurves_c ∧ x.gCurves_c ≤ 9223372036854775807) ∧ Recs crvE 2 w x.gCurves_a x.gCurves_n x.gCurves_l ∧ (∀ y ∈ x.gCurves_l, (crvQ w) y) ∧ (x.gMaps_n ≤ x.gMaps_c ∧ x.gMaps_c ≤ 9223372036854775807) ∧ Recs mpE 3 w x.gMaps_a x.gMaps_n x.gMaps_l ∧ (∀ y ∈ x.gMaps_l, (mpQ w) y) ∧ ((-9223372036854775808) ≤ x.gCells ∧ x.gCells ≤ 9223372036854775807) ∧ (x.gInputs_n ≤ x.gInputs_c ∧ x.gInputs_c ≤ 9223372036854775807) ∧ Ones (Value.int .i64) w x.gInputs_a x.gInputs_n x.gInputs_l ∧ (∀ y ∈ x.gInputs_l, (fun n => (-9223372036854775808) ≤ n ∧ n ≤ 9223372036854775807) y) ∧ (x.gStates_n ≤ x.gStates_c ∧ x.gStates_c ≤ 9223372036854775807) ∧ Ones (Value.int .i64) w x.gStates_a x.gStates_n x.gStates_l ∧ (∀ y ∈ x.gStates_l, (fun n => (-9223372036854775808) ≤ n ∧ n ≤ 9223372036854775807) y) ∧ (x.gOutputs_n ≤ x.gOutputs_c ∧ x.gOutputs_c ≤ 9223372036854775807) ∧ Ones (Value.int .i64) w x.gOutputs_a x.gOutputs_n x.gOutputs_l ∧ (∀ y ∈ x.gOutputs_l, (fun n => (-9223372036854775808) ≤ n ∧ n ≤ 9223372036854775807) y) ∧ (x.gInitial_n ≤ x.gInitial_c ∧ x.gInitial_c ≤ 9223372036854775807) ∧ Ones (Value.int .i64) w x.gInitial_a x.gInitial_n x.gInitial_l ∧ (∀ y ∈ x.gInitial_l, (fun n => (-9223372036854775808) ≤ n ∧ n ≤ 9223372036854775807) y) ∧ True
theorem prgQ_sep {w0 w : World} {L : List Eng.Claim} {x : Prg} (h : prgQ w0 x) (S : Sep w0 L w) : prgQ w x := by
  obtain ⟨hgCode1, hgCode2, hgCode3, hgTypes1, hgTypes2, hgTypes3, hgCurves1, hgCurves2, hgCurves3, hgMaps1, hgMaps2, hgMaps3, hgCells, hgInputs1, hgInputs2, hgInputs3, hgStates1, hgStates2, hgStates3, hgOutputs1, hgOutputs2, hgOutputs3, hgInitial1, hgInitial2, hgInitial3, _⟩ := h
  exact ⟨hgCode1, hgCode2.sep S, fun y hy => insQ_sep (hgCode3 y hy) S, hgTypes1, hgTypes2.sep S, fun y hy => fxdQ_sep (hgTypes3 y hy) S, hgCurves1, hgCurves2.sep S, fun y hy => crvQ_sep (hgCurves3 y hy) S, hgMaps1, hgMaps2.sep S, fun y hy => mpQ_sep (hgMaps3 y hy) S, hgCells, hgInputs1, hgInputs2.sep S, hgInputs3, hgStates1, hgStates2.sep S, hgStates3, hgOutputs1, hgOutputs2.sep S, hgOutputs3, hgInitial1, hgInitial2.sep S, hgInitial3, trivial⟩
abbrev prgC (x : Prg) : List Value := [.slice x.gCode_a x.gCode_n x.gCode_c, .slice x.gTypes_a x.gTypes_n x.gTypes_c, .slice x.gCurves_a x.gCurves_n x.gCurves_c, .slice x.gMaps_a x.gMaps_n x.gMaps_c, iv x.gCells, .slice x.gInputs_a x.gInputs_n x.gInputs_c, .slice x.gStates_a x.gStates_n x.gStates_c, .slice x.gOutputs_a x.gOutputs_n x.gOutputs_c, .slice x.gInitial_a x.gInitial_n x.gInitial_c]
abbrev prgA (x : Prg) : Array Value := #[.slice x.gCode_a x.gCode_n x.gCode_c, .slice x.gTypes_a x.gTypes_n x.gTypes_c, .slice x.gCurves_a x.gCurves_n x.gCurves_c, .slice x.gMaps_a x.gMaps_n x.gMaps_c, iv x.gCells, .slice x.gInputs_a x.gInputs_n x.gInputs_c, .slice x.gStates_a x.gStates_n x.gStates_c, .slice x.gOutputs_a x.gOutputs_n x.gOutputs_c, .slice x.gInitial_a x.gInitial_n x.gInitial_c]
structure Mch where
  gRegs_0 : Int
  gRegs_1 : Int
  gRegs_2 : Int
  gRegs_3 : Int
  gRegs_4 : Int
  gRegs_5 : Int
  gRegs_6 : Int
  gRegs_7 : Int
  gRegs_8 : Int
  gRegs_9 : Int
  gRegs_10 : Int
  gRegs_11 : Int
  gRegs_12 : Int
  gRegs_13 : Int
  gRegs_14 : Int
  gRegs_15 : Int
  gCells_a : Option Addr
  gCells_n : Nat
  gCells_c : Nat
  gCells_l : List Int
def tyN (p : Prg) (k : Int) : Fxd := p.gTypes_l.getD k.toNat fx0
def tyOK (p : Prg) (op k : Int) : Bool := decide (k / 16384 < (p.gTypes_n : Int) ∧ (op = 9 ∨ op = 10 ∨ k / 128 % 128 < (p.gTypes_n : Int)) ∧ (op = 13 ∨ op = 14 ∨ k % 128 < (p.gTypes_n : Int)))
def tyA (p : Prg) (op k : Int) : Fxd := if tyOK p op k then tyN p (k / 16384) else fx0
def tyB (p : Prg) (op k : Int) : Fxd := if tyOK p op k && decide (op ≠ 9 ∧ op ≠ 10) then tyN p (k / 128 % 128) else fx0
def tyC (p : Prg) (op k : Int) : Fxd := if tyOK p op k && decide (op ≠ 13 ∧ op ≠ 14) then tyN p (k % 128) else fx0
def namedB (p : Prg) (i : Ins) : Bool :=
  if i.gOp = 2 ∨ i.gOp = 3 then decide (i.gK < p.gCells) else if i.gOp = 20 then decide (i.gK < (p.gCurves_n : Int)) else if i.gOp = 21 then decide (i.gK < (p.gMaps_n : Int)) else if i.gOp = 22 then decide (i.gK / 32 + 1 < p.gCells)
  else if typedP i.gOp then tyOK p i.gOp i.gK && unitsB i.gOp (unitT (tyA p i.gOp i.gK)) (unitT (tyB p i.gOp i.gK)) (unitT (tyC p i.gOp i.gK)) else true
def fitsI (p : Prg) (i : Ins) : Bool := formB i && namedB p i
def cellsL (n : Int) (l : List Int) : Bool := decide (l.length ≤ 1000) && l.all fun c => decide (0 ≤ c) && decide (c < n)
def initB (n : Int) : Bool := decide (-1099511627776 ≤ n) && decide (n ≤ 1099511627776)
abbrev lenP (p : Prg) : Prop := p.gCode_n ≤ 4000 ∧ p.gTypes_n ≤ 100 ∧ p.gCurves_n ≤ 100 ∧ p.gMaps_n ≤ 100 ∧ 0 ≤ p.gCells ∧ p.gCells ≤ 1000
def validP (p : Prg) : Bool :=
  decide (lenP p) && (p.gTypes_l.all fixB && (p.gCurves_l.all validV && (p.gMaps_l.all validM && (p.gCode_l.all (fitsI p) && (cellsL p.gCells p.gInputs_l && (cellsL p.gCells p.gOutputs_l && (cellsL p.gCells p.gStates_l && (decide (p.gInitial_n = p.gStates_n) && (decide (p.gInputs_l ++ p.gStates_l).Nodup && p.gInitial_l.all initB)))))))))
theorem validP_no {p : Prg} (h : ¬ lenP p ∨ p.gTypes_l.all fixB = false ∨ p.gCurves_l.all validV = false ∨ p.gMaps_l.all validM = false ∨ p.gCode_l.all (fitsI p) = false ∨ cellsL p.gCells p.gInputs_l = false ∨ cellsL p.gCells p.gOutputs_l = false ∨ cellsL p.gCells p.gStates_l = false ∨ p.gInitial_n ≠ p.gStates_n ∨ ¬ (p.gInputs_l ++ p.gStates_l).Nodup ∨ p.gInitial_l.all initB = false) : validP p = false := by
  unfold validP
  rcases h with h | h | h | h | h | h | h | h | h | h | h
  · rw [decide_eq_false h]; rfl
  · rw [h]; simp
  · rw [h]; simp
  · rw [h]; simp
  · rw [h]; simp
  · rw [h]; simp
  · rw [h]; simp
  · rw [h]; simp
  · rw [decide_eq_false h]; simp
  · rw [decide_eq_false h]; simp
  · rw [h]; simp
theorem validP_yes {p : Prg} (h1 : lenP p) (h2 : p.gTypes_l.all fixB = true) (h3 : p.gCurves_l.all validV = true) (h4 : p.gMaps_l.all validM = true) (h5 : p.gCode_l.all (fitsI p) = true) (h6 : cellsL p.gCells p.gInputs_l = true) (h7 : cellsL p.gCells p.gOutputs_l = true) (h8 : cellsL p.gCells p.gStates_l = true) (h9 : p.gInitial_n = p.gStates_n) (h10 : (p.gInputs_l ++ p.gStates_l).Nodup) (h11 : p.gInitial_l.all initB = true) : validP p = true := by
  unfold validP; rw [decide_eq_true h1, h2, h3, h4, h5, h6, h7, h8, decide_eq_true h9, decide_eq_true h10, h11]; rfl
theorem validP_facts {p : Prg} (h : validP p = true) : lenP p ∧ p.gTypes_l.all fixB = true ∧ p.gCurves_l.all validV = true ∧ p.gMaps_l.all validM = true ∧ p.gCode_l.all (fitsI p) = true ∧ cellsL p.gCells p.gInputs_l = true ∧ cellsL p.gCells p.gOutputs_l = true ∧ cellsL p.gCells p.gStates_l = true ∧ p.gInitial_n = p.gStates_n ∧ (p.gInputs_l ++ p.gStates_l).Nodup ∧ p.gInitial_l.all initB = true := by
  unfold validP at h
  simp only [Bool.and_eq_true, decide_eq_true_eq] at h
  exact h
theorem cellsL_at {n : Int} {l : List Int} (h : cellsL n l = true) : l.length ≤ 1000 ∧ ∀ j, j < l.length → 0 ≤ l.getD j 0 ∧ l.getD j 0 < n := by
  unfold cellsL at h
  simp only [Bool.and_eq_true, decide_eq_true_eq] at h
  refine ⟨h.1, fun j hj => ?_⟩
  have := (all_getD 0).1 h.2 j hj
  simpa using this
theorem cellsL_yes {n : Int} {l : List Int} (h1 : l.length ≤ 1000) (h2 : ∀ j, j < l.length → 0 ≤ l.getD j 0 ∧ l.getD j 0 < n) : cellsL n l = true := by
  unfold cellsL; rw [decide_eq_true h1, Bool.true_and]; exact (all_getD 0).2 fun j hj => by simpa using h2 j hj
theorem cellsL_long {n : Int} {l : List Int} (h : ¬ l.length ≤ 1000) : cellsL n l = false := by unfold cellsL; rw [decide_eq_false h]; rfl
theorem cellsL_bad {n : Int} {l : List Int} {j : Nat} (hj : j < l.length) (h : l.getD j 0 < 0 ∨ n ≤ l.getD j 0) : cellsL n l = false := by
  unfold cellsL; rw [all_no 0 hj, Bool.and_false]
  rcases h with h | h
  · rw [decide_eq_false (by omega)]; rfl
  · rw [decide_eq_false (show ¬ l.getD j 0 < n by omega), Bool.and_false]
theorem cellsL_any {n : Int} {l : List Int} (h : (l.any fun c => !(decide (0 ≤ c) && decide (c < n))) = true) : cellsL n l = false := by
  rw [any_not_all] at h
  unfold cellsL
  cases hh : l.all (fun c => decide (0 ≤ c) && decide (c < n)) with
  | true => rw [hh] at h; cases h
  | false => rw [Bool.and_false]
theorem cellsL_none {n : Int} {l : List Int} (h1 : l.length ≤ 1000) (h : (l.any fun c => !(decide (0 ≤ c) && decide (c < n))) = false) : cellsL n l = true := by
  rw [any_not_all] at h
  unfold cellsL; rw [decide_eq_true h1, Bool.true_and]
  simpa using h
theorem any_false_all {α : Type} {q : α → Bool} {l : List α} (h : (l.any fun x => !q x) = false) : l.all q = true := by rw [any_not_all] at h; simpa using h
theorem any_true_all {α : Type} {q : α → Bool} {l : List α} (h : (l.any fun x => !q x) = true) : l.all q = false := by rw [any_not_all] at h; simpa using h
/-! marking the cells of a list -/
def markP (l : List Int) (n : Int) (k : Nat) (tk : List Bool) : Prop := (tk.length : Int) = n ∧ (l.take k).Nodup ∧ ∀ c : Nat, (c : Int) < n → (tk.getD c false = true ↔ (c : Int) ∈ l.take k)
theorem mark_zero {l : List Int} {n : Int} (h : 0 ≤ n) : markP l n 0 (List.replicate n.toNat false) := by
  refine ⟨by rw [List.length_replicate]; omega, by simp, fun c hc => ?_⟩
  have e : (List.replicate n.toNat false).getD c false = false := by rw [List.getD_eq_getElem?_getD, List.getElem?_replicate]; split <;> rfl
  rw [e]; simp
theorem tk_snoc {l : List Int} {k : Nat} (hk : k < l.length) : l.take (k + 1) = l.take k ++ [l.getD k 0] := by
  rw [List.take_add_one, List.getD_eq_getElem?_getD, List.getElem?_eq_getElem hk]; rfl
theorem mark_step {l : List Int} {n : Int} {k : Nat} {tk : List Bool} (h : markP l n k tk) (hk : k < l.length) (hc : 0 ≤ l.getD k 0 ∧ l.getD k 0 < n) (hn : tk.getD (l.getD k 0).toNat false = false) : markP l n (k + 1) (tk.set (l.getD k 0).toNat true) := by
  obtain ⟨h1, h2, h3⟩ := h
  have hni : l.getD k 0 ∉ l.take k := by
    intro hm
    have := (h3 (l.getD k 0).toNat (by omega)).2 (by rw [Int.toNat_of_nonneg hc.1]; exact hm)
    rw [hn] at this; cases this
  refine ⟨by rw [List.length_set]; exact h1, ?_, fun c hcn => ?_⟩
  · rw [tk_snoc hk, List.nodup_append]
    refine ⟨h2, by simp, fun a ha b hb => ?_⟩
    rw [List.mem_singleton] at hb
    intro e; subst e; subst hb; exact hni ha
  · rw [tk_snoc hk, List.mem_append, List.mem_singleton, List.getD_eq_getElem?_getD, List.getElem?_set]
    by_cases e : (l.getD k 0).toNat = c
    · rw [if_pos e, if_pos (by omega)]
      constructor
      · intro _; right; omega
      · intro _; rfl
    · rw [if_neg e, ← List.getD_eq_getElem?_getD, h3 c hcn]
      constructor
      · intro h; exact .inl h
      · intro h
        rcases h with h | h
        · exact h
        · exact absurd (by omega) e
theorem mark_end {l : List Int} {n : Int} {tk : List Bool} {k : Nat} (h : markP l n k tk) (hk : l.length ≤ k) : l.Nodup := by
  have := h.2.1
  rw [List.take_of_length_le hk] at this; exact this
theorem mark_twice {l : List Int} {n : Int} {k : Nat} {tk : List Bool} (h : markP l n k tk) (hk : k < l.length) (hc : 0 ≤ l.getD k 0 ∧ l.getD k 0 < n) (hn : tk.getD (l.getD k 0).toNat false = true) : ¬ l.Nodup := by
  have hm := (h.2.2 (l.getD k 0).toNat (by omega)).1 hn
  rw [Int.toNat_of_nonneg hc.1] at hm
  intro hnd
  have h2 : (l.take (k + 1)).Nodup := List.Nodup.sublist (List.take_sublist _ _) hnd
  rw [tk_snoc hk, List.nodup_append] at h2
  exact h2.2.2 _ hm _ (List.mem_singleton.2 rfl) rfl
theorem getD_two {a b : List Int} {n : Int} {j : Nat} (ha : ∀ j, j < a.length → 0 ≤ a.getD j 0 ∧ a.getD j 0 < n) (hb : ∀ j, j < b.length → 0 ≤ b.getD j 0 ∧ b.getD j 0 < n) (hj : j < (a ++ b).length) : 0 ≤ (a ++ b).getD j 0 ∧ (a ++ b).getD j 0 < n := by
  rw [List.length_append] at hj
  rw [List.getD_eq_getElem?_getD]
  by_cases h : j < a.length
  · rw [List.getElem?_append_left h, ← List.getD_eq_getElem?_getD]; exact ha j h
  · rw [List.getElem?_append_right (by omega), ← List.getD_eq_getElem?_getD]; exact hb _ (by omega)
/-! the machine at the beginning, and costs -/
theorem code_at {p : Prg} (h : validP p = true) {j : Nat} (hj : j < p.gCode_l.length) : fitsI p (p.gCode_l.getD j ins0) = true := (all_getD ins0).1 (validP_facts h).2.2.2.2.1 j hj
theorem fits_form {p : Prg} {i : Ins} (h : fitsI p i = true) : formB i = true ∧ namedB p i = true := by unfold fitsI at h; rw [Bool.and_eq_true] at h; exact h

def sameR (x y l m : List Int) : Bool := (x == y) && (l == m)
theorem sameR_refl (x l : List Int) : sameR x x l l = true := by unfold sameR; rw [beq_self_eq_true, beq_self_eq_true]; rfl
theorem sameR_no {x y l m : List Int} (h : (x == y) = false ∨ l.length ≠ m.length ∨ ∃ j, l.getD j 0 ≠ m.getD j 0) : sameR x y l m = false := by
  unfold sameR
  rcases h with h | h | ⟨j, h⟩
  · rw [h]; rfl
  · rw [show (l == m) = false from beq_eq_false_iff_ne.2 (fun e => h (by rw [e])), Bool.and_false]
  · rw [show (l == m) = false from beq_eq_false_iff_ne.2 (fun e => h (by rw [e])), Bool.and_false]
def bigM (m : Mp) : Bool := decide ((m.gX_n : Int) > 40) || decide ((m.gY_n : Int) > 40) || decide ((m.gZ_n : Int) > 40)
def bigC (c : Crv) : Bool := decide ((c.gX_n : Int) > 100)
theorem tyOK_iff {p : Prg} {op k : Int} : tyOK p op k = true ↔ k / 16384 < (p.gTypes_n : Int) ∧ (op = 9 ∨ op = 10 ∨ k / 128 % 128 < (p.gTypes_n : Int)) ∧ (op = 13 ∨ op = 14 ∨ k % 128 < (p.gTypes_n : Int)) := by unfold tyOK; exact decide_eq_true_iff
theorem ty_no {p : Prg} {op k : Int} (h : tyOK p op k = false) : tyA p op k = fx0 ∧ tyB p op k = fx0 ∧ tyC p op k = fx0 := by unfold tyA tyB tyC; rw [h]; exact ⟨rfl, rfl, rfl⟩
theorem ty_yes {p : Prg} {op k : Int} (h : tyOK p op k = true) : tyA p op k = tyN p (k / 16384) ∧ tyB p op k = (if op ≠ 9 ∧ op ≠ 10 then tyN p (k / 128 % 128) else fx0) ∧ tyC p op k = (if op ≠ 13 ∧ op ≠ 14 then tyN p (k % 128) else fx0) := by
  unfold tyA tyB tyC; rw [h]
  refine ⟨rfl, ?_, ?_⟩
  · by_cases e : op ≠ 9 ∧ op ≠ 10
    · rw [if_pos e, decide_eq_true e]; rfl
    · rw [if_neg e, decide_eq_false e]; rfl
  · by_cases e : op ≠ 13 ∧ op ≠ 14
    · rw [if_pos e, decide_eq_true e]; rfl
    · rw [if_neg e, decide_eq_false e]; rfl
theorem tyN_q {w : World} {p : Prg} {k : Int} (h : ∀ y ∈ p.gTypes_l, fxdQ w y) : fxdQ w (tyN p k) := by
  unfold tyN
  by_cases e : k.toNat < p.gTypes_l.length
  · exact getD_Q h _ e
  · rw [List.getD_eq_getElem?_getD, List.getElem?_eq_none (by omega)]; exact ⟨by decide, by decide, by decide, by decide, by decide, by decide, by decide, by decide, by decide, trivial⟩
theorem fx0_q (w : World) : fxdQ w fx0 := ⟨by decide, by decide, by decide, by decide, by decide, by decide, by decide, by decide, by decide, trivial⟩
theorem ty_q {w : World} {p : Prg} {op k : Int} (h : ∀ y ∈ p.gTypes_l, fxdQ w y) : fxdQ w (tyA p op k) ∧ fxdQ w (tyB p op k) ∧ fxdQ w (tyC p op k) := by
  unfold tyA tyB tyC
  refine ⟨?_, ?_, ?_⟩ <;> split <;> first | exact tyN_q h | exact fx0_q w

abbrev fuC (t : Fxd) : List Value := [iv t.gUnit_M, iv t.gUnit_Kg, iv t.gUnit_S, iv t.gUnit_A, iv t.gUnit_K]
abbrev fuA (t : Fxd) : Array Value := #[iv t.gUnit_M, iv t.gUnit_Kg, iv t.gUnit_S, iv t.gUnit_A, iv t.gUnit_K]
end Go.Proofs.YtaoolgcddapegaaGreatDoor

namespace Go.Proofs.YtaoolgcddapegaaGreatDoor
noncomputable section
open Go.Eng Go.RowKit
set_option linter.unusedSimpArgs false
set_option linter.unusedVariables false
set_option maxRecDepth 20000
set_option maxHeartbeats 20000000
abbrev kvX20_1 : List Value := [iv 0, .bool false, iv 0, iv 0, iv 0, iv 0, iv 0, iv 0, iv 0, iv 0]
abbrev kvX20_2 : Array Value := #[iv 0, .bool false, iv 0, iv 0, iv 0, iv 0, iv 0, iv 0, iv 0, iv 0]
theorem hb110 : HasBody Tryz.prog 110 := fun _ _ => by kernel_rfl
def K110_0 := List.drop 1 (adv 30 [] (bodyOf Tryz.f110))
def K110_1 := List.drop 1 (adv 1 [] K110_0)
def K110_2 := List.drop 1 (adv 2 [] K110_1)
theorem types_any (p : Prg) (i : Ins) (w : World) (hp : prgQ w p) (hi : insQ w i) (hk : 0 ≤ i.gK ∧ i.gK < 2097152) : Ret Tryz.prog 110 #[.agg (prgA p), .agg (insA i)] w (fun v w' => v = .tuple #[.agg (fxdA (tyA p i.gOp i.gK)), .agg (fxdA (tyB p i.gOp i.gK)), .agg (fxdA (tyC p i.gOp i.gK)), .bool (tyOK p i.gOp i.gK)] ∧ Sep w [] w') := by
 refine Ret.st (N := 86) Tryz.func110 fun R hR S0 => ?_
 obtain ⟨q1, q2, q3, q4, q5, q6, q7, q8, q9, q10, q11, q12, q13, q14, q15, q16, q17, q18, q19, q20, q21, q22, q23, q24, q25, _⟩ := id hp
 have ql1 := q2.len_eq
 have ql2 := q5.len_eq
 have ql3 := q8.len_eq
 have ql4 := q11.len_eq
 have ql5 := q15.len_eq
 have ql6 := q18.len_eq
 have ql7 := q21.len_eq
 have ql8 := q24.len_eq
 obtain ⟨q26, q27, q28, q29, q30, _⟩ := id hi
 refine J.nw 2 [] [] [] S0 2 (prgC p) 28 fun b1 w1 S1 => ?_
 refine J.nw 0 [] [] [] S1 3 (insC i) 48 fun b2 w2 S2 => ?_
 refine J.nw 0 [] [] [] S2 4 kvX20_1 75 fun b3 w3 S3 => ?_
 refine J.nw 0 [] [] [] S3 5 kvX20_1 75 fun b4 w4 S4 => ?_
 refine J.nw 0 [] [] [] S4 6 kvX20_1 75 fun b5 w5 S5 => ?_
 refine J.lb 5 [] [] [] S5 3 rfl 16 (iv i.gK) ?_
 refine J.c0 0 [] [] [] S5 17 hb131 (split3_any i.gK _ (by omega)) fun w6 S6 => ?_
 refine J.lb 11 [] [(10, iv (i.gK % 128)), (9, iv (i.gK / 128 % 128)), (8, iv (i.gK / 16384))] [] S6 4 rfl 22 (.slice p.gTypes_a p.gTypes_n p.gTypes_c) ?_
 have X1 : ∀ (ton : Bool) (w7 : World), ((ton = true → i.gOp = 9 ∨ i.gOp = 10) ∧ (ton = false → ¬ (i.gOp = 9 ∨ i.gOp = 10))) → Sep w [box b5 kvX20_1 75, box b4 kvX20_1 75, box b3 kvX20_1 75, box b2 (insC i) 48, box b1 (prgC p) 28] w7 → J Tryz.prog 110 86 R K110_0 [(11, iv (p.gTypes_n : Int)), (10, iv (i.gK % 128)), (9, iv (i.gK / 128 % 128)), (8, iv (i.gK / 16384)), (6, pv b5), (5, pv b4), (4, pv b3), (3, pv b2), (2, pv b1), (12, .bool ton)] w7 := by
  intro ton w7 hton S7
  have X2 : ∀ (tst : Bool) (w8 : World), ((tst = true → i.gOp = 13 ∨ i.gOp = 14) ∧ (tst = false → ¬ (i.gOp = 13 ∨ i.gOp = 14))) → Sep w [box b5 kvX20_1 75, box b4 kvX20_1 75, box b3 kvX20_1 75, box b2 (insC i) 48, box b1 (prgC p) 28] w8 → J Tryz.prog 110 86 R K110_1 [(11, iv (p.gTypes_n : Int)), (10, iv (i.gK % 128)), (9, iv (i.gK / 128 % 128)), (8, iv (i.gK / 16384)), (6, pv b5), (5, pv b4), (4, pv b3), (2, pv b1), (12, .bool ton), (13, .bool tst)] w8 := by
   intro tst w8 htst S8
   have X3 : ∀ (tb : Bool) (w9 : World), ((tb = true → ¬ (i.gK / 16384 < (p.gTypes_n : Int) ∧ (i.gOp = 9 ∨ i.gOp = 10 ∨ i.gK / 128 % 128 < (p.gTypes_n : Int)) ∧ (i.gOp = 13 ∨ i.gOp = 14 ∨ i.gK % 128 < (p.gTypes_n : Int)))) ∧ (tb = false → i.gK / 16384 < (p.gTypes_n : Int) ∧ (i.gOp = 9 ∨ i.gOp = 10 ∨ i.gK / 128 % 128 < (p.gTypes_n : Int)) ∧ (i.gOp = 13 ∨ i.gOp = 14 ∨ i.gK % 128 < (p.gTypes_n : Int)))) → Sep w [box b5 kvX20_1 75, box b4 kvX20_1 75, box b3 kvX20_1 75, box b2 (insC i) 48, box b1 (prgC p) 28] w9 → J Tryz.prog 110 86 R K110_2 [(10, iv (i.gK % 128)), (9, iv (i.gK / 128 % 128)), (8, iv (i.gK / 16384)), (6, pv b5), (5, pv b4), (4, pv b3), (2, pv b1), (12, .bool ton), (13, .bool tst), (60, .bool tb)] w9 := by
    intro tb w9 htb S9
    refine J.b 0 [] [] [] 60 tb (fun fk1 => ?_) fun fk1 => ?_
    ·skip
     have fb1 := htb.1 fk1
     refine J.r 2 [true] [] [] ?_
     refine J.drawPlan (fun w_ => Sep w [box b5 kvX20_1 75, box b4 kvX20_1 75, box b3 kvX20_1 75, box b2 (insC i) 48, box b1 (prgC p) 28] w_) [(0, true), (1, true), (2, true), (3, false), (4, false), (5, false), (6, true)] S9 Tryz.mixed (by kernel_rfl) (planOK_of (T := [(0, some 61, 16), (0, some 62, 32), (0, some 63, 64), (1, none, 2305843009213693968), (11, none, 4611686018427387936), (31, none, 9223372036854775872), (63, some 7, 0)]) (by kernel_rfl) (by kernel_rfl)) ?_
     intro w10 S10
     refine PB.mk S10 ?_
     refine PL.takeOK 0 (fun w_ S_ => OK.ldBox S_ 2 61 75 0 (.agg kvX20_2) (by kernel_rfl) rfl (by kernel_rfl)) rfl ?_
     refine PL.takeOK 1 (fun w_ S_ => OK.ldBox S_ 1 62 75 0 (.agg kvX20_2) (by kernel_rfl) rfl (by kernel_rfl)) rfl ?_
     refine PL.takeOK 2 (fun w_ S_ => OK.ldBox S_ 0 63 75 0 (.agg kvX20_2) (by kernel_rfl) rfl (by kernel_rfl)) rfl ?_
     refine PL.stBox S10 2 75 0 (.agg kvX20_2) kvX20_1 [box b5 kvX20_1 75, box b4 kvX20_1 75, box b3 kvX20_1 75, box b2 (insC i) 48, box b1 (prgC p) 28] (by kernel_rfl) rfl (by kernel_rfl) (by kernel_rfl) rfl ?_
     intro w11 S11
     refine PB.mk S11 ?_
     refine PL.stBox S11 1 75 0 (.agg kvX20_2) kvX20_1 [box b5 kvX20_1 75, box b4 kvX20_1 75, box b3 kvX20_1 75, box b2 (insC i) 48, box b1 (prgC p) 28] (by kernel_rfl) rfl (by kernel_rfl) (by kernel_rfl) rfl ?_
     intro w12 S12
     refine PB.mk S12 ?_
     refine PL.stBox S12 0 75 0 (.agg kvX20_2) kvX20_1 [box b5 kvX20_1 75, box b4 kvX20_1 75, box b3 kvX20_1 75, box b2 (insC i) 48, box b1 (prgC p) 28] (by kernel_rfl) rfl (by kernel_rfl) (by kernel_rfl) rfl ?_
     intro w13 S13
     refine PB.mk S13 ?_
     refine PL.take 6 7 (.bool false) (fun _ _ => by kernel_rfl) ?_
     refine PL.done ?_
     refine J.ret Tryz.f110 [.agg kvX20_2, .agg kvX20_2, .agg kvX20_2, .bool false] Tryz.func110 ⟨⟨⟨b3, 0, none⟩, by kernel_rfl, ldV_run (S13.nth 2 rfl) (by kernel_rfl)⟩, ⟨⟨b4, 0, none⟩, by kernel_rfl, ldV_run (S13.nth 1 rfl) (by kernel_rfl)⟩, ⟨⟨b5, 0, none⟩, by kernel_rfl, ldV_run (S13.nth 0 rfl) (by kernel_rfl)⟩, by kernel_rfl, trivial⟩ ?_
     refine hR _ _ ?_
     have e0 : tyOK p i.gOp i.gK = false := decide_eq_false (by omega)
     obtain ⟨e1, e2, e3⟩ := ty_no e0
     exact ⟨by rw [e1, e2, e3, e0]; rfl, S13.nil⟩
    have fb2 := htb.2 fk1
    refine J.lb 5 [false] [] [] S9 4 rfl 65 (.slice p.gTypes_a p.gTypes_n p.gTypes_c) ?_
    refine J.r 1 [] [(66, iv (i.gK / 16384))] [] ?_
    obtain ⟨p1, hp1, hc1⟩ := q5.at fx0 (i.gK / 16384).toNat (by omega)
    have hel1 := getD_Q q6 fx0 (n := (i.gK / 16384).toNat) (by have := q5.len_eq; omega)
    obtain ⟨q31, q32, q33, q34, q35, q36, q37, q38, q39, _⟩ := id hel1
    refine J.ok (OK.index 67 23 10 p.gTypes_a p1 p.gTypes_n (i.gK / 16384).toNat (i.gK / 16384) (p1.add ((i.gK / 16384).toNat * 10)) (by kernel_rfl) (by kernel_rfl) hp1 (by omega) (by omega) rfl) ?_
    refine J.ok (OK.ldCells 68 75 (p1.add ((i.gK / 16384).toNat * 10)) (fxdC (p.gTypes_l.getD (i.gK / 16384).toNat fx0)) (by kernel_rfl) (by kernel_rfl) (by kernel_rfl) (fun j_ v_ hj_ => S9.cell (hc1 j_ v_ hj_))) ?_
    refine J.sb 0 [] [] [] S9 2 rfl (fxdC (p.gTypes_l.getD (i.gK / 16384).toNat fx0)) rfl fun w14 S14 => ?_
    refine J.bn 7 [] [] [] 70 ton (fun fk2 => ?_) fun fk2 => ?_
    ·skip
     have fb3 := hton.1 fk2
     refine J.bn 8 [false] [] [] 77 tst (fun fk3 => ?_) fun fk3 => ?_
     ·skip
      have fb4 := htst.1 fk3
      refine J.r 3 [false] [] [] ?_
      refine J.drawPlan (fun w_ => Sep w [box b5 kvX20_1 75, box b4 kvX20_1 75, box b3 (fxdC (p.gTypes_l.getD (i.gK / 16384).toNat fx0)) 75, box b2 (insC i) 48, box b1 (prgC p) 28] w_) [(0, true), (1, true), (2, true), (3, false), (4, false), (5, false), (6, true)] S14 Tryz.mixed (by kernel_rfl) (planOK_of (T := [(0, some 83, 16), (0, some 84, 32), (0, some 85, 64), (1, none, 9671406556917033397649424), (11, none, 19342813113834066795298848), (31, none, 38685626227668133590597696), (63, some 7, 0)]) (by kernel_rfl) (by kernel_rfl)) ?_
      intro w15 S15
      refine PB.mk S15 ?_
      refine PL.takeOK 0 (fun w_ S_ => OK.ldBox S_ 2 83 75 0 (.agg (fxdA (p.gTypes_l.getD (i.gK / 16384).toNat fx0))) (by kernel_rfl) rfl (by kernel_rfl)) rfl ?_
      refine PL.takeOK 1 (fun w_ S_ => OK.ldBox S_ 1 84 75 0 (.agg kvX20_2) (by kernel_rfl) rfl (by kernel_rfl)) rfl ?_
      refine PL.takeOK 2 (fun w_ S_ => OK.ldBox S_ 0 85 75 0 (.agg kvX20_2) (by kernel_rfl) rfl (by kernel_rfl)) rfl ?_
      refine PL.stBox S15 2 75 0 (.agg (fxdA (p.gTypes_l.getD (i.gK / 16384).toNat fx0))) (fxdC (p.gTypes_l.getD (i.gK / 16384).toNat fx0)) [box b5 kvX20_1 75, box b4 kvX20_1 75, box b3 (fxdC (p.gTypes_l.getD (i.gK / 16384).toNat fx0)) 75, box b2 (insC i) 48, box b1 (prgC p) 28] (by kernel_rfl) rfl (by kernel_rfl) (by kernel_rfl) rfl ?_
      intro w16 S16
      refine PB.mk S16 ?_
      refine PL.stBox S16 1 75 0 (.agg kvX20_2) kvX20_1 [box b5 kvX20_1 75, box b4 kvX20_1 75, box b3 (fxdC (p.gTypes_l.getD (i.gK / 16384).toNat fx0)) 75, box b2 (insC i) 48, box b1 (prgC p) 28] (by kernel_rfl) rfl (by kernel_rfl) (by kernel_rfl) rfl ?_
      intro w17 S17
      refine PB.mk S17 ?_
      refine PL.stBox S17 0 75 0 (.agg kvX20_2) kvX20_1 [box b5 kvX20_1 75, box b4 kvX20_1 75, box b3 (fxdC (p.gTypes_l.getD (i.gK / 16384).toNat fx0)) 75, box b2 (insC i) 48, box b1 (prgC p) 28] (by kernel_rfl) rfl (by kernel_rfl) (by kernel_rfl) rfl ?_
      intro w18 S18
      refine PB.mk S18 ?_
      refine PL.take 6 7 (.bool true) (fun _ _ => by kernel_rfl) ?_
      refine PL.done ?_
      refine J.ret Tryz.f110 [.agg (fxdA (p.gTypes_l.getD (i.gK / 16384).toNat fx0)), .agg kvX20_2, .agg kvX20_2, .bool true] Tryz.func110 ⟨⟨⟨b3, 0, none⟩, by kernel_rfl, ldV_run (S18.nth 2 rfl) (by kernel_rfl)⟩, ⟨⟨b4, 0, none⟩, by kernel_rfl, ldV_run (S18.nth 1 rfl) (by kernel_rfl)⟩, ⟨⟨b5, 0, none⟩, by kernel_rfl, ldV_run (S18.nth 0 rfl) (by kernel_rfl)⟩, by kernel_rfl, trivial⟩ ?_
      refine hR _ _ ?_
      obtain ⟨e1, e2, e3⟩ := ty_yes (p := p) (op := i.gOp) (k := i.gK) ((tyOK_iff (p := p) (op := i.gOp) (k := i.gK)).2 (by omega))
      rw [if_neg (by omega)] at e2
      rw [if_neg (by omega)] at e3
      exact ⟨by rw [e1, e2, e3, (tyOK_iff (p := p) (op := i.gOp) (k := i.gK)).2 (by omega)]; rfl, S18.nil⟩
     have fb5 := htst.2 fk3
     refine J.lb 3 [true] [] [] S14 4 rfl 79 (.slice p.gTypes_a p.gTypes_n p.gTypes_c) ?_
     refine J.r 1 [] [(80, iv (i.gK % 128))] [] ?_
     obtain ⟨p2, hp2, hc2⟩ := q5.at fx0 (i.gK % 128).toNat (by omega)
     have hel2 := getD_Q q6 fx0 (n := (i.gK % 128).toNat) (by have := q5.len_eq; omega)
     obtain ⟨q40, q41, q42, q43, q44, q45, q46, q47, q48, _⟩ := id hel2
     refine J.ok (OK.index 81 23 10 p.gTypes_a p2 p.gTypes_n (i.gK % 128).toNat (i.gK % 128) (p2.add ((i.gK % 128).toNat * 10)) (by kernel_rfl) (by kernel_rfl) hp2 (by omega) (by omega) rfl) ?_
     refine J.ok (OK.ldCells 82 75 (p2.add ((i.gK % 128).toNat * 10)) (fxdC (p.gTypes_l.getD (i.gK % 128).toNat fx0)) (by kernel_rfl) (by kernel_rfl) (by kernel_rfl) (fun j_ v_ hj_ => S14.cell (hc2 j_ v_ hj_))) ?_
     refine J.sb 0 [] [] [] S14 0 rfl (fxdC (p.gTypes_l.getD (i.gK % 128).toNat fx0)) rfl fun w19 S19 => ?_
     refine J.r 2 [] [] [] ?_
     refine J.drawPlan (fun w_ => Sep w [box b5 (fxdC (p.gTypes_l.getD (i.gK % 128).toNat fx0)) 75, box b4 kvX20_1 75, box b3 (fxdC (p.gTypes_l.getD (i.gK / 16384).toNat fx0)) 75, box b2 (insC i) 48, box b1 (prgC p) 28] w_) [(0, true), (1, true), (2, true), (3, false), (4, false), (5, false), (6, true)] S19 Tryz.mixed (by kernel_rfl) (planOK_of (T := [(0, some 83, 16), (0, some 84, 32), (0, some 85, 64), (1, none, 9671406556917033397649424), (11, none, 19342813113834066795298848), (31, none, 38685626227668133590597696), (63, some 7, 0)]) (by kernel_rfl) (by kernel_rfl)) ?_
     intro w20 S20
     refine PB.mk S20 ?_
     refine PL.takeOK 0 (fun w_ S_ => OK.ldBox S_ 2 83 75 0 (.agg (fxdA (p.gTypes_l.getD (i.gK / 16384).toNat fx0))) (by kernel_rfl) rfl (by kernel_rfl)) rfl ?_
     refine PL.takeOK 1 (fun w_ S_ => OK.ldBox S_ 1 84 75 0 (.agg kvX20_2) (by kernel_rfl) rfl (by kernel_rfl)) rfl ?_
     refine PL.takeOK 2 (fun w_ S_ => OK.ldBox S_ 0 85 75 0 (.agg (fxdA (p.gTypes_l.getD (i.gK % 128).toNat fx0))) (by kernel_rfl) rfl (by kernel_rfl)) rfl ?_
     refine PL.stBox S20 2 75 0 (.agg (fxdA (p.gTypes_l.getD (i.gK / 16384).toNat fx0))) (fxdC (p.gTypes_l.getD (i.gK / 16384).toNat fx0)) [box b5 (fxdC (p.gTypes_l.getD (i.gK % 128).toNat fx0)) 75, box b4 kvX20_1 75, box b3 (fxdC (p.gTypes_l.getD (i.gK / 16384).toNat fx0)) 75, box b2 (insC i) 48, box b1 (prgC p) 28] (by kernel_rfl) rfl (by kernel_rfl) (by kernel_rfl) rfl ?_
     intro w21 S21
     refine PB.mk S21 ?_
     refine PL.stBox S21 1 75 0 (.agg kvX20_2) kvX20_1 [box b5 (fxdC (p.gTypes_l.getD (i.gK % 128).toNat fx0)) 75, box b4 kvX20_1 75, box b3 (fxdC (p.gTypes_l.getD (i.gK / 16384).toNat fx0)) 75, box b2 (insC i) 48, box b1 (prgC p) 28] (by kernel_rfl) rfl (by kernel_rfl) (by kernel_rfl) rfl ?_
     intro w22 S22
     refine PB.mk S22 ?_
     refine PL.stBox S22 0 75 0 (.agg (fxdA (p.gTypes_l.getD (i.gK % 128).toNat fx0))) (fxdC (p.gTypes_l.getD (i.gK % 128).toNat fx0)) [box b5 (fxdC (p.gTypes_l.getD (i.gK % 128).toNat fx0)) 75, box b4 kvX20_1 75, box b3 (fxdC (p.gTypes_l.getD (i.gK / 16384).toNat fx0)) 75, box b2 (insC i) 48, box b1 (prgC p) 28] (by kernel_rfl) rfl (by kernel_rfl) (by kernel_rfl) rfl ?_
     intro w23 S23
     refine PB.mk S23 ?_
     refine PL.take 6 7 (.bool true) (fun _ _ => by kernel_rfl) ?_
     refine PL.done ?_
     refine J.ret Tryz.f110 [.agg (fxdA (p.gTypes_l.getD (i.gK / 16384).toNat fx0)), .agg kvX20_2, .agg (fxdA (p.gTypes_l.getD (i.gK % 128).toNat fx0)), .bool true] Tryz.func110 ⟨⟨⟨b3, 0, none⟩, by kernel_rfl, ldV_run (S23.nth 2 rfl) (by kernel_rfl)⟩, ⟨⟨b4, 0, none⟩, by kernel_rfl, ldV_run (S23.nth 1 rfl) (by kernel_rfl)⟩, ⟨⟨b5, 0, none⟩, by kernel_rfl, ldV_run (S23.nth 0 rfl) (by kernel_rfl)⟩, by kernel_rfl, trivial⟩ ?_
     refine hR _ _ ?_
     obtain ⟨e1, e2, e3⟩ := ty_yes (p := p) (op := i.gOp) (k := i.gK) ((tyOK_iff (p := p) (op := i.gOp) (k := i.gK)).2 (by omega))
     rw [if_neg (by omega)] at e2
     rw [if_pos (by omega)] at e3
     exact ⟨by rw [e1, e2, e3, (tyOK_iff (p := p) (op := i.gOp) (k := i.gK)).2 (by omega)]; rfl, S23.nil⟩
    have fb6 := hton.2 fk2
    refine J.lb 3 [true] [] [] S14 4 rfl 72 (.slice p.gTypes_a p.gTypes_n p.gTypes_c) ?_
    refine J.r 1 [] [(73, iv (i.gK / 128 % 128))] [] ?_
    obtain ⟨p3, hp3, hc3⟩ := q5.at fx0 (i.gK / 128 % 128).toNat (by omega)
    have hel3 := getD_Q q6 fx0 (n := (i.gK / 128 % 128).toNat) (by have := q5.len_eq; omega)
    obtain ⟨q49, q50, q51, q52, q53, q54, q55, q56, q57, _⟩ := id hel3
    refine J.ok (OK.index 74 23 10 p.gTypes_a p3 p.gTypes_n (i.gK / 128 % 128).toNat (i.gK / 128 % 128) (p3.add ((i.gK / 128 % 128).toNat * 10)) (by kernel_rfl) (by kernel_rfl) hp3 (by omega) (by omega) rfl) ?_
    refine J.ok (OK.ldCells 75 75 (p3.add ((i.gK / 128 % 128).toNat * 10)) (fxdC (p.gTypes_l.getD (i.gK / 128 % 128).toNat fx0)) (by kernel_rfl) (by kernel_rfl) (by kernel_rfl) (fun j_ v_ hj_ => S14.cell (hc3 j_ v_ hj_))) ?_
    refine J.sb 0 [] [] [] S14 1 rfl (fxdC (p.gTypes_l.getD (i.gK / 128 % 128).toNat fx0)) rfl fun w24 S24 => ?_
    refine J.bn 7 [] [] [] 77 tst (fun fk4 => ?_) fun fk4 => ?_
    ·skip
     have fb7 := htst.1 fk4
     refine J.r 3 [false] [] [] ?_
     refine J.drawPlan (fun w_ => Sep w [box b5 kvX20_1 75, box b4 (fxdC (p.gTypes_l.getD (i.gK / 128 % 128).toNat fx0)) 75, box b3 (fxdC (p.gTypes_l.getD (i.gK / 16384).toNat fx0)) 75, box b2 (insC i) 48, box b1 (prgC p) 28] w_) [(0, true), (1, true), (2, true), (3, false), (4, false), (5, false), (6, true)] S24 Tryz.mixed (by kernel_rfl) (planOK_of (T := [(0, some 83, 16), (0, some 84, 32), (0, some 85, 64), (1, none, 9671406556917033397649424), (11, none, 19342813113834066795298848), (31, none, 38685626227668133590597696), (63, some 7, 0)]) (by kernel_rfl) (by kernel_rfl)) ?_
     intro w25 S25
     refine PB.mk S25 ?_
     refine PL.takeOK 0 (fun w_ S_ => OK.ldBox S_ 2 83 75 0 (.agg (fxdA (p.gTypes_l.getD (i.gK / 16384).toNat fx0))) (by kernel_rfl) rfl (by kernel_rfl)) rfl ?_
     refine PL.takeOK 1 (fun w_ S_ => OK.ldBox S_ 1 84 75 0 (.agg (fxdA (p.gTypes_l.getD (i.gK / 128 % 128).toNat fx0))) (by kernel_rfl) rfl (by kernel_rfl)) rfl ?_
     refine PL.takeOK 2 (fun w_ S_ => OK.ldBox S_ 0 85 75 0 (.agg kvX20_2) (by kernel_rfl) rfl (by kernel_rfl)) rfl ?_
     refine PL.stBox S25 2 75 0 (.agg (fxdA (p.gTypes_l.getD (i.gK / 16384).toNat fx0))) (fxdC (p.gTypes_l.getD (i.gK / 16384).toNat fx0)) [box b5 kvX20_1 75, box b4 (fxdC (p.gTypes_l.getD (i.gK / 128 % 128).toNat fx0)) 75, box b3 (fxdC (p.gTypes_l.getD (i.gK / 16384).toNat fx0)) 75, box b2 (insC i) 48, box b1 (prgC p) 28] (by kernel_rfl) rfl (by kernel_rfl) (by kernel_rfl) rfl ?_
     intro w26 S26
     refine PB.mk S26 ?_
     refine PL.stBox S26 1 75 0 (.agg (fxdA (p.gTypes_l.getD (i.gK / 128 % 128).toNat fx0))) (fxdC (p.gTypes_l.getD (i.gK / 128 % 128).toNat fx0)) [box b5 kvX20_1 75, box b4 (fxdC (p.gTypes_l.getD (i.gK / 128 % 128).toNat fx0)) 75, box b3 (fxdC (p.gTypes_l.getD (i.gK / 16384).toNat fx0)) 75, box b2 (insC i) 48, box b1 (prgC p) 28] (by kernel_rfl) rfl (by kernel_rfl) (by kernel_rfl) rfl ?_
     intro w27 S27
     refine PB.mk S27 ?_
     refine PL.stBox S27 0 75 0 (.agg kvX20_2) kvX20_1 [box b5 kvX20_1 75, box b4 (fxdC (p.gTypes_l.getD (i.gK / 128 % 128).toNat fx0)) 75, box b3 (fxdC (p.gTypes_l.getD (i.gK / 16384).toNat fx0)) 75, box b2 (insC i) 48, box b1 (prgC p) 28] (by kernel_rfl) rfl (by kernel_rfl) (by kernel_rfl) rfl ?_
     intro w28 S28
     refine PB.mk S28 ?_
     refine PL.take 6 7 (.bool true) (fun _ _ => by kernel_rfl) ?_
     refine PL.done ?_
     refine J.ret Tryz.f110 [.agg (fxdA (p.gTypes_l.getD (i.gK / 16384).toNat fx0)), .agg (fxdA (p.gTypes_l.getD (i.gK / 128 % 128).toNat fx0)), .agg kvX20_2, .bool true] Tryz.func110 ⟨⟨⟨b3, 0, none⟩, by kernel_rfl, ldV_run (S28.nth 2 rfl) (by kernel_rfl)⟩, ⟨⟨b4, 0, none⟩, by kernel_rfl, ldV_run (S28.nth 1 rfl) (by kernel_rfl)⟩, ⟨⟨b5, 0, none⟩, by kernel_rfl, ldV_run (S28.nth 0 rfl) (by kernel_rfl)⟩, by kernel_rfl, trivial⟩ ?_
     refine hR _ _ ?_
     obtain ⟨e1, e2, e3⟩ := ty_yes (p := p) (op := i.gOp) (k := i.gK) ((tyOK_iff (p := p) (op := i.gOp) (k := i.gK)).2 (by omega))
     rw [if_pos (by omega)] at e2
     rw [if_neg (by omega)] at e3
     exact ⟨by rw [e1, e2, e3, (tyOK_iff (p := p) (op := i.gOp) (k := i.gK)).2 (by omega)]; rfl, S28.nil⟩
    have fb8 := htst.2 fk4
    refine J.lb 3 [true] [] [] S24 4 rfl 79 (.slice p.gTypes_a p.gTypes_n p.gTypes_c) ?_
    refine J.r 1 [] [(80, iv (i.gK % 128))] [] ?_
    obtain ⟨p4, hp4, hc4⟩ := q5.at fx0 (i.gK % 128).toNat (by omega)
    have hel4 := getD_Q q6 fx0 (n := (i.gK % 128).toNat) (by have := q5.len_eq; omega)
    obtain ⟨q58, q59, q60, q61, q62, q63, q64, q65, q66, _⟩ := id hel4
    refine J.ok (OK.index 81 23 10 p.gTypes_a p4 p.gTypes_n (i.gK % 128).toNat (i.gK % 128) (p4.add ((i.gK % 128).toNat * 10)) (by kernel_rfl) (by kernel_rfl) hp4 (by omega) (by omega) rfl) ?_
    refine J.ok (OK.ldCells 82 75 (p4.add ((i.gK % 128).toNat * 10)) (fxdC (p.gTypes_l.getD (i.gK % 128).toNat fx0)) (by kernel_rfl) (by kernel_rfl) (by kernel_rfl) (fun j_ v_ hj_ => S24.cell (hc4 j_ v_ hj_))) ?_
    refine J.sb 0 [] [] [] S24 0 rfl (fxdC (p.gTypes_l.getD (i.gK % 128).toNat fx0)) rfl fun w29 S29 => ?_
    refine J.r 2 [] [] [] ?_
    refine J.drawPlan (fun w_ => Sep w [box b5 (fxdC (p.gTypes_l.getD (i.gK % 128).toNat fx0)) 75, box b4 (fxdC (p.gTypes_l.getD (i.gK / 128 % 128).toNat fx0)) 75, box b3 (fxdC (p.gTypes_l.getD (i.gK / 16384).toNat fx0)) 75, box b2 (insC i) 48, box b1 (prgC p) 28] w_) [(0, true), (1, true), (2, true), (3, false), (4, false), (5, false), (6, true)] S29 Tryz.mixed (by kernel_rfl) (planOK_of (T := [(0, some 83, 16), (0, some 84, 32), (0, some 85, 64), (1, none, 9671406556917033397649424), (11, none, 19342813113834066795298848), (31, none, 38685626227668133590597696), (63, some 7, 0)]) (by kernel_rfl) (by kernel_rfl)) ?_
    intro w30 S30
    refine PB.mk S30 ?_
    refine PL.takeOK 0 (fun w_ S_ => OK.ldBox S_ 2 83 75 0 (.agg (fxdA (p.gTypes_l.getD (i.gK / 16384).toNat fx0))) (by kernel_rfl) rfl (by kernel_rfl)) rfl ?_
    refine PL.takeOK 1 (fun w_ S_ => OK.ldBox S_ 1 84 75 0 (.agg (fxdA (p.gTypes_l.getD (i.gK / 128 % 128).toNat fx0))) (by kernel_rfl) rfl (by kernel_rfl)) rfl ?_
    refine PL.takeOK 2 (fun w_ S_ => OK.ldBox S_ 0 85 75 0 (.agg (fxdA (p.gTypes_l.getD (i.gK % 128).toNat fx0))) (by kernel_rfl) rfl (by kernel_rfl)) rfl ?_
    refine PL.stBox S30 2 75 0 (.agg (fxdA (p.gTypes_l.getD (i.gK / 16384).toNat fx0))) (fxdC (p.gTypes_l.getD (i.gK / 16384).toNat fx0)) [box b5 (fxdC (p.gTypes_l.getD (i.gK % 128).toNat fx0)) 75, box b4 (fxdC (p.gTypes_l.getD (i.gK / 128 % 128).toNat fx0)) 75, box b3 (fxdC (p.gTypes_l.getD (i.gK / 16384).toNat fx0)) 75, box b2 (insC i) 48, box b1 (prgC p) 28] (by kernel_rfl) rfl (by kernel_rfl) (by kernel_rfl) rfl ?_
    intro w31 S31
    refine PB.mk S31 ?_
    refine PL.stBox S31 1 75 0 (.agg (fxdA (p.gTypes_l.getD (i.gK / 128 % 128).toNat fx0))) (fxdC (p.gTypes_l.getD (i.gK / 128 % 128).toNat fx0)) [box b5 (fxdC (p.gTypes_l.getD (i.gK % 128).toNat fx0)) 75, box b4 (fxdC (p.gTypes_l.getD (i.gK / 128 % 128).toNat fx0)) 75, box b3 (fxdC (p.gTypes_l.getD (i.gK / 16384).toNat fx0)) 75, box b2 (insC i) 48, box b1 (prgC p) 28] (by kernel_rfl) rfl (by kernel_rfl) (by kernel_rfl) rfl ?_
    intro w32 S32
    refine PB.mk S32 ?_
    refine PL.stBox S32 0 75 0 (.agg (fxdA (p.gTypes_l.getD (i.gK % 128).toNat fx0))) (fxdC (p.gTypes_l.getD (i.gK % 128).toNat fx0)) [box b5 (fxdC (p.gTypes_l.getD (i.gK % 128).toNat fx0)) 75, box b4 (fxdC (p.gTypes_l.getD (i.gK / 128 % 128).toNat fx0)) 75, box b3 (fxdC (p.gTypes_l.getD (i.gK / 16384).toNat fx0)) 75, box b2 (insC i) 48, box b1 (prgC p) 28] (by kernel_rfl) rfl (by kernel_rfl) (by kernel_rfl) rfl ?_
    intro w33 S33
    refine PB.mk S33 ?_
    refine PL.take 6 7 (.bool true) (fun _ _ => by kernel_rfl) ?_
    refine PL.done ?_
    refine J.ret Tryz.f110 [.agg (fxdA (p.gTypes_l.getD (i.gK / 16384).toNat fx0)), .agg (fxdA (p.gTypes_l.getD (i.gK / 128 % 128).toNat fx0)), .agg (fxdA (p.gTypes_l.getD (i.gK % 128).toNat fx0)), .bool true] Tryz.func110 ⟨⟨⟨b3, 0, none⟩, by kernel_rfl, ldV_run (S33.nth 2 rfl) (by kernel_rfl)⟩, ⟨⟨b4, 0, none⟩, by kernel_rfl, ldV_run (S33.nth 1 rfl) (by kernel_rfl)⟩, ⟨⟨b5, 0, none⟩, by kernel_rfl, ldV_run (S33.nth 0 rfl) (by kernel_rfl)⟩, by kernel_rfl, trivial⟩ ?_
    refine hR _ _ ?_
    obtain ⟨e1, e2, e3⟩ := ty_yes (p := p) (op := i.gOp) (k := i.gK) ((tyOK_iff (p := p) (op := i.gOp) (k := i.gK)).2 (by omega))
    rw [if_pos (by omega)] at e2
    rw [if_pos (by omega)] at e3
    exact ⟨by rw [e1, e2, e3, (tyOK_iff (p := p) (op := i.gOp) (k := i.gK)).2 (by omega)]; rfl, S33.nil⟩
   refine J.c 7 [] [] [] 43 ((i.gK / 16384) ≥ (p.gTypes_n : Int)) (fun fk5 => ?_) fun fk5 => ?_
   ·skip
    exact J.t 18 (X3 true w8 (⟨fun h_ => by first | (cases h_; done) | (have h2_ := of_decide_eq_true h_; omega) | omega, fun h_ => by first | (cases h_; done) | (have h2_ := of_decide_eq_false h_; omega) | omega⟩) S8)
   refine J.bn 3 [] [] [] 46 ton (fun fk6 => ?_) fun fk6 => ?_
   ·skip
    have fb9 := hton.1 fk6
    refine J.bn 9 [] [(52, .bool false)] [] 55 tst (fun fk7 => ?_) fun fk7 => ?_
    ·skip
     have fb10 := htst.1 fk7
     exact J.t 6 (X3 false w8 (⟨fun h_ => by first | (cases h_; done) | (have h2_ := of_decide_eq_true h_; omega) | omega, fun h_ => by first | (cases h_; done) | (have h2_ := of_decide_eq_false h_; omega) | omega⟩) S8)
    have fb11 := htst.2 fk7
    exact J.t 6 (X3 (decide ((i.gK % 128) ≥ (p.gTypes_n : Int))) w8 (⟨fun h_ => by first | (cases h_; done) | (have h2_ := of_decide_eq_true h_; omega) | omega, fun h_ => by first | (cases h_; done) | (have h2_ := of_decide_eq_false h_; omega) | omega⟩) S8)
   have fb12 := hton.2 fk6
   refine J.c 6 [] [] [] 52 ((i.gK / 128 % 128) ≥ (p.gTypes_n : Int)) (fun fk8 => ?_) fun fk8 => ?_
   ·skip
    exact J.t 9 (X3 true w8 (⟨fun h_ => by first | (cases h_; done) | (have h2_ := of_decide_eq_true h_; omega) | omega, fun h_ => by first | (cases h_; done) | (have h2_ := of_decide_eq_false h_; omega) | omega⟩) S8)
   refine J.bn 3 [] [] [] 55 tst (fun fk9 => ?_) fun fk9 => ?_
   ·skip
    have fb13 := htst.1 fk9
    exact J.t 6 (X3 false w8 (⟨fun h_ => by first | (cases h_; done) | (have h2_ := of_decide_eq_true h_; omega) | omega, fun h_ => by first | (cases h_; done) | (have h2_ := of_decide_eq_false h_; omega) | omega⟩) S8)
   have fb14 := htst.2 fk9
   exact J.t 6 (X3 (decide ((i.gK % 128) ≥ (p.gTypes_n : Int))) w8 (⟨fun h_ => by first | (cases h_; done) | (have h2_ := of_decide_eq_true h_; omega) | omega, fun h_ => by first | (cases h_; done) | (have h2_ := of_decide_eq_false h_; omega) | omega⟩) S8)
  refine J.lb 3 [] [] [] S7 3 rfl 33 (iv i.gOp) ?_
  refine J.c 2 [] [] [] 35 (i.gOp = 13) (fun fk10 => ?_) fun fk10 => ?_
  ·skip
   exact J.t 6 (X2 true w7 (⟨fun h_ => by first | (cases h_; done) | (have h2_ := beq_iff_eq.1 h_; omega) | omega, fun h_ => by first | (cases h_; done) | (have h2_ := beq_eq_false_iff_ne.1 h_; omega) | omega⟩) S7)
  refine J.lb 1 [] [] [] S7 3 rfl 37 (iv i.gOp) ?_
  exact J.t 4 (X2 (i.gOp == 14) w7 (⟨fun h_ => by first | (cases h_; done) | (have h2_ := beq_iff_eq.1 h_; omega) | omega, fun h_ => by first | (cases h_; done) | (have h2_ := beq_eq_false_iff_ne.1 h_; omega) | omega⟩) S7)
 refine J.lb 6 [] [(11, iv (p.gTypes_n : Int))] [] S6 3 rfl 25 (iv i.gOp) ?_
 refine J.c 2 [] [] [] 27 (i.gOp = 9) (fun fk11 => ?_) fun fk11 => ?_
 ·skip
  exact J.t 6 (X1 true w6 (⟨fun h_ => by first | (cases h_; done) | (have h2_ := beq_iff_eq.1 h_; omega) | omega, fun h_ => by first | (cases h_; done) | (have h2_ := beq_eq_false_iff_ne.1 h_; omega) | omega⟩) S6)
 refine J.lb 1 [] [] [] S6 3 rfl 29 (iv i.gOp) ?_
 exact J.t 4 (X1 (i.gOp == 10) w6 (⟨fun h_ => by first | (cases h_; done) | (have h2_ := beq_iff_eq.1 h_; omega) | omega, fun h_ => by first | (cases h_; done) | (have h2_ := beq_eq_false_iff_ne.1 h_; omega) | omega⟩) S6)

end
end Go.Proofs.YtaoolgcddapegaaGreatDoor

namespace Go.Proofs.YtaoolgcddapegaaGreatDoor
open Go.Eng Go.RowKit
set_option linter.unusedSimpArgs false
set_option linter.unusedVariables false
set_option maxRecDepth 20000
set_option maxHeartbeats 20000000
theorem hb151 : HasBody Tryz.prog 151 := fun _ _ => by kernel_rfl

theorem units_any (i : Ins) (a b t : Fxd) (w : World) (hi : insQ w i) (ha : fxdQ w a) (hb : fxdQ w b) (ht : fxdQ w t) : Ret Tryz.prog 151 #[.agg (insA i), .agg (fxdA a), .agg (fxdA b), .agg (fxdA t)] w (fun v w' => v = .bool (unitsB i.gOp (unitT a) (unitT b) (unitT t)) ∧ Sep w [] w') := by
 refine Ret.st (N := 79) Tryz.func151 fun R hR S0 => ?_
 obtain ⟨q1, q2, q3, q4, q5, _⟩ := id hi
 obtain ⟨q6, q7, q8, q9, q10, q11, q12, q13, q14, _⟩ := id ha
 obtain ⟨q15, q16, q17, q18, q19, q20, q21, q22, q23, _⟩ := id hb
 obtain ⟨q24, q25, q26, q27, q28, q29, q30, q31, q32, _⟩ := id ht
 refine J.nw 2 [] [] [] S0 4 (insC i) 48 fun b1 w1 S1 => ?_
 refine J.nw 0 [] [] [] S1 5 (fxdC a) 75 fun b2 w2 S2 => ?_
 refine J.nw 0 [] [] [] S2 6 (fxdC b) 75 fun b3 w3 S3 => ?_
 refine J.nw 0 [] [] [] S3 7 (fxdC t) 75 fun b4 w4 S4 => ?_
 refine J.lb 6 [] [] [] S4 3 rfl 14 (iv i.gOp) ?_
 refine J.c 8 [] [] [] 15 (i.gOp = 5) (fun fk1 => ?_) fun fk1 => ?_
 ·skip
  refine J.lb 6 [true, true] [] [] S4 2 rfl 19 (.agg #[iv a.gUnit_M, iv a.gUnit_Kg, iv a.gUnit_S, iv a.gUnit_A, iv a.gUnit_K]) ?_
  refine J.lb 1 [] [] [] S4 1 rfl 21 (.agg #[iv b.gUnit_M, iv b.gUnit_Kg, iv b.gUnit_S, iv b.gUnit_A, iv b.gUnit_K]) ?_
  refine J.ok (OK.eqUnt 22 (unitT a) (unitT b) (by kernel_rfl)) ?_
  refine J.b 1 [] [] [] 23 (unEq (unitT a) (unitT b)) (fun fk2 => ?_) fun fk2 => ?_
  ·skip
   refine J.lb 1 [] [] [] S4 2 rfl 25 (.agg #[iv a.gUnit_M, iv a.gUnit_Kg, iv a.gUnit_S, iv a.gUnit_A, iv a.gUnit_K]) ?_
   refine J.lb 1 [] [] [] S4 0 rfl 27 (.agg #[iv t.gUnit_M, iv t.gUnit_Kg, iv t.gUnit_S, iv t.gUnit_A, iv t.gUnit_K]) ?_
   refine J.ok (OK.eqUnt 28 (unitT a) (unitT t) (by kernel_rfl)) ?_
   refine J.e 3 [.bool (unEq (unitT a) (unitT t))] Tryz.func151 (hR _ _ ?_)
   have e1 : (unEq (unitT a) (unitT b)) = true := fk2
   exact ⟨congrArg Value.bool (by unfold unitsB; (repeat first | rw [if_pos (by omega)] | rw [if_neg (by omega)]); rw [e1]; rw [Bool.true_and] <;> rfl), S4.nil⟩
  refine J.e 8 [.bool false] Tryz.func151 (hR _ _ ?_)
  have e1 : (unEq (unitT a) (unitT b)) = false := fk2
  exact ⟨congrArg Value.bool (by unfold unitsB; (repeat first | rw [if_pos (by omega)] | rw [if_neg (by omega)]); rw [e1]; rfl), S4.nil⟩
 refine J.c 5 [false] [] [15] 15 (i.gOp = 6) (fun fk3 => ?_) fun fk3 => ?_
 ·skip
  refine J.lb 4 [true] [] [] S4 2 rfl 19 (.agg #[iv a.gUnit_M, iv a.gUnit_Kg, iv a.gUnit_S, iv a.gUnit_A, iv a.gUnit_K]) ?_
  refine J.lb 1 [] [] [] S4 1 rfl 21 (.agg #[iv b.gUnit_M, iv b.gUnit_Kg, iv b.gUnit_S, iv b.gUnit_A, iv b.gUnit_K]) ?_
  refine J.ok (OK.eqUnt 22 (unitT a) (unitT b) (by kernel_rfl)) ?_
  refine J.b 1 [] [] [] 23 (unEq (unitT a) (unitT b)) (fun fk4 => ?_) fun fk4 => ?_
  ·skip
   refine J.lb 1 [] [] [] S4 2 rfl 25 (.agg #[iv a.gUnit_M, iv a.gUnit_Kg, iv a.gUnit_S, iv a.gUnit_A, iv a.gUnit_K]) ?_
   refine J.lb 1 [] [] [] S4 0 rfl 27 (.agg #[iv t.gUnit_M, iv t.gUnit_Kg, iv t.gUnit_S, iv t.gUnit_A, iv t.gUnit_K]) ?_
   refine J.ok (OK.eqUnt 28 (unitT a) (unitT t) (by kernel_rfl)) ?_
   refine J.e 3 [.bool (unEq (unitT a) (unitT t))] Tryz.func151 (hR _ _ ?_)
   have e1 : (unEq (unitT a) (unitT b)) = true := fk4
   exact ⟨congrArg Value.bool (by unfold unitsB; (repeat first | rw [if_pos (by omega)] | rw [if_neg (by omega)]); rw [e1]; rw [Bool.true_and] <;> rfl), S4.nil⟩
  refine J.e 8 [.bool false] Tryz.func151 (hR _ _ ?_)
  have e1 : (unEq (unitT a) (unitT b)) = false := fk4
  exact ⟨congrArg Value.bool (by unfold unitsB; (repeat first | rw [if_pos (by omega)] | rw [if_neg (by omega)]); rw [e1]; rfl), S4.nil⟩
 refine J.c 6 [false] [] [] 30 (i.gOp = 7) (fun fk5 => ?_) fun fk5 => ?_
 ·skip
  refine J.lb 4 [true] [] [] S4 2 rfl 34 (.agg #[iv a.gUnit_M, iv a.gUnit_Kg, iv a.gUnit_S, iv a.gUnit_A, iv a.gUnit_K]) ?_
  refine J.lb 1 [] [] [] S4 1 rfl 36 (.agg #[iv b.gUnit_M, iv b.gUnit_Kg, iv b.gUnit_S, iv b.gUnit_A, iv b.gUnit_K]) ?_
  refine J.c0 0 [] [] [] S4 37 hb186 (umul_any (⟨a.gUnit_M, a.gUnit_Kg, a.gUnit_S, a.gUnit_A, a.gUnit_K⟩ : Unt) (⟨b.gUnit_M, b.gUnit_Kg, b.gUnit_S, b.gUnit_A, b.gUnit_K⟩ : Unt) _) fun w5 S5 => ?_
  refine J.nw 3 [] [(39, iv (unE (⟨a.gUnit_M, a.gUnit_Kg, a.gUnit_S, a.gUnit_A, a.gUnit_K⟩ : Unt) (⟨b.gUnit_M, b.gUnit_Kg, b.gUnit_S, b.gUnit_A, b.gUnit_K⟩ : Unt) 1)), (38, .agg (untA (unX (⟨a.gUnit_M, a.gUnit_Kg, a.gUnit_S, a.gUnit_A, a.gUnit_K⟩ : Unt) (⟨b.gUnit_M, b.gUnit_Kg, b.gUnit_S, b.gUnit_A, b.gUnit_K⟩ : Unt) 1)))] [] S5 9 [iv 0, iv 0, iv 0, iv 0, iv 0] 73 fun b5 w6 S6 => ?_
  refine J.sb 0 [] [] [] S6 0 rfl (untC (unX (⟨a.gUnit_M, a.gUnit_Kg, a.gUnit_S, a.gUnit_A, a.gUnit_K⟩ : Unt) (⟨b.gUnit_M, b.gUnit_Kg, b.gUnit_S, b.gUnit_A, b.gUnit_K⟩ : Unt) 1)) rfl fun w7 S7 => ?_
  refine J.c 7 [] [] [] 42 ((unE (⟨a.gUnit_M, a.gUnit_Kg, a.gUnit_S, a.gUnit_A, a.gUnit_K⟩ : Unt) (⟨b.gUnit_M, b.gUnit_Kg, b.gUnit_S, b.gUnit_A, b.gUnit_K⟩ : Unt) 1) = 0) (fun fk6 => ?_) fun fk6 => ?_
  ·skip
   refine J.lb 0 [] [] [] S7 0 rfl 43 (.agg (untA (unX (⟨a.gUnit_M, a.gUnit_Kg, a.gUnit_S, a.gUnit_A, a.gUnit_K⟩ : Unt) (⟨b.gUnit_M, b.gUnit_Kg, b.gUnit_S, b.gUnit_A, b.gUnit_K⟩ : Unt) 1))) ?_
   refine J.lb 1 [] [] [] S7 1 rfl 45 (.agg #[iv t.gUnit_M, iv t.gUnit_Kg, iv t.gUnit_S, iv t.gUnit_A, iv t.gUnit_K]) ?_
   refine J.ok (OK.eqUnt 46 (unX (⟨a.gUnit_M, a.gUnit_Kg, a.gUnit_S, a.gUnit_A, a.gUnit_K⟩ : Unt) (⟨b.gUnit_M, b.gUnit_Kg, b.gUnit_S, b.gUnit_A, b.gUnit_K⟩ : Unt) 1) (unitT t) (by kernel_rfl)) ?_
   refine J.e 3 [.bool (unEq (unX (⟨a.gUnit_M, a.gUnit_Kg, a.gUnit_S, a.gUnit_A, a.gUnit_K⟩ : Unt) (⟨b.gUnit_M, b.gUnit_Kg, b.gUnit_S, b.gUnit_A, b.gUnit_K⟩ : Unt) 1) (unitT t))] Tryz.func151 (hR _ _ ?_)
   have e1 : ((unE (unitT a) (unitT b) 1 == 0)) = true := (beq_iff_eq.2 fk6)
   exact ⟨congrArg Value.bool (by unfold unitsB; (repeat first | rw [if_pos (by omega)] | rw [if_neg (by omega)]); rw [e1]; rw [Bool.true_and] <;> rfl), S7.nil⟩
  refine J.e 7 [.bool false] Tryz.func151 (hR _ _ ?_)
  have e1 : ((unE (unitT a) (unitT b) 1 == 0)) = false := (beq_eq_false_iff_ne.2 fk6)
  exact ⟨congrArg Value.bool (by unfold unitsB; (repeat first | rw [if_pos (by omega)] | rw [if_neg (by omega)]); rw [e1]; rfl), S7.nil⟩
 refine J.c 6 [false] [] [] 48 (i.gOp = 8) (fun fk7 => ?_) fun fk7 => ?_
 ·skip
  refine J.lb 4 [true] [] [] S4 2 rfl 52 (.agg #[iv a.gUnit_M, iv a.gUnit_Kg, iv a.gUnit_S, iv a.gUnit_A, iv a.gUnit_K]) ?_
  refine J.lb 1 [] [] [] S4 1 rfl 54 (.agg #[iv b.gUnit_M, iv b.gUnit_Kg, iv b.gUnit_S, iv b.gUnit_A, iv b.gUnit_K]) ?_
  refine J.c0 0 [] [] [] S4 55 hb187 (udiv_any (⟨a.gUnit_M, a.gUnit_Kg, a.gUnit_S, a.gUnit_A, a.gUnit_K⟩ : Unt) (⟨b.gUnit_M, b.gUnit_Kg, b.gUnit_S, b.gUnit_A, b.gUnit_K⟩ : Unt) _) fun w8 S8 => ?_
  refine J.nw 3 [] [(57, iv (unE (⟨a.gUnit_M, a.gUnit_Kg, a.gUnit_S, a.gUnit_A, a.gUnit_K⟩ : Unt) (⟨b.gUnit_M, b.gUnit_Kg, b.gUnit_S, b.gUnit_A, b.gUnit_K⟩ : Unt) (-1))), (56, .agg (untA (unX (⟨a.gUnit_M, a.gUnit_Kg, a.gUnit_S, a.gUnit_A, a.gUnit_K⟩ : Unt) (⟨b.gUnit_M, b.gUnit_Kg, b.gUnit_S, b.gUnit_A, b.gUnit_K⟩ : Unt) (-1))))] [] S8 11 [iv 0, iv 0, iv 0, iv 0, iv 0] 73 fun b6 w9 S9 => ?_
  refine J.sb 0 [] [] [] S9 0 rfl (untC (unX (⟨a.gUnit_M, a.gUnit_Kg, a.gUnit_S, a.gUnit_A, a.gUnit_K⟩ : Unt) (⟨b.gUnit_M, b.gUnit_Kg, b.gUnit_S, b.gUnit_A, b.gUnit_K⟩ : Unt) (-1))) rfl fun w10 S10 => ?_
  refine J.c 7 [] [] [] 60 ((unE (⟨a.gUnit_M, a.gUnit_Kg, a.gUnit_S, a.gUnit_A, a.gUnit_K⟩ : Unt) (⟨b.gUnit_M, b.gUnit_Kg, b.gUnit_S, b.gUnit_A, b.gUnit_K⟩ : Unt) (-1)) = 0) (fun fk8 => ?_) fun fk8 => ?_
  ·skip
   refine J.lb 0 [] [] [] S10 0 rfl 61 (.agg (untA (unX (⟨a.gUnit_M, a.gUnit_Kg, a.gUnit_S, a.gUnit_A, a.gUnit_K⟩ : Unt) (⟨b.gUnit_M, b.gUnit_Kg, b.gUnit_S, b.gUnit_A, b.gUnit_K⟩ : Unt) (-1)))) ?_
   refine J.lb 1 [] [] [] S10 1 rfl 63 (.agg #[iv t.gUnit_M, iv t.gUnit_Kg, iv t.gUnit_S, iv t.gUnit_A, iv t.gUnit_K]) ?_
   refine J.ok (OK.eqUnt 64 (unX (⟨a.gUnit_M, a.gUnit_Kg, a.gUnit_S, a.gUnit_A, a.gUnit_K⟩ : Unt) (⟨b.gUnit_M, b.gUnit_Kg, b.gUnit_S, b.gUnit_A, b.gUnit_K⟩ : Unt) (-1)) (unitT t) (by kernel_rfl)) ?_
   refine J.e 3 [.bool (unEq (unX (⟨a.gUnit_M, a.gUnit_Kg, a.gUnit_S, a.gUnit_A, a.gUnit_K⟩ : Unt) (⟨b.gUnit_M, b.gUnit_Kg, b.gUnit_S, b.gUnit_A, b.gUnit_K⟩ : Unt) (-1)) (unitT t))] Tryz.func151 (hR _ _ ?_)
   have e1 : ((unE (unitT a) (unitT b) (-1) == 0)) = true := (beq_iff_eq.2 fk8)
   exact ⟨congrArg Value.bool (by unfold unitsB; (repeat first | rw [if_pos (by omega)] | rw [if_neg (by omega)]); rw [e1]; rw [Bool.true_and] <;> rfl), S10.nil⟩
  refine J.e 7 [.bool false] Tryz.func151 (hR _ _ ?_)
  have e1 : ((unE (unitT a) (unitT b) (-1) == 0)) = false := (beq_eq_false_iff_ne.2 fk8)
  exact ⟨congrArg Value.bool (by unfold unitsB; (repeat first | rw [if_pos (by omega)] | rw [if_neg (by omega)]); rw [e1]; rfl), S10.nil⟩
 refine J.c 7 [false] [] [] 66 (i.gOp = 9) (fun fk9 => ?_) fun fk9 => ?_
 ·skip
  refine J.lb 6 [true, true] [] [] S4 2 rfl 70 (.agg #[iv a.gUnit_M, iv a.gUnit_Kg, iv a.gUnit_S, iv a.gUnit_A, iv a.gUnit_K]) ?_
  refine J.lb 1 [] [] [] S4 0 rfl 72 (.agg #[iv t.gUnit_M, iv t.gUnit_Kg, iv t.gUnit_S, iv t.gUnit_A, iv t.gUnit_K]) ?_
  refine J.ok (OK.eqUnt 73 (unitT a) (unitT t) (by kernel_rfl)) ?_
  refine J.e 2 [.bool (unEq (unitT a) (unitT t))] Tryz.func151 (hR _ _ ?_)
  exact ⟨congrArg Value.bool (by unfold unitsB; (repeat first | rw [if_pos (by omega)] | rw [if_neg (by omega)]) <;> rfl), S4.nil⟩
 refine J.c 5 [false] [] [66] 66 (i.gOp = 10) (fun fk10 => ?_) fun fk10 => ?_
 ·skip
  refine J.lb 4 [true] [] [] S4 2 rfl 70 (.agg #[iv a.gUnit_M, iv a.gUnit_Kg, iv a.gUnit_S, iv a.gUnit_A, iv a.gUnit_K]) ?_
  refine J.lb 1 [] [] [] S4 0 rfl 72 (.agg #[iv t.gUnit_M, iv t.gUnit_Kg, iv t.gUnit_S, iv t.gUnit_A, iv t.gUnit_K]) ?_
  refine J.ok (OK.eqUnt 73 (unitT a) (unitT t) (by kernel_rfl)) ?_
  refine J.e 2 [.bool (unEq (unitT a) (unitT t))] Tryz.func151 (hR _ _ ?_)
  exact ⟨congrArg Value.bool (by unfold unitsB; (repeat first | rw [if_pos (by omega)] | rw [if_neg (by omega)]) <;> rfl), S4.nil⟩
 refine J.lb 6 [false] [] [] S4 2 rfl 75 (.agg #[iv a.gUnit_M, iv a.gUnit_Kg, iv a.gUnit_S, iv a.gUnit_A, iv a.gUnit_K]) ?_
 refine J.lb 1 [] [] [] S4 1 rfl 77 (.agg #[iv b.gUnit_M, iv b.gUnit_Kg, iv b.gUnit_S, iv b.gUnit_A, iv b.gUnit_K]) ?_
 refine J.ok (OK.eqUnt 78 (unitT a) (unitT b) (by kernel_rfl)) ?_
 refine J.e 2 [.bool (unEq (unitT a) (unitT b))] Tryz.func151 (hR _ _ ?_)
 exact ⟨congrArg Value.bool (by unfold unitsB; (repeat first | rw [if_pos (by omega)] | rw [if_neg (by omega)]) <;> rfl), S4.nil⟩

theorem hb102 : HasBody Tryz.prog 102 := fun _ _ => by kernel_rfl

theorem fits_any (p : Prg) (i : Ins) (w : World) (hp : prgQ w p) (hi : insQ w i) : Ret Tryz.prog 102 #[.agg (prgA p), .agg (insA i)] w (fun v w' => v = .bool (fitsI p i) ∧ Sep w [] w') := by
 refine Ret.st (N := 78) Tryz.func102 fun R hR S0 => ?_
 obtain ⟨q1, q2, q3, q4, q5, q6, q7, q8, q9, q10, q11, q12, q13, q14, q15, q16, q17, q18, q19, q20, q21, q22, q23, q24, q25, _⟩ := id hp
 have ql1 := q2.len_eq
 have ql2 := q5.len_eq
 have ql3 := q8.len_eq
 have ql4 := q11.len_eq
 have ql5 := q15.len_eq
 have ql6 := q18.len_eq
 have ql7 := q21.len_eq
 have ql8 := q24.len_eq
 obtain ⟨q26, q27, q28, q29, q30, _⟩ := id hi
 refine J.nw 2 [] [] [] S0 2 (prgC p) 28 fun b1 w1 S1 => ?_
 refine J.nw 0 [] [] [] S1 3 (insC i) 48 fun b2 w2 S2 => ?_
 refine J.lb 6 [] [] [] S2 0 rfl 10 (.agg (insA i)) ?_
 refine J.c0 0 [] [] [] S2 11 hb49 (formed_any i _ (insQ_sep hi S2)) fun w3 S3 => ?_
 refine J.bn 3 [] [] [] 9 (formB i) (fun fk1 => ?_) fun fk1 => ?_
 ·skip
  have hfp := formB_iff.1 fk1
  refine J.lb 4 [false] [] [] S3 0 rfl 15 (iv i.gOp) ?_
  refine J.c 2 [] [] [] 17 (i.gOp = 2) (fun fk2 => ?_) fun fk2 => ?_
  ·skip
   refine J.lb 10 [true] [] [] S3 0 rfl 23 (iv i.gK) ?_
   refine J.lb 1 [] [] [] S3 1 rfl 25 (iv p.gCells) ?_
   refine J.e 3 [.bool (decide (i.gK < p.gCells))] Tryz.func102 (hR _ _ ?_)
   exact ⟨congrArg Value.bool (by unfold fitsI; rw [fk1, Bool.true_and]; unfold namedB; (repeat first | rw [if_pos (by omega)] | rw [if_neg (by omega)]); all_goals first | rfl | exact (decide_eq_true (by omega)).symm | exact (decide_eq_false (by omega)).symm), S3.nil⟩
  refine J.lb 1 [] [] [] S3 0 rfl 19 (iv i.gOp) ?_
  refine J.c 4 [] [] [] 13 (i.gOp = 3) (fun fk3 => ?_) fun fk3 => ?_
  ·skip
   refine J.lb 4 [true] [] [] S3 0 rfl 23 (iv i.gK) ?_
   refine J.lb 1 [] [] [] S3 1 rfl 25 (iv p.gCells) ?_
   refine J.e 3 [.bool (decide (i.gK < p.gCells))] Tryz.func102 (hR _ _ ?_)
   exact ⟨congrArg Value.bool (by unfold fitsI; rw [fk1, Bool.true_and]; unfold namedB; (repeat first | rw [if_pos (by omega)] | rw [if_neg (by omega)]); all_goals first | rfl | exact (decide_eq_true (by omega)).symm | exact (decide_eq_false (by omega)).symm), S3.nil⟩
  refine J.lb 4 [false] [] [] S3 0 rfl 29 (iv i.gOp) ?_
  refine J.c 3 [] [] [] 27 (i.gOp = 20) (fun fk4 => ?_) fun fk4 => ?_
  ·skip
   refine J.lb 4 [true] [] [] S3 0 rfl 32 (iv i.gK) ?_
   refine J.lb 1 [] [] [] S3 1 rfl 34 (.slice p.gCurves_a p.gCurves_n p.gCurves_c) ?_
   refine J.e 4 [.bool (decide (i.gK < (p.gCurves_n : Int)))] Tryz.func102 (hR _ _ ?_)
   exact ⟨congrArg Value.bool (by unfold fitsI; rw [fk1, Bool.true_and]; unfold namedB; (repeat first | rw [if_pos (by omega)] | rw [if_neg (by omega)]); all_goals first | rfl | exact (decide_eq_true (by omega)).symm | exact (decide_eq_false (by omega)).symm), S3.nil⟩
  refine J.lb 4 [false] [] [] S3 0 rfl 39 (iv i.gOp) ?_
  refine J.c 3 [] [] [] 37 (i.gOp = 21) (fun fk5 => ?_) fun fk5 => ?_
  ·skip
   refine J.lb 4 [true] [] [] S3 0 rfl 42 (iv i.gK) ?_
   refine J.lb 1 [] [] [] S3 1 rfl 44 (.slice p.gMaps_a p.gMaps_n p.gMaps_c) ?_
   refine J.e 4 [.bool (decide (i.gK < (p.gMaps_n : Int)))] Tryz.func102 (hR _ _ ?_)
   exact ⟨congrArg Value.bool (by unfold fitsI; rw [fk1, Bool.true_and]; unfold namedB; (repeat first | rw [if_pos (by omega)] | rw [if_neg (by omega)]); all_goals first | rfl | exact (decide_eq_true (by omega)).symm | exact (decide_eq_false (by omega)).symm), S3.nil⟩
  refine J.lb 4 [false] [] [] S3 0 rfl 49 (iv i.gOp) ?_
  refine J.c 3 [] [] [] 47 (i.gOp = 22) (fun fk6 => ?_) fun fk6 => ?_
  ·skip
   refine J.lb 4 [true] [] [] S3 0 rfl 52 (iv i.gK) ?_
   refine J.h 1 [] [] [] 53 (iv (Int.fdiv i.gK (2 ^ 5))) (iv (i.gK / 32)) (congrArg (Value.int .i64) (shr_lit _ _ (by decide))) ?_
   refine J.wi 1 [] [] [] 54 ((i.gK / 32) + 1) ?_
   refine J.lb 1 [] [] [] S3 1 rfl 56 (iv p.gCells) ?_
   refine J.e 3 [.bool (decide (((i.gK / 32) + 1) < p.gCells))] Tryz.func102 (hR _ _ ?_)
   exact ⟨congrArg Value.bool (by unfold fitsI; rw [fk1, Bool.true_and]; unfold namedB; (repeat first | rw [if_pos (by omega)] | rw [if_neg (by omega)]); all_goals first | rfl | exact (decide_eq_true (by omega)).symm | exact (decide_eq_false (by omega)).symm), S3.nil⟩
  refine J.lb 4 [false] [] [] S3 0 rfl 60 (iv i.gOp) ?_
  refine J.c0 0 [] [] [] S3 61 hb132 (typed_any i.gOp _) fun w4 S4 => ?_
  refine J.b 2 [] [] [] 58 (decide (typedP i.gOp)) (fun fk7 => ?_) fun fk7 => ?_
  ·skip
   have fb2 := of_decide_eq_true fk7
   refine J.lb 3 [true] [] [] S4 1 rfl 63 (.agg (prgA p)) ?_
   refine J.lb 0 [] [] [] S4 0 rfl 64 (.agg (insA i)) ?_
   refine J.c0 0 [] [] [] S4 65 hb110 (types_any p i _ (prgQ_sep hp S4) (insQ_sep hi S4) (by omega)) fun w5 S5 => ?_
   obtain ⟨hty1a, hty1b, hty1c⟩ := ty_q (w := w) (op := (i).gOp) (k := (i).gK) q6
   refine J.nw 5 [] [(69, .bool (tyOK p (i).gOp (i).gK)), (68, .agg (fxdA (tyC p (i).gOp (i).gK))), (67, .agg (fxdA (tyB p (i).gOp (i).gK))), (66, .agg (fxdA (tyA p (i).gOp (i).gK)))] [] S5 5 [iv 0, .bool false, iv 0, iv 0, iv 0, iv 0, iv 0, iv 0, iv 0, iv 0] 75 fun b3 w6 S6 => ?_
   refine J.nw 0 [] [] [] S6 6 [iv 0, .bool false, iv 0, iv 0, iv 0, iv 0, iv 0, iv 0, iv 0, iv 0] 75 fun b4 w7 S7 => ?_
   refine J.nw 0 [] [] [] S7 7 [iv 0, .bool false, iv 0, iv 0, iv 0, iv 0, iv 0, iv 0, iv 0, iv 0] 75 fun b5 w8 S8 => ?_
   refine J.sb 0 [] [] [] S8 2 rfl (fxdC (tyA p (i).gOp (i).gK)) rfl fun w9 S9 => ?_
   refine J.sb 0 [] [] [] S9 1 rfl (fxdC (tyB p (i).gOp (i).gK)) rfl fun w10 S10 => ?_
   refine J.sb 0 [] [] [] S10 0 rfl (fxdC (tyC p (i).gOp (i).gK)) rfl fun w11 S11 => ?_
   refine J.b 6 [] [] [] 71 (tyOK p (i).gOp (i).gK) (fun fk8 => ?_) fun fk8 => ?_
   ·skip
    refine J.lb 0 [] [] [] S11 3 rfl 72 (.agg (insA i)) ?_
    refine J.lb 0 [] [] [] S11 2 rfl 73 (.agg (fxdA (tyA p (i).gOp (i).gK))) ?_
    refine J.lb 0 [] [] [] S11 1 rfl 74 (.agg (fxdA (tyB p (i).gOp (i).gK))) ?_
    refine J.lb 0 [] [] [] S11 0 rfl 75 (.agg (fxdA (tyC p (i).gOp (i).gK))) ?_
    refine J.c0 0 [] [] [] S11 76 hb151 (units_any i (tyA p (i).gOp (i).gK) (tyB p (i).gOp (i).gK) (tyC p (i).gOp (i).gK) _ (insQ_sep hi S11) (fxdQ_sep hty1a S11) (fxdQ_sep hty1b S11) (fxdQ_sep hty1c S11)) fun w12 S12 => ?_
    refine J.e 3 [.bool (unitsB (i).gOp (unitT (tyA p (i).gOp (i).gK)) (unitT (tyB p (i).gOp (i).gK)) (unitT (tyC p (i).gOp (i).gK)))] Tryz.func102 (hR _ _ ?_)
    exact ⟨congrArg Value.bool (by unfold fitsI; rw [fk1, Bool.true_and]; unfold namedB; (repeat first | rw [if_pos (by omega)] | rw [if_neg (by omega)]); rw [fk8]; all_goals first | rfl | (rw [Bool.true_and]; first | rfl | exact rfl.symm)), S12.nil⟩
   refine J.e 8 [.bool false] Tryz.func102 (hR _ _ ?_)
   exact ⟨congrArg Value.bool (by unfold fitsI; rw [fk1, Bool.true_and]; unfold namedB; (repeat first | rw [if_pos (by omega)] | rw [if_neg (by omega)]); rw [fk8]; all_goals first | rfl | (rw [Bool.true_and]; first | rfl | exact rfl.symm)), S11.nil⟩
  have fb3 := of_decide_eq_false fk7
  refine J.e 7 [.bool true] Tryz.func102 (hR _ _ ?_)
  exact ⟨congrArg Value.bool (by unfold fitsI; rw [fk1, Bool.true_and]; unfold namedB; (repeat first | rw [if_pos (by omega)] | rw [if_neg (by omega)]); all_goals first | rfl | exact (decide_eq_true (by omega)).symm | exact (decide_eq_false (by omega)).symm), S4.nil⟩
 refine J.e 5 [.bool false] Tryz.func102 (hR _ _ ?_)
 exact ⟨congrArg Value.bool (by unfold fitsI; rw [fk1]; rfl), S3.nil⟩

end Go.Proofs.YtaoolgcddapegaaGreatDoor

