/- Walks of functions of this seat, printed by a program over the engine. Conditions: as each theorem says. -/
import Derived.Test.YtaoolgcddapegaaGreatDoorZsX24
namespace Go.Proofs.YtaoolgcddapegaaGreatDoor
noncomputable section
open Go.Eng Go.RowKit
set_option linter.unusedSimpArgs false
set_option linter.unusedVariables false
set_option maxRecDepth 20000
set_option maxHeartbeats 20000000
theorem hb33 : HasBody Tryz.prog 33 := fun _ _ => by kernel_rfl
def K33_0 := adv 21 [false] (bodyOf Tryz.f33)
theorem rcells_any (p : Prg) (la : Option Addr) (len cap : Nat) (l : List Int) (w : World) (hI : Ints w la len l) : Ret Tryz.prog 33 #[.agg (prgA p), .slice la len cap] w (fun v w' => v = .bool (cellsL p.gCells l) ∧ Sep w [] w') := by
 refine Ret.st (N := 29) Tryz.func33 fun R hR S0 => ?_
 have hll := hI.len_eq
 refine J.nw 2 [] [] [] S0 2 (prgC p) 28 fun b1 w1 S1 => ?_
 refine J.c 9 [] [] [] 8 ((len : Int) > 1000) (fun fk1 => ?_) fun fk1 => ?_
 ·skip
  refine J.e 5 [.bool false] Tryz.func33 (hR _ _ ?_)
  exact ⟨congrArg Value.bool (cellsL_long (by omega)).symm, S1.nil⟩
 have L33_1 : ∀ (mm_ : Nat) (i : Int) (w2 : World), (0 ≤ i) → (i ≤ (len : Int)) → (∀ j, j < (i).toNat → 0 ≤ l.getD j 0 ∧ l.getD j 0 < p.gCells) → Sep w [box b1 (prgC p) 28] w2 → ((len : Int) - i).toNat = mm_ → J Tryz.prog 33 29 R K33_0 [(5, iv i), (2, pv b1), (1, .slice la len cap)] w2 := by
  intro mm1
  induction mm1 using Nat.strongRecOn with
  | _ mm1 ih1 =>
  intro i w2 h0 h1 hq S2 hm1
  refine J.c 8 [] [] [] 12 (i < (len : Int)) (fun fk2 => ?_) fun fk2 => ?_
  ·skip
   refine J.r 5 [true] [] [] ?_
   by_cases fk3 : (l.getD (i).toNat 0) < 0
   ·skip
    obtain ⟨p1, hp1, hc1⟩ := hI.at 0 (i).toNat (by omega)
    refine J.drawStill S2 14 Tryz.mixed (by kernel_rfl) (by kernel_rfl) (by kernel_rfl) ?_
    intro w3 S3
    refine SL.r 15 (.slice la len cap) ?_
    refine SL.r 16 (iv i) ?_
    refine SL.ok (by decide) (OK.index 17 26 1 la p1 len (i).toNat i (p1.add (i).toNat) (by kernel_rfl) (by kernel_rfl) hp1 (by omega) (by omega) (by rw [Nat.mul_one])) ?_
    refine SL.ok (by decide) (OK.ldCell 18 3 (p1.add (i).toNat) (iv (l.getD (i).toNat 0)) (by kernel_rfl) (by kernel_rfl) (S3.cell hc1)) ?_
    refine SL.r 19 (.bool (decide ((l.getD (i).toNat 0) < 0))) ?_
    refine SL.head (.bool true) (congrArg Value.bool (decide_eq_true fk3)) ?_
    refine SL.r 20 (.bool true) ?_
    refine SL.p (some 21) ?_
    refine SL.p (some 22) ?_
    refine SL.p (some 23) ?_
    refine SL.p (some 24) ?_
    refine SL.p (some 25) ?_
    refine SL.p (some 26) ?_
    refine SL.p (some 27) ?_
    refine SL.r 28 (.bool true) ?_
    refine SL.done ?_
    refine TL.done (by kernel_rfl) ?_
    refine J.e 5 [.bool false] Tryz.func33 (hR _ _ ?_)
    exact ⟨congrArg Value.bool (cellsL_bad (j := i.toNat) (by omega) (by omega)).symm, S3.nil⟩
   obtain ⟨p2, hp2, hc2⟩ := hI.at 0 (i).toNat (by omega)
   refine J.drawStill S2 14 Tryz.mixed (by kernel_rfl) (by kernel_rfl) (by kernel_rfl) ?_
   intro w4 S4
   refine SL.r 15 (.slice la len cap) ?_
   refine SL.r 16 (iv i) ?_
   refine SL.ok (by decide) (OK.index 17 26 1 la p2 len (i).toNat i (p2.add (i).toNat) (by kernel_rfl) (by kernel_rfl) hp2 (by omega) (by omega) (by rw [Nat.mul_one])) ?_
   refine SL.ok (by decide) (OK.ldCell 18 3 (p2.add (i).toNat) (iv (l.getD (i).toNat 0)) (by kernel_rfl) (by kernel_rfl) (S4.cell hc2)) ?_
   refine SL.r 19 (.bool (decide ((l.getD (i).toNat 0) < 0))) ?_
   refine SL.head (.bool false) (congrArg Value.bool (decide_eq_false fk3)) ?_
   refine SL.r 20 (.bool false) ?_
   refine SL.r 21 (.slice la len cap) ?_
   refine SL.r 22 (iv i) ?_
   refine SL.ok (by decide) (OK.index 23 26 1 la p2 len (i).toNat i (p2.add (i).toNat) (by kernel_rfl) (by kernel_rfl) hp2 (by omega) (by omega) (by rw [Nat.mul_one])) ?_
   refine SL.ok (by decide) (OK.ldCell 24 3 (p2.add (i).toNat) (iv (l.getD (i).toNat 0)) (by kernel_rfl) (by kernel_rfl) (S4.cell hc2)) ?_
   refine SL.r 25 (.pointer (some ⟨b1, 4, none⟩)) ?_
   refine SL.lb S4 0 rfl 26 (iv p.gCells) ?_
   refine SL.r 27 (.bool (decide ((l.getD (i).toNat 0) ≥ p.gCells))) ?_
   refine SL.r 28 (.bool (decide ((l.getD (i).toNat 0) ≥ p.gCells))) ?_
   refine SL.done ?_
   refine TL.done (by kernel_rfl) ?_
   refine J.c 0 [] [] [] 28 ((l.getD (i).toNat 0) ≥ p.gCells) (fun fk4 => ?_) fun fk4 => ?_
   ·skip
    refine J.e 5 [.bool false] Tryz.func33 (hR _ _ ?_)
    exact ⟨congrArg Value.bool (cellsL_bad (j := i.toNat) (by omega) (by omega)).symm, S4.nil⟩
   refine J.wi 6 [false] [] [] 14 (i + 1) ?_
   exact J.t 3 (ih1 _ (show ((len : Int) - (i + 1)).toNat < mm1 from by omega) (i + 1) w4 (by omega) (by omega) (all_step (q := fun j => 0 ≤ l.getD j 0 ∧ l.getD j 0 < p.gCells) h0 hq (by omega)) S4 rfl)
  refine J.e 6 [.bool true] Tryz.func33 (hR _ _ ?_)
  exact ⟨congrArg Value.bool (cellsL_yes (by omega) fun j hj => hq j (by omega)).symm, S2.nil⟩
 exact J.t 9 (L33_1 _ 0 w1 (by omega) (by omega) (by intro j hj; simp at hj) S1 rfl)

theorem named_tyno {p : Prg} {i : Ins} (h : typedP i.gOp) (hn : ¬ (i.gK / 16384 < (p.gTypes_n : Int) ∧ (i.gOp = 9 ∨ i.gOp = 10 ∨ i.gK / 128 % 128 < (p.gTypes_n : Int)) ∧ (i.gOp = 13 ∨ i.gOp = 14 ∨ i.gK % 128 < (p.gTypes_n : Int)))) : namedB p i = false := by
  unfold namedB; (repeat first | rw [if_pos (by omega)] | rw [if_neg (by omega)]); rw [show tyOK p i.gOp i.gK = false from decide_eq_false (by omega)]; rfl
theorem named_arith {p : Prg} {i : Ins} (h : i.gOp = 5 ∨ i.gOp = 6 ∨ i.gOp = 7 ∨ i.gOp = 8) (hk : i.gK / 16384 < (p.gTypes_n : Int) ∧ i.gK / 128 % 128 < (p.gTypes_n : Int) ∧ i.gK % 128 < (p.gTypes_n : Int)) : namedB p i = (unRB (i.gOp - 4) (unitT (tyN p (i.gK / 16384))) (unitT (tyN p (i.gK / 128 % 128))) && unEq (unRX (i.gOp - 4) (unitT (tyN p (i.gK / 16384))) (unitT (tyN p (i.gK / 128 % 128)))) (unitT (tyN p (i.gK % 128)))) := by
  have e0 : tyOK p i.gOp i.gK = true := tyOK_iff.2 (by omega)
  obtain ⟨e1, e2, e3⟩ := ty_yes e0
  rw [if_pos (by omega)] at e2 e3
  unfold namedB; (repeat first | rw [if_pos (by omega)] | rw [if_neg (by omega)]); rw [e0, Bool.true_and, e1, e2, e3]
  unfold unitsB unRB unRX
  rcases h with h | h | h | h <;> rw [h] <;> rfl
theorem named_one {p : Prg} {i : Ins} (h : i.gOp = 9 ∨ i.gOp = 10) (hk : i.gK / 16384 < (p.gTypes_n : Int) ∧ i.gK % 128 < (p.gTypes_n : Int)) : namedB p i = unEq (unitT (tyN p (i.gK / 16384))) (unitT (tyN p (i.gK % 128))) := by
  have e0 : tyOK p i.gOp i.gK = true := tyOK_iff.2 (by omega)
  obtain ⟨e1, e2, e3⟩ := ty_yes e0
  rw [if_pos (by omega)] at e3
  unfold namedB; (repeat first | rw [if_pos (by omega)] | rw [if_neg (by omega)]); rw [e0, Bool.true_and, e1, e3]; unfold unitsB; (repeat first | rw [if_pos (by omega)] | rw [if_neg (by omega)])
theorem named_cmp {p : Prg} {i : Ins} (h : i.gOp = 13 ∨ i.gOp = 14) (hk : i.gK / 16384 < (p.gTypes_n : Int) ∧ i.gK / 128 % 128 < (p.gTypes_n : Int)) : namedB p i = unEq (unitT (tyN p (i.gK / 16384))) (unitT (tyN p (i.gK / 128 % 128))) := by
  have e0 : tyOK p i.gOp i.gK = true := tyOK_iff.2 (by omega)
  obtain ⟨e1, e2, e3⟩ := ty_yes e0
  rw [if_pos (by omega)] at e2
  unfold namedB; (repeat first | rw [if_pos (by omega)] | rw [if_neg (by omega)]); rw [e0, Bool.true_and, e1, e2]; unfold unitsB; (repeat first | rw [if_pos (by omega)] | rw [if_neg (by omega)])
theorem hb32 : HasBody Tryz.prog 32 := fun _ _ => by kernel_rfl
def K32_0 := List.drop 1 (adv 40 [] (bodyOf Tryz.f32))
def K32_1 := List.drop 1 (adv 7 [false] K32_0)
def K32_2 := adv 21 [true, false] K32_1
def K32_3 := List.drop 1 (adv 7 [false] K32_1)
def K32_4 := List.drop 1 (adv 7 [false] K32_3)
theorem rnamed_any (p : Prg) (i : Ins) (w : World) (hp : prgQ w p) (hi : insQ w i) (hfm : formB i = true) : Ret Tryz.prog 32 #[.agg (prgA p), .agg (insA i)] w (fun v w' => v = .bool (namedB p i) ∧ Sep w [] w') := by
 refine Ret.st (N := 157) Tryz.func32 fun R hR S0 => ?_
 obtain ⟨q1, q2, q3, q4, q5, q6, q7, q8, q9, q10, q11, q12, q13, q14, q15, q16, q17, q18, q19, q20, q21, q22, q23, q24, q25, _⟩ := id hp
 have ql1 := q2.len_eq
 have ql2 := q5.len_eq
 have ql3 := q8.len_eq
 have ql4 := q11.len_eq
 have ql5 := q15.len_eq
 have ql6 := q18.len_eq
 have ql7 := q21.len_eq
 have ql8 := q24.len_eq
 obtain ⟨q26, q27, q28, q29, q30, _⟩ := id hi
 have hfp := formB_iff.1 hfm
 refine J.nw 2 [] [] [] S0 2 (prgC p) 28 fun b1 w1 S1 => ?_
 refine J.nw 0 [] [] [] S1 3 (insC i) 48 fun b2 w2 S2 => ?_
 refine J.lb 5 [] [] [] S2 0 rfl 13 (iv i.gK) ?_
 by_cases fk1 : i.gK ≥ 0
 rotate_left
 ·skip
  refine J.h 1 [] [] [] 14 (iv (if 0 > i.gK then 0 else i.gK)) (iv 0) (congrArg (Value.int .i64) (by omega)) ?_
  refine J.c0 0 [] [] [] S2 15 hb34 (rtypes_any 0 _ (by omega)) fun w27 S27 => ?_
  refine J.lb 11 [] [(7, iv (0 % 128)), (6, iv (0 / 128 % 128)), (5, iv (0 / 16384))] [] S27 1 rfl 20 (.slice p.gTypes_a p.gTypes_n p.gTypes_c) ?_
  refine J.lb 7 [] [(8, iv (p.gTypes_n : Int))] [] S27 0 rfl 23 (iv i.gOp) ?_
  have fk24 : ¬ (i.gOp = 2) := by omega
  refine J.h 8 [] [] [] 24 (.bool (i.gOp == 2)) (.bool false) (congrArg Value.bool (beq_eq_false_iff_ne.2 fk24)) ?_
  have fk26 : ¬ (i.gOp = 3) := by omega
  refine J.h 5 [false] [] [24] 24 (.bool (i.gOp == 3)) (.bool false) (congrArg Value.bool (beq_eq_false_iff_ne.2 fk26)) ?_
  have fk28 : ¬ (i.gOp = 5) := by omega
  refine J.h 7 [false] [] [] 32 (.bool (i.gOp == 5)) (.bool false) (congrArg Value.bool (beq_eq_false_iff_ne.2 fk28)) ?_
  have fk30 : ¬ (i.gOp = 6) := by omega
  refine J.h 6 [false] [] [32] 32 (.bool (i.gOp == 6)) (.bool false) (congrArg Value.bool (beq_eq_false_iff_ne.2 fk30)) ?_
  have fk32 : ¬ (i.gOp = 7) := by omega
  refine J.h 6 [false] [] [32] 32 (.bool (i.gOp == 7)) (.bool false) (congrArg Value.bool (beq_eq_false_iff_ne.2 fk32)) ?_
  have fk34 : ¬ (i.gOp = 8) := by omega
  refine J.h 5 [false] [] [32] 32 (.bool (i.gOp == 8)) (.bool false) (congrArg Value.bool (beq_eq_false_iff_ne.2 fk34)) ?_
  have fk36 : ¬ (i.gOp = 9) := by omega
  refine J.h 7 [false] [] [] 80 (.bool (i.gOp == 9)) (.bool false) (congrArg Value.bool (beq_eq_false_iff_ne.2 fk36)) ?_
  have fk38 : ¬ (i.gOp = 10) := by omega
  refine J.h 5 [false] [] [80] 80 (.bool (i.gOp == 10)) (.bool false) (congrArg Value.bool (beq_eq_false_iff_ne.2 fk38)) ?_
  have fk40 : ¬ (i.gOp = 13) := by omega
  refine J.h 7 [false] [] [] 106 (.bool (i.gOp == 13)) (.bool false) (congrArg Value.bool (beq_eq_false_iff_ne.2 fk40)) ?_
  have fk42 : ¬ (i.gOp = 14) := by omega
  refine J.h 5 [false] [] [106] 106 (.bool (i.gOp == 14)) (.bool false) (congrArg Value.bool (beq_eq_false_iff_ne.2 fk42)) ?_
  have fk44 : ¬ (i.gOp = 20) := by omega
  refine J.h 6 [false] [] [] 132 (.bool (i.gOp == 20)) (.bool false) (congrArg Value.bool (beq_eq_false_iff_ne.2 fk44)) ?_
  have fk46 : ¬ (i.gOp = 21) := by omega
  refine J.h 6 [false] [] [] 140 (.bool (i.gOp == 21)) (.bool false) (congrArg Value.bool (beq_eq_false_iff_ne.2 fk46)) ?_
  have fk48 : ¬ (i.gOp = 22) := by omega
  refine J.h 6 [false] [] [] 148 (.bool (i.gOp == 22)) (.bool false) (congrArg Value.bool (beq_eq_false_iff_ne.2 fk48)) ?_
  refine J.e 7 [.bool true] Tryz.func32 (hR _ _ ?_)
  exact ⟨congrArg Value.bool (by unfold namedB; (repeat first | rw [if_pos (by omega)] | rw [if_neg (by omega)]); all_goals first | rfl | exact (decide_eq_true (by omega)).symm | exact (decide_eq_false (by omega)).symm), S27.nil⟩
 refine J.h 1 [] [] [] 14 (iv (if 0 > i.gK then 0 else i.gK)) (iv i.gK) (congrArg (Value.int .i64) (by omega)) ?_
 refine J.c0 0 [] [] [] S2 15 hb34 (rtypes_any i.gK _ (by omega)) fun w3 S3 => ?_
 refine J.lb 11 [] [(7, iv (i.gK % 128)), (6, iv (i.gK / 128 % 128)), (5, iv (i.gK / 16384))] [] S3 1 rfl 20 (.slice p.gTypes_a p.gTypes_n p.gTypes_c) ?_
 refine J.lb 7 [] [(8, iv (p.gTypes_n : Int))] [] S3 0 rfl 23 (iv i.gOp) ?_
 have X1 : ∀ (tj24 : Bool) (w4 : World), ((tj24 = true → (i.gOp = 2 ∨ i.gOp = 3)) ∧ (tj24 = false → ¬ (i.gOp = 2 ∨ i.gOp = 3))) → Sep w [box b2 (insC i) 48, box b1 (prgC p) 28] w4 → J Tryz.prog 32 157 R K32_0 [(23, iv i.gOp), (8, iv (p.gTypes_n : Int)), (7, iv (i.gK % 128)), (6, iv (i.gK / 128 % 128)), (5, iv (i.gK / 16384)), (3, pv b2), (2, pv b1), (24, .bool tj24)] w4 := by
  intro tj24 w4 htj24 S4
  refine J.b 0 [] [] [] 24 tj24 (fun fk2 => ?_) fun fk2 => ?_
  ·skip
   have fb1 := htj24.1 fk2
   refine J.lb 4 [true] [] [] S4 0 rfl 28 (iv i.gK) ?_
   refine J.lb 1 [] [] [] S4 1 rfl 30 (iv p.gCells) ?_
   refine J.e 3 [.bool (decide (i.gK < p.gCells))] Tryz.func32 (hR _ _ ?_)
   exact ⟨congrArg Value.bool (by unfold namedB; (repeat first | rw [if_pos (by omega)] | rw [if_neg (by omega)]); all_goals first | rfl | exact (decide_eq_true (by omega)).symm | exact (decide_eq_false (by omega)).symm), S4.nil⟩
  have fb2 := htj24.2 fk2
  have X2 : ∀ (tj32 : Bool) (w5 : World), ((tj32 = true → (i.gOp = 5 ∨ i.gOp = 6 ∨ i.gOp = 7 ∨ i.gOp = 8)) ∧ (tj32 = false → ¬ (i.gOp = 5 ∨ i.gOp = 6 ∨ i.gOp = 7 ∨ i.gOp = 8))) → Sep w [box b2 (insC i) 48, box b1 (prgC p) 28] w5 → J Tryz.prog 32 157 R K32_1 [(23, iv i.gOp), (8, iv (p.gTypes_n : Int)), (7, iv (i.gK % 128)), (6, iv (i.gK / 128 % 128)), (5, iv (i.gK / 16384)), (3, pv b2), (2, pv b1), (32, .bool tj32)] w5 := by
   intro tj32 w5 htj32 S5
   refine J.b 0 [] [] [] 32 tj32 (fun fk3 => ?_) fun fk3 => ?_
   ·skip
    have fb3 := htj32.1 fk3
    refine J.c 8 [true] [] [] 40 ((i.gK / 16384) ≥ (p.gTypes_n : Int)) (fun fk4 => ?_) fun fk4 => ?_
    ·skip
     refine J.e 15 [.bool false] Tryz.func32 (hR _ _ ?_)
     exact ⟨congrArg Value.bool (named_tyno (by omega) (by omega)).symm, S5.nil⟩
    refine J.c 5 [] [] [] 45 ((i.gK / 128 % 128) ≥ (p.gTypes_n : Int)) (fun fk5 => ?_) fun fk5 => ?_
    ·skip
     refine J.e 10 [.bool false] Tryz.func32 (hR _ _ ?_)
     exact ⟨congrArg Value.bool (named_tyno (by omega) (by omega)).symm, S5.nil⟩
    refine J.c 5 [] [] [] 49 ((i.gK % 128) ≥ (p.gTypes_n : Int)) (fun fk6 => ?_) fun fk6 => ?_
    ·skip
     refine J.e 5 [.bool false] Tryz.func32 (hR _ _ ?_)
     exact ⟨congrArg Value.bool (named_tyno (by omega) (by omega)).symm, S5.nil⟩
    refine J.r 3 [false] [] [] ?_
    obtain ⟨p1, hp1, hc1⟩ := q5.at fx0 (i.gK / 16384).toNat (by omega)
    have hel1 := getD_Q q6 fx0 (n := (i.gK / 16384).toNat) (by have := q5.len_eq; omega)
    obtain ⟨q31, q32, q33, q34, q35, q36, q37, q38, q39, _⟩ := id hel1
    obtain ⟨p2, hp2, hc2⟩ := q5.at fx0 (i.gK / 128 % 128).toNat (by omega)
    have hel2 := getD_Q q6 fx0 (n := (i.gK / 128 % 128).toNat) (by have := q5.len_eq; omega)
    obtain ⟨q40, q41, q42, q43, q44, q45, q46, q47, q48, _⟩ := id hel2
    have W1 : ∀ (bd19 : Nat) (w6 : World), Sep w [box bd19 (untC (unRX (i.gOp - 4) (unitT (tyN p (i.gK / 16384))) (unitT (tyN p (i.gK / 128 % 128))))) 73, box b2 (insC i) 48, box b1 (prgC p) 28] w6 → WA Tryz.prog 32 157 R K32_2 (fun w_ => Sep w [box b2 (insC i) 48, box b1 (prgC p) 28] w_) 0 #[true, true, true, true, true, true, true, true, true, true, true, true, true, true, true, true, true, true, true, true, true, true] [(2, pv b1), (7, iv (i.gK % 128)), (9, pv bd19), (10, .bool (unRB (i.gOp - 4) (unitT (tyN p (i.gK / 16384))) (unitT (tyN p (i.gK / 128 % 128)))))] w6 := by
     intro bd19 w6 S6
     refine WA.done (by kernel_rfl) ?_
     refine J.r 1 [] [] [] ?_
     rcases Bool.eq_false_or_eq_true (unRB (i.gOp - 4) (unitT (tyN p (i.gK / 16384))) (unitT (tyN p (i.gK / 128 % 128)))) with fk7 | fk7
     rotate_left
     ·skip
      refine J.drawStill S6 12 Tryz.mixed (by kernel_rfl) (by kernel_rfl) (by kernel_rfl) ?_
      intro w8 S8
      refine SL.r 69 (.bool (unRB (i.gOp - 4) (unitT (tyN p (i.gK / 16384))) (unitT (tyN p (i.gK / 128 % 128))))) ?_
      refine SL.head (.bool false) (congrArg Value.bool fk7) ?_
      refine SL.r 70 (.bool false) ?_
      refine SL.p (some 71) ?_
      refine SL.p (some 72) ?_
      refine SL.p (some 73) ?_
      refine SL.p (some 74) ?_
      refine SL.p (some 75) ?_
      refine SL.p (some 76) ?_
      refine SL.p (some 77) ?_
      refine SL.p (some 78) ?_
      refine SL.r 79 (.bool false) ?_
      refine SL.r 4 (.bool false) ?_
      refine SL.done ?_
      refine TL.done (by kernel_rfl) ?_
      refine J.e 0 [.bool false] Tryz.func32 (hR _ _ ?_)
      exact ⟨congrArg Value.bool (by rw [named_arith (by omega) (by omega), fk7]; rfl), S8.nil⟩
     obtain ⟨p3, hp3, hc3⟩ := q5.at fx0 (i.gK % 128).toNat (by omega)
     have hel3 := getD_Q q6 fx0 (n := (i.gK % 128).toNat) (by have := q5.len_eq; omega)
     obtain ⟨q49, q50, q51, q52, q53, q54, q55, q56, q57, _⟩ := id hel3
     refine J.drawStill S6 12 Tryz.mixed (by kernel_rfl) (by kernel_rfl) (by kernel_rfl) ?_
     intro w7 S7
     refine SL.r 69 (.bool (unRB (i.gOp - 4) (unitT (tyN p (i.gK / 16384))) (unitT (tyN p (i.gK / 128 % 128))))) ?_
     refine SL.head (.bool true) (congrArg Value.bool fk7) ?_
     refine SL.r 70 (.bool true) ?_
     refine SL.lb S7 0 rfl 71 (.agg (untA (unRX (i.gOp - 4) (unitT (tyN p (i.gK / 16384))) (unitT (tyN p (i.gK / 128 % 128)))))) ?_
     refine SL.r 72 (.pointer (some ⟨b1, 1, none⟩)) ?_
     refine SL.lb S7 2 rfl 73 (.slice p.gTypes_a p.gTypes_n p.gTypes_c) ?_
     refine SL.r 74 (iv (i.gK % 128)) ?_
     refine SL.ok (by decide) (OK.index 75 23 10 p.gTypes_a p3 p.gTypes_n (i.gK % 128).toNat (i.gK % 128) (p3.add ((i.gK % 128).toNat * 10)) (by kernel_rfl) (by kernel_rfl) hp3 (by omega) (by omega) rfl) ?_
     refine SL.r 76 (.pointer (some ((p3.add ((i.gK % 128).toNat * 10)).add 5))) ?_
     refine SL.ok (by decide) (OK.ldCells 77 73 ((p3.add ((i.gK % 128).toNat * 10)).add 5) (fuC (p.gTypes_l.getD (i.gK % 128).toNat fx0)) (by kernel_rfl) (by kernel_rfl) (by kernel_rfl) (fun j_ v_ hj_ => by rw [addr_add_add]; exact ((fun j_ v_ hj_ => S7.cell (hc3 j_ v_ hj_))) (5 + j_) v_ (by rcases j_ with _ | _ | _ | _ | _ | j_ <;> first | exact hj_ | (cases hj_; done) | (simp at hj_; done)))) ?_
     refine SL.ok (by decide) (OK.eqUnt 78 (unRX (i.gOp - 4) (unitT (tyN p (i.gK / 16384))) (unitT (tyN p (i.gK / 128 % 128)))) (unitT (tyN p (i.gK % 128))) (by kernel_rfl)) ?_
     refine SL.r 79 (.bool (unEq (unRX (i.gOp - 4) (unitT (tyN p (i.gK / 16384))) (unitT (tyN p (i.gK / 128 % 128)))) (unitT (tyN p (i.gK % 128))))) ?_
     refine SL.r 4 (.bool (unEq (unRX (i.gOp - 4) (unitT (tyN p (i.gK / 16384))) (unitT (tyN p (i.gK / 128 % 128)))) (unitT (tyN p (i.gK % 128))))) ?_
     refine SL.done ?_
     refine TL.done (by kernel_rfl) ?_
     refine J.e 0 [.bool (unEq (unRX (i.gOp - 4) (unitT (tyN p (i.gK / 16384))) (unitT (tyN p (i.gK / 128 % 128)))) (unitT (tyN p (i.gK % 128))))] Tryz.func32 (hR _ _ ?_)
     exact ⟨congrArg Value.bool (by rw [named_arith (by omega) (by omega), fk7]; rfl), S7.nil⟩
    have W2 : ∀ (bd19 : Nat) (w9 : World), Sep w [box bd19 [iv 0, iv 0, iv 0, iv 0, iv 0] 73, box b2 (insC i) 48, box b1 (prgC p) 28] w9 → WA Tryz.prog 32 157 R K32_2 (fun w_ => Sep w [box b2 (insC i) 48, box b1 (prgC p) 28] w_) 2 #[true, true, true, true, true, true, true, true, true, true, true, true, true, true, true, true, true, true, true, true, false, false] [(2, pv b1), (7, iv (i.gK % 128)), (9, pv bd19), (67, .agg (untA (unRX (i.gOp - 4) (unitT (tyN p (i.gK / 16384))) (unitT (tyN p (i.gK / 128 % 128)))))), (68, .bool (unRB (i.gOp - 4) (unitT (tyN p (i.gK / 16384))) (unitT (tyN p (i.gK / 128 % 128)))))] w9 := by
     intro bd19 w9 S9
     refine WA.all [20] (by kernel_rfl) rfl ⟨?_, trivial⟩
     refine WO.set #[true, true, true, true, true, true, true, true, true, true, true, true, true, true, true, true, true, true, true, true, true, false] (by kernel_rfl) ?_
     refine WO.stBox S9 0 73 0 (.agg (untA (unRX (i.gOp - 4) (unitT (tyN p (i.gK / 16384))) (unitT (tyN p (i.gK / 128 % 128)))))) (untC (unRX (i.gOp - 4) (unitT (tyN p (i.gK / 16384))) (unitT (tyN p (i.gK / 128 % 128))))) [box bd19 (untC (unRX (i.gOp - 4) (unitT (tyN p (i.gK / 16384))) (unitT (tyN p (i.gK / 128 % 128))))) 73, box b2 (insC i) 48, box b1 (prgC p) 28] (by kernel_rfl) rfl (by kernel_rfl) (by kernel_rfl) rfl ?_
     intro w10 S10
     refine WB.mk (S10.erase 0) ?_
     refine WA.take 21 10 (.bool (unRB (i.gOp - 4) (unitT (tyN p (i.gK / 16384))) (unitT (tyN p (i.gK / 128 % 128))))) #[true, true, true, true, true, true, true, true, true, true, true, true, true, true, true, true, true, true, true, true, true, true] (by kernel_rfl) (by kernel_rfl) (by kernel_rfl) (fun _ _ => by kernel_rfl) (by kernel_rfl) ?_
     refine WA.weaken (env' := [(2, pv b1), (7, iv (i.gK % 128)), (9, pv bd19), (10, .bool (unRB (i.gOp - 4) (unitT (tyN p (i.gK / 16384))) (unitT (tyN p (i.gK / 128 % 128)))))]) (by kernel_rfl) ?_
     exact W1 bd19 w10 S10
    have W3 : ∀ (w11 : World), Sep w [box b2 (insC i) 48, box b1 (prgC p) 28] w11 → WA Tryz.prog 32 157 R K32_2 (fun w_ => Sep w [box b2 (insC i) 48, box b1 (prgC p) 28] w_) 3 #[true, true, true, true, true, true, true, true, true, true, true, true, true, true, true, true, true, true, true, false, false, false] [(2, pv b1), (7, iv (i.gK % 128)), (67, .agg (untA (unRX (i.gOp - 4) (unitT (tyN p (i.gK / 16384))) (unitT (tyN p (i.gK / 128 % 128)))))), (68, .bool (unRB (i.gOp - 4) (unitT (tyN p (i.gK / 16384))) (unitT (tyN p (i.gK / 128 % 128)))))] w11 := by
     intro w11 S11
     refine WA.all [19] (by kernel_rfl) rfl ⟨?_, trivial⟩
     refine WO.set #[true, true, true, true, true, true, true, true, true, true, true, true, true, true, true, true, true, true, true, true, false, false] (by kernel_rfl) ?_
     refine WO.new S11 9 [iv 0, iv 0, iv 0, iv 0, iv 0] 73 (by kernel_rfl) ?_
     intro bd19 w12 S12
     refine WB.mk (S12.erase 0) ?_
     refine WA.weaken (env' := [(2, pv b1), (7, iv (i.gK % 128)), (9, pv bd19), (67, .agg (untA (unRX (i.gOp - 4) (unitT (tyN p (i.gK / 16384))) (unitT (tyN p (i.gK / 128 % 128)))))), (68, .bool (unRB (i.gOp - 4) (unitT (tyN p (i.gK / 16384))) (unitT (tyN p (i.gK / 128 % 128)))))]) (by kernel_rfl) ?_
     exact W2 bd19 w12 S12
    have W4 : ∀ (bd19 : Nat) (w13 : World), Sep w [box bd19 [iv 0, iv 0, iv 0, iv 0, iv 0] 73, box b2 (insC i) 48, box b1 (prgC p) 28] w13 → WA Tryz.prog 32 157 R K32_2 (fun w_ => Sep w [box b2 (insC i) 48, box b1 (prgC p) 28] w_) 6 #[true, true, true, true, true, true, true, true, true, true, true, true, true, true, true, false, false, false, false, true, false, false] [(2, pv b1), (7, iv (i.gK % 128)), (9, pv bd19), (53, iv (i.gOp - 4)), (59, .agg (fuA (p.gTypes_l.getD (i.gK / 16384).toNat fx0))), (65, .agg (fuA (p.gTypes_l.getD (i.gK / 128 % 128).toNat fx0)))] w13 := by
     intro bd19 w13 S13
     refine WA.all [15] (by kernel_rfl) rfl ⟨?_, trivial⟩
     refine WO.set #[true, true, true, true, true, true, true, true, true, true, true, true, true, true, true, true, false, false, false, true, false, false] (by kernel_rfl) ?_
     refine WO.callF 66 72 #[iv (i.gOp - 4), .agg (fuA (p.gTypes_l.getD (i.gK / 16384).toNat fx0)), .agg (fuA (p.gTypes_l.getD (i.gK / 128 % 128).toNat fx0))] hb72 (by kernel_rfl) (runits_any (i.gOp - 4) (unitT (tyN p (i.gK / 16384))) (unitT (tyN p (i.gK / 128 % 128))) _) ?_
     rintro _ w14 ⟨rfl, T1⟩
     have S14 : Sep w [box bd19 [iv 0, iv 0, iv 0, iv 0, iv 0] 73, box b2 (insC i) 48, box b1 (prgC p) 28] w14 := S13.trans T1
     clear T1 S13
     refine WB.mk (S14.erase 0) ?_
     refine WA.take 16 50 (.tuple #[.agg (untA (unRX (i.gOp - 4) (unitT (tyN p (i.gK / 16384))) (unitT (tyN p (i.gK / 128 % 128))))), .bool (unRB (i.gOp - 4) (unitT (tyN p (i.gK / 16384))) (unitT (tyN p (i.gK / 128 % 128))))]) #[true, true, true, true, true, true, true, true, true, true, true, true, true, true, true, true, true, false, false, true, false, false] (by kernel_rfl) (by kernel_rfl) (by kernel_rfl) (fun _ _ => by kernel_rfl) (by kernel_rfl) ?_
     refine WA.take 17 67 (.agg (untA (unRX (i.gOp - 4) (unitT (tyN p (i.gK / 16384))) (unitT (tyN p (i.gK / 128 % 128)))))) #[true, true, true, true, true, true, true, true, true, true, true, true, true, true, true, true, true, true, false, true, false, false] (by kernel_rfl) (by kernel_rfl) (by kernel_rfl) (fun _ _ => by kernel_rfl) (by kernel_rfl) ?_
     refine WA.take 18 68 (.bool (unRB (i.gOp - 4) (unitT (tyN p (i.gK / 16384))) (unitT (tyN p (i.gK / 128 % 128))))) #[true, true, true, true, true, true, true, true, true, true, true, true, true, true, true, true, true, true, true, true, false, false] (by kernel_rfl) (by kernel_rfl) (by kernel_rfl) (fun _ _ => by kernel_rfl) (by kernel_rfl) ?_
     refine WA.weaken (env' := [(2, pv b1), (7, iv (i.gK % 128)), (9, pv bd19), (67, .agg (untA (unRX (i.gOp - 4) (unitT (tyN p (i.gK / 16384))) (unitT (tyN p (i.gK / 128 % 128)))))), (68, .bool (unRB (i.gOp - 4) (unitT (tyN p (i.gK / 16384))) (unitT (tyN p (i.gK / 128 % 128)))))]) (by kernel_rfl) ?_
     exact W2 bd19 w14 S14
    have W5 : ∀ (w15 : World), Sep w [box b2 (insC i) 48, box b1 (prgC p) 28] w15 → WA Tryz.prog 32 157 R K32_2 (fun w_ => Sep w [box b2 (insC i) 48, box b1 (prgC p) 28] w_) 7 #[true, true, true, true, true, true, true, true, true, true, true, true, true, true, true, false, false, false, false, false, false, false] [(2, pv b1), (7, iv (i.gK % 128)), (53, iv (i.gOp - 4)), (59, .agg (fuA (p.gTypes_l.getD (i.gK / 16384).toNat fx0))), (65, .agg (fuA (p.gTypes_l.getD (i.gK / 128 % 128).toNat fx0)))] w15 := by
     intro w15 S15
     refine WA.all [15, 19] (by kernel_rfl) rfl ⟨?_, ?_, trivial⟩
     ·skip
      refine WO.set #[true, true, true, true, true, true, true, true, true, true, true, true, true, true, true, true, false, false, false, false, false, false] (by kernel_rfl) ?_
      refine WO.callF 66 72 #[iv (i.gOp - 4), .agg (fuA (p.gTypes_l.getD (i.gK / 16384).toNat fx0)), .agg (fuA (p.gTypes_l.getD (i.gK / 128 % 128).toNat fx0))] hb72 (by kernel_rfl) (runits_any (i.gOp - 4) (unitT (tyN p (i.gK / 16384))) (unitT (tyN p (i.gK / 128 % 128))) _) ?_
      rintro _ w16 ⟨rfl, T2⟩
      have S16 : Sep w [box b2 (insC i) 48, box b1 (prgC p) 28] w16 := S15.trans T2
      clear T2 S15
      refine WB.mk S16 ?_
      refine WA.take 16 50 (.tuple #[.agg (untA (unRX (i.gOp - 4) (unitT (tyN p (i.gK / 16384))) (unitT (tyN p (i.gK / 128 % 128))))), .bool (unRB (i.gOp - 4) (unitT (tyN p (i.gK / 16384))) (unitT (tyN p (i.gK / 128 % 128))))]) #[true, true, true, true, true, true, true, true, true, true, true, true, true, true, true, true, true, false, false, false, false, false] (by kernel_rfl) (by kernel_rfl) (by kernel_rfl) (fun _ _ => by kernel_rfl) (by kernel_rfl) ?_
      refine WA.take 17 67 (.agg (untA (unRX (i.gOp - 4) (unitT (tyN p (i.gK / 16384))) (unitT (tyN p (i.gK / 128 % 128)))))) #[true, true, true, true, true, true, true, true, true, true, true, true, true, true, true, true, true, true, false, false, false, false] (by kernel_rfl) (by kernel_rfl) (by kernel_rfl) (fun _ _ => by kernel_rfl) (by kernel_rfl) ?_
      refine WA.take 18 68 (.bool (unRB (i.gOp - 4) (unitT (tyN p (i.gK / 16384))) (unitT (tyN p (i.gK / 128 % 128))))) #[true, true, true, true, true, true, true, true, true, true, true, true, true, true, true, true, true, true, true, false, false, false] (by kernel_rfl) (by kernel_rfl) (by kernel_rfl) (fun _ _ => by kernel_rfl) (by kernel_rfl) ?_
      refine WA.weaken (env' := [(2, pv b1), (7, iv (i.gK % 128)), (67, .agg (untA (unRX (i.gOp - 4) (unitT (tyN p (i.gK / 16384))) (unitT (tyN p (i.gK / 128 % 128)))))), (68, .bool (unRB (i.gOp - 4) (unitT (tyN p (i.gK / 16384))) (unitT (tyN p (i.gK / 128 % 128)))))]) (by kernel_rfl) ?_
      exact W3 w16 S16
     refine WO.set #[true, true, true, true, true, true, true, true, true, true, true, true, true, true, true, false, false, false, false, true, false, false] (by kernel_rfl) ?_
     refine WO.new S15 9 [iv 0, iv 0, iv 0, iv 0, iv 0] 73 (by kernel_rfl) ?_
     intro bd19 w17 S17
     refine WB.mk (S17.erase 0) ?_
     refine WA.weaken (env' := [(2, pv b1), (7, iv (i.gK % 128)), (9, pv bd19), (53, iv (i.gOp - 4)), (59, .agg (fuA (p.gTypes_l.getD (i.gK / 16384).toNat fx0))), (65, .agg (fuA (p.gTypes_l.getD (i.gK / 128 % 128).toNat fx0)))]) (by kernel_rfl) ?_
     exact W4 bd19 w17 S17
    refine J.drawAny (fun w_ => Sep w [box b2 (insC i) 48, box b1 (prgC p) 28] w_) S5 22 #[false, false, false, false, false, false, false, false, false, false, false, false, false, false, false, false, false, false, false, false, false, false] Tryz.mixed (by kernel_rfl) (by kernel_rfl) (by kernel_rfl) ?_
    intro w18 S18
    refine WB.mk S18 ?_
    refine WA.take 0 51 (pv b2) #[true, false, false, false, false, false, false, false, false, false, false, false, false, false, false, false, false, false, false, false, false, false] (by kernel_rfl) (by kernel_rfl) (by kernel_rfl) (fun _ _ => by kernel_rfl) (by kernel_rfl) ?_
    refine WA.takeOK 1 #[true, true, false, false, false, false, false, false, false, false, false, false, false, false, false, false, false, false, false, false, false, false] (by kernel_rfl) (by kernel_rfl) (by kernel_rfl) (by kernel_rfl) (fun w_ S_ => OK.ldBox S_ 0 52 3 0 (iv i.gOp) (by kernel_rfl) rfl (by kernel_rfl)) rfl ?_
    refine WA.take 2 53 (iv (IntKind.wrap .i64 (i.gOp - 4))) #[true, true, true, false, false, false, false, false, false, false, false, false, false, false, false, false, false, false, false, false, false, false] (by kernel_rfl) (by kernel_rfl) (by kernel_rfl) (fun _ _ => by kernel_rfl) (by kernel_rfl) ?_
    refine WA.head (iv (i.gOp - 4)) (congrArg (Value.int .i64) (IntWalk.i64_in _ (by omega))) ?_
    refine WA.take 3 54 (.pointer (some ⟨b1, 1, none⟩)) #[true, true, true, true, false, false, false, false, false, false, false, false, false, false, false, false, false, false, false, false, false, false] (by kernel_rfl) (by kernel_rfl) (by kernel_rfl) (fun _ _ => by kernel_rfl) (by kernel_rfl) ?_
    refine WA.takeOK 4 #[true, true, true, true, true, false, false, false, false, false, false, false, false, false, false, false, false, false, false, false, false, false] (by kernel_rfl) (by kernel_rfl) (by kernel_rfl) (by kernel_rfl) (fun w_ S_ => OK.ldBox S_ 1 55 23 1 (.slice p.gTypes_a p.gTypes_n p.gTypes_c) (by kernel_rfl) rfl (by kernel_rfl)) rfl ?_
    refine WA.take 5 56 (iv (i.gK / 16384)) #[true, true, true, true, true, true, false, false, false, false, false, false, false, false, false, false, false, false, false, false, false, false] (by kernel_rfl) (by kernel_rfl) (by kernel_rfl) (fun _ _ => by kernel_rfl) (by kernel_rfl) ?_
    refine WA.takeOK 6 #[true, true, true, true, true, true, true, false, false, false, false, false, false, false, false, false, false, false, false, false, false, false] (by kernel_rfl) (by kernel_rfl) (by kernel_rfl) (by kernel_rfl) (fun w_ S_ => OK.index 57 23 10 p.gTypes_a p1 p.gTypes_n (i.gK / 16384).toNat (i.gK / 16384) (p1.add ((i.gK / 16384).toNat * 10)) (by kernel_rfl) (by kernel_rfl) hp1 (by omega) (by omega) rfl) rfl ?_
    refine WA.take 7 58 (.pointer (some ((p1.add ((i.gK / 16384).toNat * 10)).add 5))) #[true, true, true, true, true, true, true, true, false, false, false, false, false, false, false, false, false, false, false, false, false, false] (by kernel_rfl) (by kernel_rfl) (by kernel_rfl) (fun _ _ => by kernel_rfl) (by kernel_rfl) ?_
    refine WA.takeOK 8 #[true, true, true, true, true, true, true, true, true, false, false, false, false, false, false, false, false, false, false, false, false, false] (by kernel_rfl) (by kernel_rfl) (by kernel_rfl) (by kernel_rfl) (fun w_ S_ => OK.ldCells 59 73 ((p1.add ((i.gK / 16384).toNat * 10)).add 5) (fuC (p.gTypes_l.getD (i.gK / 16384).toNat fx0)) (by kernel_rfl) (by kernel_rfl) (by kernel_rfl) (fun j_ v_ hj_ => by rw [addr_add_add]; exact ((fun j_ v_ hj_ => S_.cell (hc1 j_ v_ hj_))) (5 + j_) v_ (by rcases j_ with _ | _ | _ | _ | _ | j_ <;> first | exact hj_ | (cases hj_; done) | (simp at hj_; done)))) rfl ?_
    refine WA.take 9 60 (.pointer (some ⟨b1, 1, none⟩)) #[true, true, true, true, true, true, true, true, true, true, false, false, false, false, false, false, false, false, false, false, false, false] (by kernel_rfl) (by kernel_rfl) (by kernel_rfl) (fun _ _ => by kernel_rfl) (by kernel_rfl) ?_
    refine WA.takeOK 10 #[true, true, true, true, true, true, true, true, true, true, true, false, false, false, false, false, false, false, false, false, false, false] (by kernel_rfl) (by kernel_rfl) (by kernel_rfl) (by kernel_rfl) (fun w_ S_ => OK.ldBox S_ 1 61 23 1 (.slice p.gTypes_a p.gTypes_n p.gTypes_c) (by kernel_rfl) rfl (by kernel_rfl)) rfl ?_
    refine WA.take 11 62 (iv (i.gK / 128 % 128)) #[true, true, true, true, true, true, true, true, true, true, true, true, false, false, false, false, false, false, false, false, false, false] (by kernel_rfl) (by kernel_rfl) (by kernel_rfl) (fun _ _ => by kernel_rfl) (by kernel_rfl) ?_
    refine WA.takeOK 12 #[true, true, true, true, true, true, true, true, true, true, true, true, true, false, false, false, false, false, false, false, false, false] (by kernel_rfl) (by kernel_rfl) (by kernel_rfl) (by kernel_rfl) (fun w_ S_ => OK.index 63 23 10 p.gTypes_a p2 p.gTypes_n (i.gK / 128 % 128).toNat (i.gK / 128 % 128) (p2.add ((i.gK / 128 % 128).toNat * 10)) (by kernel_rfl) (by kernel_rfl) hp2 (by omega) (by omega) rfl) rfl ?_
    refine WA.take 13 64 (.pointer (some ((p2.add ((i.gK / 128 % 128).toNat * 10)).add 5))) #[true, true, true, true, true, true, true, true, true, true, true, true, true, true, false, false, false, false, false, false, false, false] (by kernel_rfl) (by kernel_rfl) (by kernel_rfl) (fun _ _ => by kernel_rfl) (by kernel_rfl) ?_
    refine WA.takeOK 14 #[true, true, true, true, true, true, true, true, true, true, true, true, true, true, true, false, false, false, false, false, false, false] (by kernel_rfl) (by kernel_rfl) (by kernel_rfl) (by kernel_rfl) (fun w_ S_ => OK.ldCells 65 73 ((p2.add ((i.gK / 128 % 128).toNat * 10)).add 5) (fuC (p.gTypes_l.getD (i.gK / 128 % 128).toNat fx0)) (by kernel_rfl) (by kernel_rfl) (by kernel_rfl) (fun j_ v_ hj_ => by rw [addr_add_add]; exact ((fun j_ v_ hj_ => S_.cell (hc2 j_ v_ hj_))) (5 + j_) v_ (by rcases j_ with _ | _ | _ | _ | _ | j_ <;> first | exact hj_ | (cases hj_; done) | (simp at hj_; done)))) rfl ?_
    refine WA.weaken (env' := [(2, pv b1), (7, iv (i.gK % 128)), (53, iv (i.gOp - 4)), (59, .agg (fuA (p.gTypes_l.getD (i.gK / 16384).toNat fx0))), (65, .agg (fuA (p.gTypes_l.getD (i.gK / 128 % 128).toNat fx0)))]) (by kernel_rfl) ?_
    exact W5 w18 S18
   have fb4 := htj32.2 fk3
   have X3 : ∀ (tj80 : Bool) (w19 : World), ((tj80 = true → (i.gOp = 9 ∨ i.gOp = 10)) ∧ (tj80 = false → ¬ (i.gOp = 9 ∨ i.gOp = 10))) → Sep w [box b2 (insC i) 48, box b1 (prgC p) 28] w19 → J Tryz.prog 32 157 R K32_3 [(23, iv i.gOp), (8, iv (p.gTypes_n : Int)), (7, iv (i.gK % 128)), (6, iv (i.gK / 128 % 128)), (5, iv (i.gK / 16384)), (3, pv b2), (2, pv b1), (80, .bool tj80)] w19 := by
    intro tj80 w19 htj80 S19
    refine J.b 0 [] [] [] 80 tj80 (fun fk8 => ?_) fun fk8 => ?_
    ·skip
     have fb5 := htj80.1 fk8
     refine J.r 2 [true] [] [] ?_
     by_cases fk9 : (i.gK / 16384) < (p.gTypes_n : Int)
     rotate_left
     ·skip
      refine J.drawStill S19 24 Tryz.mixed (by kernel_rfl) (by kernel_rfl) (by kernel_rfl) ?_
      intro w22 S22
      refine SL.r 83 (iv (i.gK / 16384)) ?_
      refine SL.r 84 (iv (p.gTypes_n : Int)) ?_
      refine SL.r 85 (.bool (decide ((i.gK / 16384) < (p.gTypes_n : Int)))) ?_
      refine SL.head (.bool false) (congrArg Value.bool (decide_eq_false fk9)) ?_
      refine SL.r 86 (.bool false) ?_
      refine SL.p (some 87) ?_
      refine SL.p (some 88) ?_
      refine SL.p (some 89) ?_
      refine SL.r 90 (.bool false) ?_
      refine SL.r 91 (.bool false) ?_
      refine SL.p (some 92) ?_
      refine SL.p (some 93) ?_
      refine SL.p (some 94) ?_
      refine SL.p (some 95) ?_
      refine SL.p (some 96) ?_
      refine SL.p (some 97) ?_
      refine SL.p (some 98) ?_
      refine SL.p (some 99) ?_
      refine SL.p (some 100) ?_
      refine SL.p (some 101) ?_
      refine SL.p (some 102) ?_
      refine SL.p (some 103) ?_
      refine SL.p (some 104) ?_
      refine SL.r 105 (.bool false) ?_
      refine SL.r 4 (.bool false) ?_
      refine SL.done ?_
      refine TL.done (by kernel_rfl) ?_
      refine J.e 0 [.bool false] Tryz.func32 (hR _ _ ?_)
      exact ⟨congrArg Value.bool (named_tyno (by omega) (by omega)).symm, S22.nil⟩
     by_cases fk10 : (i.gK % 128) < (p.gTypes_n : Int)
     rotate_left
     ·skip
      refine J.drawStill S19 24 Tryz.mixed (by kernel_rfl) (by kernel_rfl) (by kernel_rfl) ?_
      intro w21 S21
      refine SL.r 83 (iv (i.gK / 16384)) ?_
      refine SL.r 84 (iv (p.gTypes_n : Int)) ?_
      refine SL.r 85 (.bool (decide ((i.gK / 16384) < (p.gTypes_n : Int)))) ?_
      refine SL.head (.bool true) (congrArg Value.bool (decide_eq_true fk9)) ?_
      refine SL.r 86 (.bool true) ?_
      refine SL.r 87 (iv (i.gK % 128)) ?_
      refine SL.r 88 (iv (p.gTypes_n : Int)) ?_
      refine SL.r 89 (.bool (decide ((i.gK % 128) < (p.gTypes_n : Int)))) ?_
      refine SL.head (.bool false) (congrArg Value.bool (decide_eq_false fk10)) ?_
      refine SL.r 90 (.bool false) ?_
      refine SL.r 91 (.bool false) ?_
      refine SL.p (some 92) ?_
      refine SL.p (some 93) ?_
      refine SL.p (some 94) ?_
      refine SL.p (some 95) ?_
      refine SL.p (some 96) ?_
      refine SL.p (some 97) ?_
      refine SL.p (some 98) ?_
      refine SL.p (some 99) ?_
      refine SL.p (some 100) ?_
      refine SL.p (some 101) ?_
      refine SL.p (some 102) ?_
      refine SL.p (some 103) ?_
      refine SL.p (some 104) ?_
      refine SL.r 105 (.bool false) ?_
      refine SL.r 4 (.bool false) ?_
      refine SL.done ?_
      refine TL.done (by kernel_rfl) ?_
      refine J.e 0 [.bool false] Tryz.func32 (hR _ _ ?_)
      exact ⟨congrArg Value.bool (named_tyno (by omega) (by omega)).symm, S21.nil⟩
     obtain ⟨p4, hp4, hc4⟩ := q5.at fx0 (i.gK / 16384).toNat (by omega)
     have hel4 := getD_Q q6 fx0 (n := (i.gK / 16384).toNat) (by have := q5.len_eq; omega)
     obtain ⟨q58, q59, q60, q61, q62, q63, q64, q65, q66, _⟩ := id hel4
     obtain ⟨p5, hp5, hc5⟩ := q5.at fx0 (i.gK % 128).toNat (by omega)
     have hel5 := getD_Q q6 fx0 (n := (i.gK % 128).toNat) (by have := q5.len_eq; omega)
     obtain ⟨q67, q68, q69, q70, q71, q72, q73, q74, q75, _⟩ := id hel5
     refine J.drawStill S19 24 Tryz.mixed (by kernel_rfl) (by kernel_rfl) (by kernel_rfl) ?_
     intro w20 S20
     refine SL.r 83 (iv (i.gK / 16384)) ?_
     refine SL.r 84 (iv (p.gTypes_n : Int)) ?_
     refine SL.r 85 (.bool (decide ((i.gK / 16384) < (p.gTypes_n : Int)))) ?_
     refine SL.head (.bool true) (congrArg Value.bool (decide_eq_true fk9)) ?_
     refine SL.r 86 (.bool true) ?_
     refine SL.r 87 (iv (i.gK % 128)) ?_
     refine SL.r 88 (iv (p.gTypes_n : Int)) ?_
     refine SL.r 89 (.bool (decide ((i.gK % 128) < (p.gTypes_n : Int)))) ?_
     refine SL.head (.bool true) (congrArg Value.bool (decide_eq_true fk10)) ?_
     refine SL.r 90 (.bool true) ?_
     refine SL.r 91 (.bool true) ?_
     refine SL.r 92 (.pointer (some ⟨b1, 1, none⟩)) ?_
     refine SL.lb S20 1 rfl 93 (.slice p.gTypes_a p.gTypes_n p.gTypes_c) ?_
     refine SL.r 94 (iv (i.gK / 16384)) ?_
     refine SL.ok (by decide) (OK.index 95 23 10 p.gTypes_a p4 p.gTypes_n (i.gK / 16384).toNat (i.gK / 16384) (p4.add ((i.gK / 16384).toNat * 10)) (by kernel_rfl) (by kernel_rfl) hp4 (by omega) (by omega) rfl) ?_
     refine SL.r 96 (.pointer (some ((p4.add ((i.gK / 16384).toNat * 10)).add 5))) ?_
     refine SL.ok (by decide) (OK.ldCells 97 73 ((p4.add ((i.gK / 16384).toNat * 10)).add 5) (fuC (p.gTypes_l.getD (i.gK / 16384).toNat fx0)) (by kernel_rfl) (by kernel_rfl) (by kernel_rfl) (fun j_ v_ hj_ => by rw [addr_add_add]; exact ((fun j_ v_ hj_ => S20.cell (hc4 j_ v_ hj_))) (5 + j_) v_ (by rcases j_ with _ | _ | _ | _ | _ | j_ <;> first | exact hj_ | (cases hj_; done) | (simp at hj_; done)))) ?_
     refine SL.r 98 (.pointer (some ⟨b1, 1, none⟩)) ?_
     refine SL.lb S20 1 rfl 99 (.slice p.gTypes_a p.gTypes_n p.gTypes_c) ?_
     refine SL.r 100 (iv (i.gK % 128)) ?_
     refine SL.ok (by decide) (OK.index 101 23 10 p.gTypes_a p5 p.gTypes_n (i.gK % 128).toNat (i.gK % 128) (p5.add ((i.gK % 128).toNat * 10)) (by kernel_rfl) (by kernel_rfl) hp5 (by omega) (by omega) rfl) ?_
     refine SL.r 102 (.pointer (some ((p5.add ((i.gK % 128).toNat * 10)).add 5))) ?_
     refine SL.ok (by decide) (OK.ldCells 103 73 ((p5.add ((i.gK % 128).toNat * 10)).add 5) (fuC (p.gTypes_l.getD (i.gK % 128).toNat fx0)) (by kernel_rfl) (by kernel_rfl) (by kernel_rfl) (fun j_ v_ hj_ => by rw [addr_add_add]; exact ((fun j_ v_ hj_ => S20.cell (hc5 j_ v_ hj_))) (5 + j_) v_ (by rcases j_ with _ | _ | _ | _ | _ | j_ <;> first | exact hj_ | (cases hj_; done) | (simp at hj_; done)))) ?_
     refine SL.ok (by decide) (OK.eqUnt 104 (unitT (tyN p (i.gK / 16384))) (unitT (tyN p (i.gK % 128))) (by kernel_rfl)) ?_
     refine SL.r 105 (.bool (unEq (unitT (tyN p (i.gK / 16384))) (unitT (tyN p (i.gK % 128))))) ?_
     refine SL.r 4 (.bool (unEq (unitT (tyN p (i.gK / 16384))) (unitT (tyN p (i.gK % 128))))) ?_
     refine SL.done ?_
     refine TL.done (by kernel_rfl) ?_
     refine J.e 0 [.bool (unEq (unitT (tyN p (i.gK / 16384))) (unitT (tyN p (i.gK % 128))))] Tryz.func32 (hR _ _ ?_)
     exact ⟨congrArg Value.bool (named_one (by omega) (by omega)).symm, S20.nil⟩
    have fb6 := htj80.2 fk8
    have X4 : ∀ (tj106 : Bool) (w23 : World), ((tj106 = true → (i.gOp = 13 ∨ i.gOp = 14)) ∧ (tj106 = false → ¬ (i.gOp = 13 ∨ i.gOp = 14))) → Sep w [box b2 (insC i) 48, box b1 (prgC p) 28] w23 → J Tryz.prog 32 157 R K32_4 [(23, iv i.gOp), (8, iv (p.gTypes_n : Int)), (6, iv (i.gK / 128 % 128)), (5, iv (i.gK / 16384)), (3, pv b2), (2, pv b1), (106, .bool tj106)] w23 := by
     intro tj106 w23 htj106 S23
     refine J.b 0 [] [] [] 106 tj106 (fun fk11 => ?_) fun fk11 => ?_
     ·skip
      have fb7 := htj106.1 fk11
      refine J.r 2 [true] [] [] ?_
      by_cases fk12 : (i.gK / 16384) < (p.gTypes_n : Int)
      rotate_left
      ·skip
       refine J.drawStill S23 24 Tryz.mixed (by kernel_rfl) (by kernel_rfl) (by kernel_rfl) ?_
       intro w26 S26
       refine SL.r 109 (iv (i.gK / 16384)) ?_
       refine SL.r 110 (iv (p.gTypes_n : Int)) ?_
       refine SL.r 111 (.bool (decide ((i.gK / 16384) < (p.gTypes_n : Int)))) ?_
       refine SL.head (.bool false) (congrArg Value.bool (decide_eq_false fk12)) ?_
       refine SL.r 112 (.bool false) ?_
       refine SL.p (some 113) ?_
       refine SL.p (some 114) ?_
       refine SL.p (some 115) ?_
       refine SL.r 116 (.bool false) ?_
       refine SL.r 117 (.bool false) ?_
       refine SL.p (some 118) ?_
       refine SL.p (some 119) ?_
       refine SL.p (some 120) ?_
       refine SL.p (some 121) ?_
       refine SL.p (some 122) ?_
       refine SL.p (some 123) ?_
       refine SL.p (some 124) ?_
       refine SL.p (some 125) ?_
       refine SL.p (some 126) ?_
       refine SL.p (some 127) ?_
       refine SL.p (some 128) ?_
       refine SL.p (some 129) ?_
       refine SL.p (some 130) ?_
       refine SL.r 131 (.bool false) ?_
       refine SL.r 4 (.bool false) ?_
       refine SL.done ?_
       refine TL.done (by kernel_rfl) ?_
       refine J.e 0 [.bool false] Tryz.func32 (hR _ _ ?_)
       exact ⟨congrArg Value.bool (named_tyno (by omega) (by omega)).symm, S26.nil⟩
      by_cases fk13 : (i.gK / 128 % 128) < (p.gTypes_n : Int)
      rotate_left
      ·skip
       refine J.drawStill S23 24 Tryz.mixed (by kernel_rfl) (by kernel_rfl) (by kernel_rfl) ?_
       intro w25 S25
       refine SL.r 109 (iv (i.gK / 16384)) ?_
       refine SL.r 110 (iv (p.gTypes_n : Int)) ?_
       refine SL.r 111 (.bool (decide ((i.gK / 16384) < (p.gTypes_n : Int)))) ?_
       refine SL.head (.bool true) (congrArg Value.bool (decide_eq_true fk12)) ?_
       refine SL.r 112 (.bool true) ?_
       refine SL.r 113 (iv (i.gK / 128 % 128)) ?_
       refine SL.r 114 (iv (p.gTypes_n : Int)) ?_
       refine SL.r 115 (.bool (decide ((i.gK / 128 % 128) < (p.gTypes_n : Int)))) ?_
       refine SL.head (.bool false) (congrArg Value.bool (decide_eq_false fk13)) ?_
       refine SL.r 116 (.bool false) ?_
       refine SL.r 117 (.bool false) ?_
       refine SL.p (some 118) ?_
       refine SL.p (some 119) ?_
       refine SL.p (some 120) ?_
       refine SL.p (some 121) ?_
       refine SL.p (some 122) ?_
       refine SL.p (some 123) ?_
       refine SL.p (some 124) ?_
       refine SL.p (some 125) ?_
       refine SL.p (some 126) ?_
       refine SL.p (some 127) ?_
       refine SL.p (some 128) ?_
       refine SL.p (some 129) ?_
       refine SL.p (some 130) ?_
       refine SL.r 131 (.bool false) ?_
       refine SL.r 4 (.bool false) ?_
       refine SL.done ?_
       refine TL.done (by kernel_rfl) ?_
       refine J.e 0 [.bool false] Tryz.func32 (hR _ _ ?_)
       exact ⟨congrArg Value.bool (named_tyno (by omega) (by omega)).symm, S25.nil⟩
      obtain ⟨p6, hp6, hc6⟩ := q5.at fx0 (i.gK / 16384).toNat (by omega)
      have hel6 := getD_Q q6 fx0 (n := (i.gK / 16384).toNat) (by have := q5.len_eq; omega)
      obtain ⟨q76, q77, q78, q79, q80, q81, q82, q83, q84, _⟩ := id hel6
      obtain ⟨p7, hp7, hc7⟩ := q5.at fx0 (i.gK / 128 % 128).toNat (by omega)
      have hel7 := getD_Q q6 fx0 (n := (i.gK / 128 % 128).toNat) (by have := q5.len_eq; omega)
      obtain ⟨q85, q86, q87, q88, q89, q90, q91, q92, q93, _⟩ := id hel7
      refine J.drawStill S23 24 Tryz.mixed (by kernel_rfl) (by kernel_rfl) (by kernel_rfl) ?_
      intro w24 S24
      refine SL.r 109 (iv (i.gK / 16384)) ?_
      refine SL.r 110 (iv (p.gTypes_n : Int)) ?_
      refine SL.r 111 (.bool (decide ((i.gK / 16384) < (p.gTypes_n : Int)))) ?_
      refine SL.head (.bool true) (congrArg Value.bool (decide_eq_true fk12)) ?_
      refine SL.r 112 (.bool true) ?_
      refine SL.r 113 (iv (i.gK / 128 % 128)) ?_
      refine SL.r 114 (iv (p.gTypes_n : Int)) ?_
      refine SL.r 115 (.bool (decide ((i.gK / 128 % 128) < (p.gTypes_n : Int)))) ?_
      refine SL.head (.bool true) (congrArg Value.bool (decide_eq_true fk13)) ?_
      refine SL.r 116 (.bool true) ?_
      refine SL.r 117 (.bool true) ?_
      refine SL.r 118 (.pointer (some ⟨b1, 1, none⟩)) ?_
      refine SL.lb S24 1 rfl 119 (.slice p.gTypes_a p.gTypes_n p.gTypes_c) ?_
      refine SL.r 120 (iv (i.gK / 16384)) ?_
      refine SL.ok (by decide) (OK.index 121 23 10 p.gTypes_a p6 p.gTypes_n (i.gK / 16384).toNat (i.gK / 16384) (p6.add ((i.gK / 16384).toNat * 10)) (by kernel_rfl) (by kernel_rfl) hp6 (by omega) (by omega) rfl) ?_
      refine SL.r 122 (.pointer (some ((p6.add ((i.gK / 16384).toNat * 10)).add 5))) ?_
      refine SL.ok (by decide) (OK.ldCells 123 73 ((p6.add ((i.gK / 16384).toNat * 10)).add 5) (fuC (p.gTypes_l.getD (i.gK / 16384).toNat fx0)) (by kernel_rfl) (by kernel_rfl) (by kernel_rfl) (fun j_ v_ hj_ => by rw [addr_add_add]; exact ((fun j_ v_ hj_ => S24.cell (hc6 j_ v_ hj_))) (5 + j_) v_ (by rcases j_ with _ | _ | _ | _ | _ | j_ <;> first | exact hj_ | (cases hj_; done) | (simp at hj_; done)))) ?_
      refine SL.r 124 (.pointer (some ⟨b1, 1, none⟩)) ?_
      refine SL.lb S24 1 rfl 125 (.slice p.gTypes_a p.gTypes_n p.gTypes_c) ?_
      refine SL.r 126 (iv (i.gK / 128 % 128)) ?_
      refine SL.ok (by decide) (OK.index 127 23 10 p.gTypes_a p7 p.gTypes_n (i.gK / 128 % 128).toNat (i.gK / 128 % 128) (p7.add ((i.gK / 128 % 128).toNat * 10)) (by kernel_rfl) (by kernel_rfl) hp7 (by omega) (by omega) rfl) ?_
      refine SL.r 128 (.pointer (some ((p7.add ((i.gK / 128 % 128).toNat * 10)).add 5))) ?_
      refine SL.ok (by decide) (OK.ldCells 129 73 ((p7.add ((i.gK / 128 % 128).toNat * 10)).add 5) (fuC (p.gTypes_l.getD (i.gK / 128 % 128).toNat fx0)) (by kernel_rfl) (by kernel_rfl) (by kernel_rfl) (fun j_ v_ hj_ => by rw [addr_add_add]; exact ((fun j_ v_ hj_ => S24.cell (hc7 j_ v_ hj_))) (5 + j_) v_ (by rcases j_ with _ | _ | _ | _ | _ | j_ <;> first | exact hj_ | (cases hj_; done) | (simp at hj_; done)))) ?_
      refine SL.ok (by decide) (OK.eqUnt 130 (unitT (tyN p (i.gK / 16384))) (unitT (tyN p (i.gK / 128 % 128))) (by kernel_rfl)) ?_
      refine SL.r 131 (.bool (unEq (unitT (tyN p (i.gK / 16384))) (unitT (tyN p (i.gK / 128 % 128))))) ?_
      refine SL.r 4 (.bool (unEq (unitT (tyN p (i.gK / 16384))) (unitT (tyN p (i.gK / 128 % 128))))) ?_
      refine SL.done ?_
      refine TL.done (by kernel_rfl) ?_
      refine J.e 0 [.bool (unEq (unitT (tyN p (i.gK / 16384))) (unitT (tyN p (i.gK / 128 % 128))))] Tryz.func32 (hR _ _ ?_)
      exact ⟨congrArg Value.bool (named_cmp (by omega) (by omega)).symm, S24.nil⟩
     have fb8 := htj106.2 fk11
     refine J.c 6 [false] [] [] 132 (i.gOp = 20) (fun fk14 => ?_) fun fk14 => ?_
     ·skip
      refine J.lb 4 [true] [] [] S23 0 rfl 135 (iv i.gK) ?_
      refine J.lb 1 [] [] [] S23 1 rfl 137 (.slice p.gCurves_a p.gCurves_n p.gCurves_c) ?_
      refine J.e 4 [.bool (decide (i.gK < (p.gCurves_n : Int)))] Tryz.func32 (hR _ _ ?_)
      exact ⟨congrArg Value.bool (by unfold namedB; (repeat first | rw [if_pos (by omega)] | rw [if_neg (by omega)]); all_goals first | rfl | exact (decide_eq_true (by omega)).symm | exact (decide_eq_false (by omega)).symm), S23.nil⟩
     refine J.c 6 [false] [] [] 140 (i.gOp = 21) (fun fk15 => ?_) fun fk15 => ?_
     ·skip
      refine J.lb 4 [true] [] [] S23 0 rfl 143 (iv i.gK) ?_
      refine J.lb 1 [] [] [] S23 1 rfl 145 (.slice p.gMaps_a p.gMaps_n p.gMaps_c) ?_
      refine J.e 4 [.bool (decide (i.gK < (p.gMaps_n : Int)))] Tryz.func32 (hR _ _ ?_)
      exact ⟨congrArg Value.bool (by unfold namedB; (repeat first | rw [if_pos (by omega)] | rw [if_neg (by omega)]); all_goals first | rfl | exact (decide_eq_true (by omega)).symm | exact (decide_eq_false (by omega)).symm), S23.nil⟩
     refine J.c 6 [false] [] [] 148 (i.gOp = 22) (fun fk16 => ?_) fun fk16 => ?_
     ·skip
      refine J.lb 4 [true] [] [] S23 0 rfl 151 (iv i.gK) ?_
      refine J.h 1 [] [] [] 152 (iv (IntKind.wrap .i64 (Int.tdiv i.gK 32))) (iv (i.gK / 32)) (congrArg (Value.int .i64) (IntWalk.i64_quo _ _ (by omega))) ?_
      refine J.wi 1 [] [] [] 153 ((i.gK / 32) + 1) ?_
      refine J.lb 1 [] [] [] S23 1 rfl 155 (iv p.gCells) ?_
      refine J.e 3 [.bool (decide (((i.gK / 32) + 1) < p.gCells))] Tryz.func32 (hR _ _ ?_)
      exact ⟨congrArg Value.bool (by unfold namedB; (repeat first | rw [if_pos (by omega)] | rw [if_neg (by omega)]); all_goals first | rfl | exact (decide_eq_true (by omega)).symm | exact (decide_eq_false (by omega)).symm), S23.nil⟩
     refine J.e 7 [.bool true] Tryz.func32 (hR _ _ ?_)
     exact ⟨congrArg Value.bool (by unfold namedB; (repeat first | rw [if_pos (by omega)] | rw [if_neg (by omega)]); all_goals first | rfl | exact (decide_eq_true (by omega)).symm | exact (decide_eq_false (by omega)).symm), S23.nil⟩
    refine J.c 7 [false] [] [] 106 (i.gOp = 13) (fun fk17 => ?_) fun fk17 => ?_
    ·skip
     exact J.t 2 (X4 true w19 (⟨fun h_ => by first | (cases h_; done) | (have h2_ := of_decide_eq_true h_; omega) | (have h2_ := beq_iff_eq.1 h_; omega) | omega, fun h_ => by first | (cases h_; done) | (have h2_ := of_decide_eq_false h_; omega) | (have h2_ := beq_eq_false_iff_ne.1 h_; omega) | omega⟩) S19)
    exact J.t 5 (X4 (i.gOp == 14) w19 (⟨fun h_ => by first | (cases h_; done) | (have h2_ := of_decide_eq_true h_; omega) | (have h2_ := beq_iff_eq.1 h_; omega) | omega, fun h_ => by first | (cases h_; done) | (have h2_ := of_decide_eq_false h_; omega) | (have h2_ := beq_eq_false_iff_ne.1 h_; omega) | omega⟩) S19)
   refine J.c 7 [false] [] [] 80 (i.gOp = 9) (fun fk18 => ?_) fun fk18 => ?_
   ·skip
    exact J.t 2 (X3 true w5 (⟨fun h_ => by first | (cases h_; done) | (have h2_ := of_decide_eq_true h_; omega) | (have h2_ := beq_iff_eq.1 h_; omega) | omega, fun h_ => by first | (cases h_; done) | (have h2_ := of_decide_eq_false h_; omega) | (have h2_ := beq_eq_false_iff_ne.1 h_; omega) | omega⟩) S5)
   exact J.t 5 (X3 (i.gOp == 10) w5 (⟨fun h_ => by first | (cases h_; done) | (have h2_ := of_decide_eq_true h_; omega) | (have h2_ := beq_iff_eq.1 h_; omega) | omega, fun h_ => by first | (cases h_; done) | (have h2_ := of_decide_eq_false h_; omega) | (have h2_ := beq_eq_false_iff_ne.1 h_; omega) | omega⟩) S5)
  refine J.c 7 [false] [] [] 32 (i.gOp = 5) (fun fk19 => ?_) fun fk19 => ?_
  ·skip
   exact J.t 2 (X2 true w4 (⟨fun h_ => by first | (cases h_; done) | (have h2_ := of_decide_eq_true h_; omega) | (have h2_ := beq_iff_eq.1 h_; omega) | omega, fun h_ => by first | (cases h_; done) | (have h2_ := of_decide_eq_false h_; omega) | (have h2_ := beq_eq_false_iff_ne.1 h_; omega) | omega⟩) S4)
  refine J.c 6 [false] [] [32] 32 (i.gOp = 6) (fun fk20 => ?_) fun fk20 => ?_
  ·skip
   exact J.t 2 (X2 true w4 (⟨fun h_ => by first | (cases h_; done) | (have h2_ := of_decide_eq_true h_; omega) | (have h2_ := beq_iff_eq.1 h_; omega) | omega, fun h_ => by first | (cases h_; done) | (have h2_ := of_decide_eq_false h_; omega) | (have h2_ := beq_eq_false_iff_ne.1 h_; omega) | omega⟩) S4)
  refine J.c 6 [false] [] [32] 32 (i.gOp = 7) (fun fk21 => ?_) fun fk21 => ?_
  ·skip
   exact J.t 2 (X2 true w4 (⟨fun h_ => by first | (cases h_; done) | (have h2_ := of_decide_eq_true h_; omega) | (have h2_ := beq_iff_eq.1 h_; omega) | omega, fun h_ => by first | (cases h_; done) | (have h2_ := of_decide_eq_false h_; omega) | (have h2_ := beq_eq_false_iff_ne.1 h_; omega) | omega⟩) S4)
  exact J.t 5 (X2 (i.gOp == 8) w4 (⟨fun h_ => by first | (cases h_; done) | (have h2_ := of_decide_eq_true h_; omega) | (have h2_ := beq_iff_eq.1 h_; omega) | omega, fun h_ => by first | (cases h_; done) | (have h2_ := of_decide_eq_false h_; omega) | (have h2_ := beq_eq_false_iff_ne.1 h_; omega) | omega⟩) S4)
 refine J.c 8 [] [] [] 24 (i.gOp = 2) (fun fk22 => ?_) fun fk22 => ?_
 ·skip
  exact J.t 2 (X1 true w3 (⟨fun h_ => by first | (cases h_; done) | (have h2_ := of_decide_eq_true h_; omega) | (have h2_ := beq_iff_eq.1 h_; omega) | omega, fun h_ => by first | (cases h_; done) | (have h2_ := of_decide_eq_false h_; omega) | (have h2_ := beq_eq_false_iff_ne.1 h_; omega) | omega⟩) S3)
 exact J.t 5 (X1 (i.gOp == 3) w3 (⟨fun h_ => by first | (cases h_; done) | (have h2_ := of_decide_eq_true h_; omega) | (have h2_ := beq_iff_eq.1 h_; omega) | omega, fun h_ => by first | (cases h_; done) | (have h2_ := of_decide_eq_false h_; omega) | (have h2_ := beq_eq_false_iff_ne.1 h_; omega) | omega⟩) S3)

end
end Go.Proofs.YtaoolgcddapegaaGreatDoor

