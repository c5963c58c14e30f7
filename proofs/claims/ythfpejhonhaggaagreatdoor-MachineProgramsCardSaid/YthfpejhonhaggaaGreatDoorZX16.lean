/- Walks of functions of this seat, printed by a program over the engine. Conditions: as each theorem says. -/
import Derived.Test.YthfpejhonhaggaaGreatDoorZX15
namespace Go.Proofs.YthfpejhonhaggaaGreatDoor
open Go.Eng Go.RowKit
set_option linter.unusedSimpArgs false
set_option linter.unusedVariables false
theorem hb26 : HasBody Tryz.prog 26 := fun _ _ => by kernel_rfl
noncomputable def K26_0 : List Item := adv 2 [] (bodyOf Tryz.f26)
noncomputable def K26_1 : List Item := adv 9 [] (popK K26_0)
noncomputable def K26_2 : List Item := adv 5 [true] K26_1
noncomputable def K26_3 : List Item := adv 9 [false] K26_1
noncomputable def K26_4 : List Item := adv 8 [] K26_3
noncomputable def K26_5 : List Item := adv 5 [true] K26_4
noncomputable def K26_6 : List Item := adv 5 [true] (rRest K26_5)
noncomputable def K26_7 : List Item := adv 5 [true] (rRest K26_5)
noncomputable def K26_8 : List Item := adv 6 [false] (rRest K26_5)
noncomputable def K26_9 : List Item := adv 6 [false] K26_4
set_option maxRecDepth 20000 in
set_option maxHeartbeats 20000000 in
theorem rcells_any (p : Prg) (la : Option Addr) (len cap : Nat) (l : List Int) (w : World) (hI : Ints w la len l) : Ret Tryz.prog 26 #[.agg (prgA p), .slice la len cap] w (fun v w' => v = .bool (cellsL p.gCells l) ∧ Sep w [] w') := by
 have S0 := Sep.refl w
 refine Ret.named fun R hR => ?_
 refine Ret.of_J (N := 29) [(0, .agg (prgA p)), (1, .slice la len cap)] Tryz.func26 rfl rfl (Nat.le_of_ble_eq_true (by kernel_rfl)) (by kernel_rfl) ?_
 have hll := hI.len_eq
 refine J.run 2 K26_0 [(0, .agg (prgA p)), (1, .slice la len cap)] w (by kernel_rfl) ?_
 refine J.new S0 2 (prgC p) 28 (by kernel_rfl) ?_
 intro b1 w1 S1
 refine J.run 9 K26_1 [(8, .bool (decide ((len : Int) > 1000))), (2, pv b1), (1, .slice la len cap)] w1 (by kernel_rfl) ?_
 by_cases fk1 : (len : Int) > 1000
 ·skip
  refine J.head (.bool true) (congrArg Value.bool (decide_eq_true fk1)) ?_
  refine J.run 5 K26_2 [(4, .bool false)] w1 (by kernel_rfl) ?_
  refine J.ret Tryz.f26 [.bool false] Tryz.func26 ⟨by kernel_rfl, trivial⟩ ?_
  refine hR _ _ ?_
  exact ⟨congrArg Value.bool (cellsL_long (by omega)).symm, S1.nil⟩
 ·skip
  refine J.head (.bool false) (congrArg Value.bool (decide_eq_false fk1)) ?_
  refine J.run 9 K26_3 [(5, iv 0), (2, pv b1), (1, .slice la len cap)] w1 (by kernel_rfl) ?_
  have L26_1 : ∀ (mm_ : Nat) (i : Int) (w2 : World), (0 ≤ i) → (i ≤ (len : Int)) → (∀ j, j < (i).toNat → 0 ≤ l.getD j 0 ∧ l.getD j 0 < p.gCells) → Sep w [box b1 (prgC p) 28] w2 → ((len : Int) - i).toNat = mm_ → J Tryz.prog 26 29 R K26_3 [(5, iv i), (2, pv b1), (1, .slice la len cap)] w2 := by
   intro mm1
   induction mm1 using Nat.strongRecOn with
   | _ mm1 ih1 =>
   intro i w2 h0 h1 hq S2 hm1
   refine J.run 8 K26_4 [(12, .bool (decide (i < (len : Int)))), (5, iv i), (2, pv b1), (1, .slice la len cap)] w2 (by kernel_rfl) ?_
   by_cases fk2 : i < (len : Int)
   ·skip
    refine J.head (.bool true) (congrArg Value.bool (decide_eq_true fk2)) ?_
    refine J.run 5 K26_5 [(5, iv i), (2, pv b1), (1, .slice la len cap)] w2 (by kernel_rfl) ?_
    by_cases fk3 : (l.getD (i).toNat 0) < 0
    ·skip
     obtain ⟨p1, hp1, hc1⟩ := hI.at 0 (i).toNat (by omega)
     refine J.drawStill S2 14 Tryz.mixed (by kernel_rfl) (by kernel_rfl) (by kernel_rfl) ?_
     intro w3 S3
     refine SL.ok (by decide) (OK.run 15 (.slice la len cap) (by kernel_rfl)) ?_
     refine SL.ok (by decide) (OK.run 16 (iv i) (by kernel_rfl)) ?_
     refine SL.ok (by decide) (OK.index 17 26 1 la p1 len (i).toNat i (p1.add (i).toNat) (by kernel_rfl) (by kernel_rfl) hp1 (by omega) (by omega) (by rw [Nat.mul_one])) ?_
     refine SL.ok (by decide) (OK.ldCell 18 3 (p1.add (i).toNat) (iv (l.getD (i).toNat 0)) (by kernel_rfl) (by kernel_rfl) (S3.cell hc1)) ?_
     refine SL.ok (by decide) (OK.run 19 (.bool (decide ((l.getD (i).toNat 0) < 0))) (by kernel_rfl)) ?_
     refine SL.head (.bool true) (congrArg Value.bool (decide_eq_true fk3)) ?_
     refine SL.ok (by decide) (OK.run 20 (.bool true) (by kernel_rfl)) ?_
     refine SL.pass (d := some 21) (by decide) (by kernel_rfl) ?_
     refine SL.pass (d := some 22) (by decide) (by kernel_rfl) ?_
     refine SL.pass (d := some 23) (by decide) (by kernel_rfl) ?_
     refine SL.pass (d := some 24) (by decide) (by kernel_rfl) ?_
     refine SL.pass (d := some 25) (by decide) (by kernel_rfl) ?_
     refine SL.pass (d := some 26) (by decide) (by kernel_rfl) ?_
     refine SL.pass (d := some 27) (by decide) (by kernel_rfl) ?_
     refine SL.ok (by decide) (OK.run 28 (.bool true) (by kernel_rfl)) ?_
     refine SL.done ?_
     refine TL.done (by kernel_rfl) ?_
     refine J.run 0 (rRest K26_5) [(28, .bool true), (5, iv i), (2, pv b1), (1, .slice la len cap)] w3 (by kernel_rfl) ?_
     refine J.run 5 K26_6 [(4, .bool false)] w3 (by kernel_rfl) ?_
     refine J.ret Tryz.f26 [.bool false] Tryz.func26 ⟨by kernel_rfl, trivial⟩ ?_
     refine hR _ _ ?_
     exact ⟨congrArg Value.bool (cellsL_bad (j := i.toNat) (by omega) (by omega)).symm, S3.nil⟩
    ·skip
     obtain ⟨p2, hp2, hc2⟩ := hI.at 0 (i).toNat (by omega)
     refine J.drawStill S2 14 Tryz.mixed (by kernel_rfl) (by kernel_rfl) (by kernel_rfl) ?_
     intro w4 S4
     refine SL.ok (by decide) (OK.run 15 (.slice la len cap) (by kernel_rfl)) ?_
     refine SL.ok (by decide) (OK.run 16 (iv i) (by kernel_rfl)) ?_
     refine SL.ok (by decide) (OK.index 17 26 1 la p2 len (i).toNat i (p2.add (i).toNat) (by kernel_rfl) (by kernel_rfl) hp2 (by omega) (by omega) (by rw [Nat.mul_one])) ?_
     refine SL.ok (by decide) (OK.ldCell 18 3 (p2.add (i).toNat) (iv (l.getD (i).toNat 0)) (by kernel_rfl) (by kernel_rfl) (S4.cell hc2)) ?_
     refine SL.ok (by decide) (OK.run 19 (.bool (decide ((l.getD (i).toNat 0) < 0))) (by kernel_rfl)) ?_
     refine SL.head (.bool false) (congrArg Value.bool (decide_eq_false fk3)) ?_
     refine SL.ok (by decide) (OK.run 20 (.bool false) (by kernel_rfl)) ?_
     refine SL.ok (by decide) (OK.run 21 (.slice la len cap) (by kernel_rfl)) ?_
     refine SL.ok (by decide) (OK.run 22 (iv i) (by kernel_rfl)) ?_
     refine SL.ok (by decide) (OK.index 23 26 1 la p2 len (i).toNat i (p2.add (i).toNat) (by kernel_rfl) (by kernel_rfl) hp2 (by omega) (by omega) (by rw [Nat.mul_one])) ?_
     refine SL.ok (by decide) (OK.ldCell 24 3 (p2.add (i).toNat) (iv (l.getD (i).toNat 0)) (by kernel_rfl) (by kernel_rfl) (S4.cell hc2)) ?_
     refine SL.ok (by decide) (OK.run 25 (.pointer (some ⟨b1, 4, none⟩)) (by kernel_rfl)) ?_
     refine SL.ok (by decide) (OK.ldBox S4 0 26 3 4 (iv p.gCells) (by kernel_rfl) rfl (by kernel_rfl)) ?_
     refine SL.ok (by decide) (OK.run 27 (.bool (decide ((l.getD (i).toNat 0) ≥ p.gCells))) (by kernel_rfl)) ?_
     refine SL.ok (by decide) (OK.run 28 (.bool (decide ((l.getD (i).toNat 0) ≥ p.gCells))) (by kernel_rfl)) ?_
     refine SL.done ?_
     refine TL.done (by kernel_rfl) ?_
     refine J.run 0 (rRest K26_5) [(28, .bool (decide ((l.getD (i).toNat 0) ≥ p.gCells))), (5, iv i), (2, pv b1), (1, .slice la len cap)] w4 (by kernel_rfl) ?_
     by_cases fk4 : (l.getD (i).toNat 0) ≥ p.gCells
     ·skip
      refine J.head (.bool true) (congrArg Value.bool (decide_eq_true fk4)) ?_
      refine J.run 5 K26_7 [(4, .bool false)] w4 (by kernel_rfl) ?_
      refine J.ret Tryz.f26 [.bool false] Tryz.func26 ⟨by kernel_rfl, trivial⟩ ?_
      refine hR _ _ ?_
      exact ⟨congrArg Value.bool (cellsL_bad (j := i.toNat) (by omega) (by omega)).symm, S4.nil⟩
     ·skip
      refine J.head (.bool false) (congrArg Value.bool (decide_eq_false fk4)) ?_
      refine J.run 6 K26_8 [(14, iv (IntKind.wrap .i64 (i + 1))), (2, pv b1), (1, .slice la len cap)] w4 (by kernel_rfl) ?_
      refine J.head (iv (i + 1)) (congrArg (Value.int .i64) (IntWalk.i64_in _ (by omega))) ?_
      refine J.run 3 K26_3 [(5, iv (i + 1)), (2, pv b1), (1, .slice la len cap)] w4 (by kernel_rfl) ?_
      refine J.run 0 K26_3 [(5, iv (i + 1)), (2, pv b1), (1, .slice la len cap)] w4 (by kernel_rfl) ?_
      exact ih1 _ (show ((len : Int) - (i + 1)).toNat < mm1 from by omega) (i + 1) w4 (by omega) (by omega) (all_step (q := fun j => 0 ≤ l.getD j 0 ∧ l.getD j 0 < p.gCells) h0 hq (by omega)) S4 rfl
   ·skip
    refine J.head (.bool false) (congrArg Value.bool (decide_eq_false fk2)) ?_
    refine J.run 6 K26_9 [(4, .bool true)] w2 (by kernel_rfl) ?_
    refine J.ret Tryz.f26 [.bool true] Tryz.func26 ⟨by kernel_rfl, trivial⟩ ?_
    refine hR _ _ ?_
    exact ⟨congrArg Value.bool (cellsL_yes (by omega) fun j hj => hq j (by omega)).symm, S2.nil⟩
  exact L26_1 _ 0 w1 (by omega) (by omega) (by intro j hj; simp at hj) S1 rfl

theorem hb25 : HasBody Tryz.prog 25 := fun _ _ => by kernel_rfl
noncomputable def K25_0 : List Item := adv 2 [] (bodyOf Tryz.f25)
noncomputable def K25_1 : List Item := adv 5 [] (popK (popK K25_0))
noncomputable def K25_2 : List Item := adv 1 [] (popK K25_1)
noncomputable def K25_3 : List Item := adv 11 [] (popK K25_2)
noncomputable def K25_4 : List Item := adv 7 [] (popK K25_3)
noncomputable def K25_5 : List Item := adv 8 [] (popK K25_4)
noncomputable def K25_6 : List Item := List.drop 1 K25_5
noncomputable def K25_7 : List Item := adv 4 [true] K25_6
noncomputable def K25_8 : List Item := adv 1 [] (popK K25_7)
noncomputable def K25_9 : List Item := adv 3 [] (popK K25_8)
noncomputable def K25_10 : List Item := adv 7 [false] K25_6
noncomputable def K25_11 : List Item := List.drop 1 K25_10
noncomputable def K25_12 : List Item := adv 8 [true] K25_11
noncomputable def K25_13 : List Item := adv 15 [true] K25_12
noncomputable def K25_14 : List Item := adv 5 [] K25_12
noncomputable def K25_15 : List Item := adv 10 [true] K25_14
noncomputable def K25_16 : List Item := adv 5 [] K25_14
noncomputable def K25_17 : List Item := adv 5 [true] K25_16
noncomputable def K25_18 : List Item := adv 3 [false] K25_16
noncomputable def K25_19 : List Item := adv 1 [] (rRest K25_18)
noncomputable def K25_20 : List Item := adv 7 [false] K25_11
noncomputable def K25_21 : List Item := List.drop 1 K25_20
noncomputable def K25_22 : List Item := adv 2 [true] K25_21
noncomputable def K25_23 : List Item := adv 7 [false] K25_21
noncomputable def K25_24 : List Item := List.drop 1 K25_23
noncomputable def K25_25 : List Item := adv 2 [true] K25_24
noncomputable def K25_26 : List Item := adv 6 [false] K25_24
noncomputable def K25_27 : List Item := adv 4 [true] K25_26
noncomputable def K25_28 : List Item := adv 1 [] (popK K25_27)
noncomputable def K25_29 : List Item := adv 4 [] (popK K25_28)
noncomputable def K25_30 : List Item := adv 6 [false] K25_26
noncomputable def K25_31 : List Item := adv 4 [true] K25_30
noncomputable def K25_32 : List Item := adv 1 [] (popK K25_31)
noncomputable def K25_33 : List Item := adv 4 [] (popK K25_32)
noncomputable def K25_34 : List Item := adv 6 [false] K25_30
noncomputable def K25_35 : List Item := adv 4 [true] K25_34
noncomputable def K25_36 : List Item := adv 1 [] (popK K25_35)
noncomputable def K25_37 : List Item := adv 1 [] K25_36
noncomputable def K25_38 : List Item := adv 1 [] K25_37
noncomputable def K25_39 : List Item := adv 3 [] (popK K25_38)
noncomputable def K25_40 : List Item := adv 7 [false] K25_34
noncomputable def K25_41 : List Item := adv 6 [false] K25_10
noncomputable def K25_42 : List Item := adv 6 [false] K25_41
noncomputable def K25_43 : List Item := adv 1 [] (popK K25_1)
noncomputable def K25_44 : List Item := adv 11 [] (popK K25_43)
noncomputable def K25_45 : List Item := adv 7 [] (popK K25_44)
noncomputable def K25_46 : List Item := adv 8 [] (popK K25_45)
noncomputable def K25_47 : List Item := adv 5 [false] K25_46
noncomputable def K25_48 : List Item := adv 7 [false] K25_47
noncomputable def K25_49 : List Item := adv 6 [false] K25_48
noncomputable def K25_50 : List Item := adv 6 [false] K25_49
noncomputable def K25_51 : List Item := adv 5 [false] K25_50
noncomputable def K25_52 : List Item := adv 7 [false] K25_51
noncomputable def K25_53 : List Item := adv 5 [false] K25_52
noncomputable def K25_54 : List Item := adv 7 [false] K25_53
noncomputable def K25_55 : List Item := adv 5 [false] K25_54
noncomputable def K25_56 : List Item := adv 6 [false] K25_55
noncomputable def K25_57 : List Item := adv 6 [false] K25_56
noncomputable def K25_58 : List Item := adv 6 [false] K25_57
noncomputable def K25_59 : List Item := adv 7 [false] K25_58
set_option maxRecDepth 20000 in
set_option maxHeartbeats 20000000 in
theorem rnamed_any (p : Prg) (i : Ins) (w : World) (hp : prgQ w p) (hi : insQ w i) (hfm : formB i = true) : Ret Tryz.prog 25 #[.agg (prgA p), .agg (insA i)] w (fun v w' => v = .bool (namedB p i) ∧ Sep w [] w') := by
 have S0 := Sep.refl w
 refine Ret.named fun R hR => ?_
 refine Ret.of_J (N := 157) [(0, .agg (prgA p)), (1, .agg (insA i))] Tryz.func25 rfl rfl (Nat.le_of_ble_eq_true (by kernel_rfl)) (by kernel_rfl) ?_
 obtain ⟨q1, q2, q3, q4, q5, q6, q7, q8, q9, q10, q11, q12, q13, q14, q15, q16, q17, q18, q19, q20, q21, q22, q23, q24, q25, _⟩ := id hp
 have ql1 := q2.len_eq
 have ql2 := q5.len_eq
 have ql3 := q8.len_eq
 have ql4 := q11.len_eq
 have ql5 := q15.len_eq
 have ql6 := q18.len_eq
 have ql7 := q21.len_eq
 have ql8 := q24.len_eq
 obtain ⟨q26, q27, q28, q29, q30, _⟩ := id hi
 have hfp := formB_iff.1 hfm
 refine J.run 2 K25_0 [(0, .agg (prgA p)), (1, .agg (insA i))] w (by kernel_rfl) ?_
 refine J.new S0 2 (prgC p) 28 (by kernel_rfl) ?_
 intro b1 w1 S1
 refine J.new S1 3 (insC i) 44 (by kernel_rfl) ?_
 intro b2 w2 S2
 refine J.run 5 K25_1 [(12, .pointer (some ⟨b2, 4, none⟩)), (3, pv b2), (2, pv b1)] w2 (by kernel_rfl) ?_
 refine J.ok (OK.ldBox S2 0 13 3 4 (iv i.gK) (by kernel_rfl) rfl (by kernel_rfl)) ?_
 by_cases fk1 : i.gK ≥ 0
 ·skip
  refine J.run 1 K25_2 [(14, iv (if 0 > i.gK then 0 else i.gK)), (3, pv b2), (2, pv b1)] w2 (by kernel_rfl) ?_
  refine J.head (iv i.gK) (congrArg (Value.int .i64) (by omega)) ?_
  refine J.callF 15 61 #[iv i.gK] hb61 (by kernel_rfl) (rtypes_any i.gK _ (by omega)) ?_
  rintro _ w3 ⟨rfl, T1⟩
  have S3 : Sep w [box b2 (insC i) 44, box b1 (prgC p) 28] w3 := S2.trans T1
  clear T1 S2
  refine J.run 11 K25_3 [(19, .pointer (some ⟨b1, 1, none⟩)), (7, iv (i.gK % 128)), (6, iv (i.gK / 128 % 128)), (5, iv (i.gK / 16384)), (3, pv b2), (2, pv b1)] w3 (by kernel_rfl) ?_
  refine J.ok (OK.ldBox S3 1 20 23 1 (.slice p.gTypes_a p.gTypes_n p.gTypes_c) (by kernel_rfl) rfl (by kernel_rfl)) ?_
  refine J.run 7 K25_4 [(22, pv b2), (8, iv (p.gTypes_n : Int)), (7, iv (i.gK % 128)), (6, iv (i.gK / 128 % 128)), (5, iv (i.gK / 16384)), (3, pv b2), (2, pv b1)] w3 (by kernel_rfl) ?_
  refine J.ok (OK.ldBox S3 0 23 3 0 (iv i.gOp) (by kernel_rfl) rfl (by kernel_rfl)) ?_
  refine J.run 8 K25_5 [(24, .bool (i.gOp == 2)), (23, iv i.gOp), (8, iv (p.gTypes_n : Int)), (7, iv (i.gK % 128)), (6, iv (i.gK / 128 % 128)), (5, iv (i.gK / 16384)), (3, pv b2), (2, pv b1)] w3 (by kernel_rfl) ?_
  have X1 : ∀ (tj24 : Bool) (w4 : World), ((tj24 = true → (i.gOp = 2 ∨ i.gOp = 3)) ∧ (tj24 = false → ¬ (i.gOp = 2 ∨ i.gOp = 3))) → Sep w [box b2 (insC i) 44, box b1 (prgC p) 28] w4 → J Tryz.prog 25 157 R K25_6 [(23, iv i.gOp), (8, iv (p.gTypes_n : Int)), (7, iv (i.gK % 128)), (6, iv (i.gK / 128 % 128)), (5, iv (i.gK / 16384)), (3, pv b2), (2, pv b1), (24, .bool tj24)] w4 := by
   intro tj24 w4 htj24 S4
   refine J.run 0 K25_6 [(24, .bool tj24), (23, iv i.gOp), (8, iv (p.gTypes_n : Int)), (7, iv (i.gK % 128)), (6, iv (i.gK / 128 % 128)), (5, iv (i.gK / 16384)), (3, pv b2), (2, pv b1)] w4 (by kernel_rfl) ?_
   rcases Bool.eq_false_or_eq_true tj24 with fk2 | fk2
   ·skip
    refine J.head (.bool true) (congrArg Value.bool fk2) ?_
    have fb1 := htj24.1 fk2
    refine J.run 4 K25_7 [(27, .pointer (some ⟨b2, 4, none⟩)), (2, pv b1)] w4 (by kernel_rfl) ?_
    refine J.ok (OK.ldBox S4 0 28 3 4 (iv i.gK) (by kernel_rfl) rfl (by kernel_rfl)) ?_
    refine J.run 1 K25_8 [(29, .pointer (some ⟨b1, 4, none⟩)), (28, iv i.gK)] w4 (by kernel_rfl) ?_
    refine J.ok (OK.ldBox S4 1 30 3 4 (iv p.gCells) (by kernel_rfl) rfl (by kernel_rfl)) ?_
    refine J.run 3 K25_9 [(4, .bool (decide (i.gK < p.gCells)))] w4 (by kernel_rfl) ?_
    refine J.ret Tryz.f25 [.bool (decide (i.gK < p.gCells))] Tryz.func25 ⟨by kernel_rfl, trivial⟩ ?_
    refine hR _ _ ?_
    exact ⟨congrArg Value.bool (by unfold namedB; (repeat first | rw [if_pos (by omega)] | rw [if_neg (by omega)]); all_goals first | rfl | exact (decide_eq_true (by omega)).symm | exact (decide_eq_false (by omega)).symm), S4.nil⟩
   ·skip
    refine J.head (.bool false) (congrArg Value.bool fk2) ?_
    have fb2 := htj24.2 fk2
    refine J.run 7 K25_10 [(32, .bool (i.gOp == 5)), (23, iv i.gOp), (8, iv (p.gTypes_n : Int)), (7, iv (i.gK % 128)), (6, iv (i.gK / 128 % 128)), (5, iv (i.gK / 16384)), (3, pv b2), (2, pv b1)] w4 (by kernel_rfl) ?_
    have X2 : ∀ (tj32 : Bool) (w5 : World), ((tj32 = true → (i.gOp = 5 ∨ i.gOp = 6 ∨ i.gOp = 7 ∨ i.gOp = 8)) ∧ (tj32 = false → ¬ (i.gOp = 5 ∨ i.gOp = 6 ∨ i.gOp = 7 ∨ i.gOp = 8))) → Sep w [box b2 (insC i) 44, box b1 (prgC p) 28] w5 → J Tryz.prog 25 157 R K25_11 [(23, iv i.gOp), (8, iv (p.gTypes_n : Int)), (7, iv (i.gK % 128)), (6, iv (i.gK / 128 % 128)), (5, iv (i.gK / 16384)), (3, pv b2), (2, pv b1), (32, .bool tj32)] w5 := by
     intro tj32 w5 htj32 S5
     refine J.run 0 K25_11 [(32, .bool tj32), (23, iv i.gOp), (8, iv (p.gTypes_n : Int)), (7, iv (i.gK % 128)), (6, iv (i.gK / 128 % 128)), (5, iv (i.gK / 16384)), (3, pv b2), (2, pv b1)] w5 (by kernel_rfl) ?_
     rcases Bool.eq_false_or_eq_true tj32 with fk3 | fk3
     ·skip
      refine J.head (.bool true) (congrArg Value.bool fk3) ?_
      have fb3 := htj32.1 fk3
      refine J.run 8 K25_12 [(40, .bool (decide ((i.gK / 16384) ≥ (p.gTypes_n : Int)))), (8, iv (p.gTypes_n : Int)), (7, iv (i.gK % 128)), (6, iv (i.gK / 128 % 128)), (5, iv (i.gK / 16384)), (3, pv b2), (2, pv b1)] w5 (by kernel_rfl) ?_
      by_cases fk4 : (i.gK / 16384) ≥ (p.gTypes_n : Int)
      ·skip
       refine J.head (.bool true) (congrArg Value.bool (decide_eq_true fk4)) ?_
       refine J.run 15 K25_13 [(4, .bool false)] w5 (by kernel_rfl) ?_
       refine J.ret Tryz.f25 [.bool false] Tryz.func25 ⟨by kernel_rfl, trivial⟩ ?_
       refine hR _ _ ?_
       exact ⟨congrArg Value.bool (by unfold namedB; (repeat first | rw [if_pos (by omega)] | rw [if_neg (by omega)]); rw [show tyOK p i.gOp i.gK = false from decide_eq_false (by omega)]; rfl), S5.nil⟩
      ·skip
       refine J.head (.bool false) (congrArg Value.bool (decide_eq_false fk4)) ?_
       refine J.run 5 K25_14 [(45, .bool (decide ((i.gK / 128 % 128) ≥ (p.gTypes_n : Int)))), (8, iv (p.gTypes_n : Int)), (7, iv (i.gK % 128)), (6, iv (i.gK / 128 % 128)), (5, iv (i.gK / 16384)), (3, pv b2), (2, pv b1)] w5 (by kernel_rfl) ?_
       by_cases fk5 : (i.gK / 128 % 128) ≥ (p.gTypes_n : Int)
       ·skip
        refine J.head (.bool true) (congrArg Value.bool (decide_eq_true fk5)) ?_
        refine J.run 10 K25_15 [(4, .bool false)] w5 (by kernel_rfl) ?_
        refine J.ret Tryz.f25 [.bool false] Tryz.func25 ⟨by kernel_rfl, trivial⟩ ?_
        refine hR _ _ ?_
        exact ⟨congrArg Value.bool (by unfold namedB; (repeat first | rw [if_pos (by omega)] | rw [if_neg (by omega)]); rw [show tyOK p i.gOp i.gK = false from decide_eq_false (by omega)]; rfl), S5.nil⟩
       ·skip
        refine J.head (.bool false) (congrArg Value.bool (decide_eq_false fk5)) ?_
        refine J.run 5 K25_16 [(49, .bool (decide ((i.gK % 128) ≥ (p.gTypes_n : Int)))), (7, iv (i.gK % 128)), (6, iv (i.gK / 128 % 128)), (5, iv (i.gK / 16384)), (3, pv b2), (2, pv b1)] w5 (by kernel_rfl) ?_
        by_cases fk6 : (i.gK % 128) ≥ (p.gTypes_n : Int)
        ·skip
         refine J.head (.bool true) (congrArg Value.bool (decide_eq_true fk6)) ?_
         refine J.run 5 K25_17 [(4, .bool false)] w5 (by kernel_rfl) ?_
         refine J.ret Tryz.f25 [.bool false] Tryz.func25 ⟨by kernel_rfl, trivial⟩ ?_
         refine hR _ _ ?_
         exact ⟨congrArg Value.bool (by unfold namedB; (repeat first | rw [if_pos (by omega)] | rw [if_neg (by omega)]); rw [show tyOK p i.gOp i.gK = false from decide_eq_false (by omega)]; rfl), S5.nil⟩
        ·skip
         refine J.head (.bool false) (congrArg Value.bool (decide_eq_false fk6)) ?_
         refine J.run 3 K25_18 [(7, iv (i.gK % 128)), (6, iv (i.gK / 128 % 128)), (5, iv (i.gK / 16384)), (3, pv b2), (2, pv b1)] w5 (by kernel_rfl) ?_
         obtain ⟨p1, hp1, hc1⟩ := q5.at fx0 (i.gK / 16384).toNat (by omega)
         have hel1 := getD_Q q6 fx0 (n := (i.gK / 16384).toNat) (by have := q5.len_eq; omega)
         obtain ⟨q31, q32, q33, q34, q35, q36, q37, q38, q39, _⟩ := id hel1
         obtain ⟨p2, hp2, hc2⟩ := q5.at fx0 (i.gK / 128 % 128).toNat (by omega)
         have hel2 := getD_Q q6 fx0 (n := (i.gK / 128 % 128).toNat) (by have := q5.len_eq; omega)
         obtain ⟨q40, q41, q42, q43, q44, q45, q46, q47, q48, _⟩ := id hel2
         have W1 : ∀ (bd19 : Nat) (w6 : World), Sep w [box bd19 (untC (unRX (i.gOp - 4) (unitT (tyN p (i.gK / 16384))) (unitT (tyN p (i.gK / 128 % 128))))) 60, box b2 (insC i) 44, box b1 (prgC p) 28] w6 → WA Tryz.prog 25 157 R K25_18 (fun w_ => Sep w [box b2 (insC i) 44, box b1 (prgC p) 28] w_) 0 #[true, true, true, true, true, true, true, true, true, true, true, true, true, true, true, true, true, true, true, true, true, true] [(2, pv b1), (7, iv (i.gK % 128)), (9, pv bd19), (10, .bool (unRB (i.gOp - 4) (unitT (tyN p (i.gK / 16384))) (unitT (tyN p (i.gK / 128 % 128)))))] w6 := by
          intro bd19 w6 S6
          refine WA.done (by kernel_rfl) ?_
          refine J.run 0 (rRest K25_18) [(2, pv b1), (7, iv (i.gK % 128)), (9, pv bd19), (10, .bool (unRB (i.gOp - 4) (unitT (tyN p (i.gK / 16384))) (unitT (tyN p (i.gK / 128 % 128)))))] w6 (by kernel_rfl) ?_
          refine J.run 1 K25_19 [(2, pv b1), (7, iv (i.gK % 128)), (9, pv bd19), (10, .bool (unRB (i.gOp - 4) (unitT (tyN p (i.gK / 16384))) (unitT (tyN p (i.gK / 128 % 128)))))] w6 (by kernel_rfl) ?_
          rcases Bool.eq_false_or_eq_true (unRB (i.gOp - 4) (unitT (tyN p (i.gK / 16384))) (unitT (tyN p (i.gK / 128 % 128)))) with fk7 | fk7
          ·skip
           obtain ⟨p3, hp3, hc3⟩ := q5.at fx0 (i.gK % 128).toNat (by omega)
           have hel3 := getD_Q q6 fx0 (n := (i.gK % 128).toNat) (by have := q5.len_eq; omega)
           obtain ⟨q49, q50, q51, q52, q53, q54, q55, q56, q57, _⟩ := id hel3
           refine J.drawStill S6 12 Tryz.mixed (by kernel_rfl) (by kernel_rfl) (by kernel_rfl) ?_
           intro w7 S7
           refine SL.ok (by decide) (OK.run 69 (.bool (unRB (i.gOp - 4) (unitT (tyN p (i.gK / 16384))) (unitT (tyN p (i.gK / 128 % 128))))) (by kernel_rfl)) ?_
           refine SL.head (.bool true) (congrArg Value.bool fk7) ?_
           refine SL.ok (by decide) (OK.run 70 (.bool true) (by kernel_rfl)) ?_
           refine SL.ok (by decide) (OK.ldBox S7 0 71 60 0 (.agg (untA (unRX (i.gOp - 4) (unitT (tyN p (i.gK / 16384))) (unitT (tyN p (i.gK / 128 % 128)))))) (by kernel_rfl) rfl (by kernel_rfl)) ?_
           refine SL.ok (by decide) (OK.run 72 (.pointer (some ⟨b1, 1, none⟩)) (by kernel_rfl)) ?_
           refine SL.ok (by decide) (OK.ldBox S7 2 73 23 1 (.slice p.gTypes_a p.gTypes_n p.gTypes_c) (by kernel_rfl) rfl (by kernel_rfl)) ?_
           refine SL.ok (by decide) (OK.run 74 (iv (i.gK % 128)) (by kernel_rfl)) ?_
           refine SL.ok (by decide) (OK.index 75 23 10 p.gTypes_a p3 p.gTypes_n (i.gK % 128).toNat (i.gK % 128) (p3.add ((i.gK % 128).toNat * 10)) (by kernel_rfl) (by kernel_rfl) hp3 (by omega) (by omega) rfl) ?_
           refine SL.ok (by decide) (OK.run 76 (.pointer (some ((p3.add ((i.gK % 128).toNat * 10)).add 5))) (by kernel_rfl)) ?_
           refine SL.ok (by decide) (OK.ldCells 77 60 ((p3.add ((i.gK % 128).toNat * 10)).add 5) (fuC (p.gTypes_l.getD (i.gK % 128).toNat fx0)) (by kernel_rfl) (by kernel_rfl) (by kernel_rfl) (fun j_ v_ hj_ => by rw [addr_add_add]; exact ((fun j_ v_ hj_ => S7.cell (hc3 j_ v_ hj_))) (5 + j_) v_ (by rcases j_ with _ | _ | _ | _ | _ | j_ <;> first | exact hj_ | (cases hj_; done) | (simp at hj_; done)))) ?_
           refine SL.ok (by decide) (OK.eqS 78 true 60 (untA (unRX (i.gOp - 4) (unitT (tyN p (i.gK / 16384))) (unitT (tyN p (i.gK / 128 % 128))))) (fuA (p.gTypes_l.getD (i.gK % 128).toNat fx0)) ((((unRX (i.gOp - 4) (unitT (tyN p (i.gK / 16384))) (unitT (tyN p (i.gK / 128 % 128)))).gM) == ((p.gTypes_l.getD (i.gK % 128).toNat fx0).gUnit_M)) && ((((unRX (i.gOp - 4) (unitT (tyN p (i.gK / 16384))) (unitT (tyN p (i.gK / 128 % 128)))).gKg) == ((p.gTypes_l.getD (i.gK % 128).toNat fx0).gUnit_Kg)) && ((((unRX (i.gOp - 4) (unitT (tyN p (i.gK / 16384))) (unitT (tyN p (i.gK / 128 % 128)))).gS) == ((p.gTypes_l.getD (i.gK % 128).toNat fx0).gUnit_S)) && ((((unRX (i.gOp - 4) (unitT (tyN p (i.gK / 16384))) (unitT (tyN p (i.gK / 128 % 128)))).gA) == ((p.gTypes_l.getD (i.gK % 128).toNat fx0).gUnit_A)) && ((((unRX (i.gOp - 4) (unitT (tyN p (i.gK / 16384))) (unitT (tyN p (i.gK / 128 % 128)))).gK) == ((p.gTypes_l.getD (i.gK % 128).toNat fx0).gUnit_K)) && true))))) (by kernel_rfl) (by kernel_rfl) (by kernel_rfl) ((((unRX (i.gOp - 4) (unitT (tyN p (i.gK / 16384))) (unitT (tyN p (i.gK / 128 % 128)))).gM) == ((p.gTypes_l.getD (i.gK % 128).toNat fx0).gUnit_M)) && ((((unRX (i.gOp - 4) (unitT (tyN p (i.gK / 16384))) (unitT (tyN p (i.gK / 128 % 128)))).gKg) == ((p.gTypes_l.getD (i.gK % 128).toNat fx0).gUnit_Kg)) && ((((unRX (i.gOp - 4) (unitT (tyN p (i.gK / 16384))) (unitT (tyN p (i.gK / 128 % 128)))).gS) == ((p.gTypes_l.getD (i.gK % 128).toNat fx0).gUnit_S)) && ((((unRX (i.gOp - 4) (unitT (tyN p (i.gK / 16384))) (unitT (tyN p (i.gK / 128 % 128)))).gA) == ((p.gTypes_l.getD (i.gK % 128).toNat fx0).gUnit_A)) && (((unRX (i.gOp - 4) (unitT (tyN p (i.gK / 16384))) (unitT (tyN p (i.gK / 128 % 128)))).gK) == ((p.gTypes_l.getD (i.gK % 128).toNat fx0).gUnit_K)))))) (by simp)) ?_
           refine SL.ok (by decide) (OK.run 79 (.bool ((((unRX (i.gOp - 4) (unitT (tyN p (i.gK / 16384))) (unitT (tyN p (i.gK / 128 % 128)))).gM) == ((p.gTypes_l.getD (i.gK % 128).toNat fx0).gUnit_M)) && ((((unRX (i.gOp - 4) (unitT (tyN p (i.gK / 16384))) (unitT (tyN p (i.gK / 128 % 128)))).gKg) == ((p.gTypes_l.getD (i.gK % 128).toNat fx0).gUnit_Kg)) && ((((unRX (i.gOp - 4) (unitT (tyN p (i.gK / 16384))) (unitT (tyN p (i.gK / 128 % 128)))).gS) == ((p.gTypes_l.getD (i.gK % 128).toNat fx0).gUnit_S)) && ((((unRX (i.gOp - 4) (unitT (tyN p (i.gK / 16384))) (unitT (tyN p (i.gK / 128 % 128)))).gA) == ((p.gTypes_l.getD (i.gK % 128).toNat fx0).gUnit_A)) && (((unRX (i.gOp - 4) (unitT (tyN p (i.gK / 16384))) (unitT (tyN p (i.gK / 128 % 128)))).gK) == ((p.gTypes_l.getD (i.gK % 128).toNat fx0).gUnit_K))))))) (by kernel_rfl)) ?_
           refine SL.ok (by decide) (OK.run 4 (.bool ((((unRX (i.gOp - 4) (unitT (tyN p (i.gK / 16384))) (unitT (tyN p (i.gK / 128 % 128)))).gM) == ((p.gTypes_l.getD (i.gK % 128).toNat fx0).gUnit_M)) && ((((unRX (i.gOp - 4) (unitT (tyN p (i.gK / 16384))) (unitT (tyN p (i.gK / 128 % 128)))).gKg) == ((p.gTypes_l.getD (i.gK % 128).toNat fx0).gUnit_Kg)) && ((((unRX (i.gOp - 4) (unitT (tyN p (i.gK / 16384))) (unitT (tyN p (i.gK / 128 % 128)))).gS) == ((p.gTypes_l.getD (i.gK % 128).toNat fx0).gUnit_S)) && ((((unRX (i.gOp - 4) (unitT (tyN p (i.gK / 16384))) (unitT (tyN p (i.gK / 128 % 128)))).gA) == ((p.gTypes_l.getD (i.gK % 128).toNat fx0).gUnit_A)) && (((unRX (i.gOp - 4) (unitT (tyN p (i.gK / 16384))) (unitT (tyN p (i.gK / 128 % 128)))).gK) == ((p.gTypes_l.getD (i.gK % 128).toNat fx0).gUnit_K))))))) (by kernel_rfl)) ?_
           refine SL.done ?_
           refine TL.done (by kernel_rfl) ?_
           refine J.run 0 (rRest K25_19) [(4, .bool ((((unRX (i.gOp - 4) (unitT (tyN p (i.gK / 16384))) (unitT (tyN p (i.gK / 128 % 128)))).gM) == ((p.gTypes_l.getD (i.gK % 128).toNat fx0).gUnit_M)) && ((((unRX (i.gOp - 4) (unitT (tyN p (i.gK / 16384))) (unitT (tyN p (i.gK / 128 % 128)))).gKg) == ((p.gTypes_l.getD (i.gK % 128).toNat fx0).gUnit_Kg)) && ((((unRX (i.gOp - 4) (unitT (tyN p (i.gK / 16384))) (unitT (tyN p (i.gK / 128 % 128)))).gS) == ((p.gTypes_l.getD (i.gK % 128).toNat fx0).gUnit_S)) && ((((unRX (i.gOp - 4) (unitT (tyN p (i.gK / 16384))) (unitT (tyN p (i.gK / 128 % 128)))).gA) == ((p.gTypes_l.getD (i.gK % 128).toNat fx0).gUnit_A)) && (((unRX (i.gOp - 4) (unitT (tyN p (i.gK / 16384))) (unitT (tyN p (i.gK / 128 % 128)))).gK) == ((p.gTypes_l.getD (i.gK % 128).toNat fx0).gUnit_K)))))))] w7 (by kernel_rfl) ?_
           refine J.ret Tryz.f25 [.bool ((((unRX (i.gOp - 4) (unitT (tyN p (i.gK / 16384))) (unitT (tyN p (i.gK / 128 % 128)))).gM) == ((p.gTypes_l.getD (i.gK % 128).toNat fx0).gUnit_M)) && ((((unRX (i.gOp - 4) (unitT (tyN p (i.gK / 16384))) (unitT (tyN p (i.gK / 128 % 128)))).gKg) == ((p.gTypes_l.getD (i.gK % 128).toNat fx0).gUnit_Kg)) && ((((unRX (i.gOp - 4) (unitT (tyN p (i.gK / 16384))) (unitT (tyN p (i.gK / 128 % 128)))).gS) == ((p.gTypes_l.getD (i.gK % 128).toNat fx0).gUnit_S)) && ((((unRX (i.gOp - 4) (unitT (tyN p (i.gK / 16384))) (unitT (tyN p (i.gK / 128 % 128)))).gA) == ((p.gTypes_l.getD (i.gK % 128).toNat fx0).gUnit_A)) && (((unRX (i.gOp - 4) (unitT (tyN p (i.gK / 16384))) (unitT (tyN p (i.gK / 128 % 128)))).gK) == ((p.gTypes_l.getD (i.gK % 128).toNat fx0).gUnit_K))))))] Tryz.func25 ⟨by kernel_rfl, trivial⟩ ?_
           refine hR _ _ ?_
           rcases (show i.gOp = 5 ∨ i.gOp = 6 ∨ i.gOp = 7 ∨ i.gOp = 8 by omega) with ho_ | ho_ | ho_ | ho_
           · have e0 : tyOK p i.gOp i.gK = true := tyOK_iff.2 (by omega)
             obtain ⟨e1, e2, e3⟩ := ty_yes e0
             rw [if_pos (by omega)] at e2
             rw [if_pos (by omega)] at e3
             have u1 : unRB (i.gOp - 4) (unitT (tyN p (i.gK / 16384))) (unitT (tyN p (i.gK / 128 % 128))) = unEq (unitT (tyN p (i.gK / 16384))) (unitT (tyN p (i.gK / 128 % 128))) := by unfold unRB; (repeat first | rw [if_pos (by omega)] | rw [if_neg (by omega)])
             have u2 : unRX (i.gOp - 4) (unitT (tyN p (i.gK / 16384))) (unitT (tyN p (i.gK / 128 % 128))) = (unitT (tyN p (i.gK / 16384))) := by unfold unRX; (repeat first | rw [if_pos (by omega)] | rw [if_neg (by omega)])
             have u3 : unRB (i.gOp - 4) (unitT (tyN p (i.gK / 16384))) (unitT (tyN p (i.gK / 128 % 128))) = true := fk7
             rw [u1] at u3
             exact ⟨congrArg Value.bool (by unfold namedB; (repeat first | rw [if_pos (by omega)] | rw [if_neg (by omega)]); rw [e0, Bool.true_and, e1, e2, e3]; unfold unitsB; (repeat first | rw [if_pos (by omega)] | rw [if_neg (by omega)]); rw [u3, Bool.true_and]; show unEq (unRX (i.gOp - 4) (unitT (tyN p (i.gK / 16384))) (unitT (tyN p (i.gK / 128 % 128)))) (unitT (tyN p (i.gK % 128))) = _; rw [u2]), S7.nil⟩
           · have e0 : tyOK p i.gOp i.gK = true := tyOK_iff.2 (by omega)
             obtain ⟨e1, e2, e3⟩ := ty_yes e0
             rw [if_pos (by omega)] at e2
             rw [if_pos (by omega)] at e3
             have u1 : unRB (i.gOp - 4) (unitT (tyN p (i.gK / 16384))) (unitT (tyN p (i.gK / 128 % 128))) = unEq (unitT (tyN p (i.gK / 16384))) (unitT (tyN p (i.gK / 128 % 128))) := by unfold unRB; (repeat first | rw [if_pos (by omega)] | rw [if_neg (by omega)])
             have u2 : unRX (i.gOp - 4) (unitT (tyN p (i.gK / 16384))) (unitT (tyN p (i.gK / 128 % 128))) = (unitT (tyN p (i.gK / 16384))) := by unfold unRX; (repeat first | rw [if_pos (by omega)] | rw [if_neg (by omega)])
             have u3 : unRB (i.gOp - 4) (unitT (tyN p (i.gK / 16384))) (unitT (tyN p (i.gK / 128 % 128))) = true := fk7
             rw [u1] at u3
             exact ⟨congrArg Value.bool (by unfold namedB; (repeat first | rw [if_pos (by omega)] | rw [if_neg (by omega)]); rw [e0, Bool.true_and, e1, e2, e3]; unfold unitsB; (repeat first | rw [if_pos (by omega)] | rw [if_neg (by omega)]); rw [u3, Bool.true_and]; show unEq (unRX (i.gOp - 4) (unitT (tyN p (i.gK / 16384))) (unitT (tyN p (i.gK / 128 % 128)))) (unitT (tyN p (i.gK % 128))) = _; rw [u2]), S7.nil⟩
           · have e0 : tyOK p i.gOp i.gK = true := tyOK_iff.2 (by omega)
             obtain ⟨e1, e2, e3⟩ := ty_yes e0
             rw [if_pos (by omega)] at e2
             rw [if_pos (by omega)] at e3
             have u1 : unRB (i.gOp - 4) (unitT (tyN p (i.gK / 16384))) (unitT (tyN p (i.gK / 128 % 128))) = (unE (unitT (tyN p (i.gK / 16384))) (unitT (tyN p (i.gK / 128 % 128))) 1 == 0) := by unfold unRB; (repeat first | rw [if_pos (by omega)] | rw [if_neg (by omega)])
             have u2 : unRX (i.gOp - 4) (unitT (tyN p (i.gK / 16384))) (unitT (tyN p (i.gK / 128 % 128))) = unX (unitT (tyN p (i.gK / 16384))) (unitT (tyN p (i.gK / 128 % 128))) 1 := by unfold unRX; (repeat first | rw [if_pos (by omega)] | rw [if_neg (by omega)])
             have u3 : unRB (i.gOp - 4) (unitT (tyN p (i.gK / 16384))) (unitT (tyN p (i.gK / 128 % 128))) = true := fk7
             rw [u1] at u3
             exact ⟨congrArg Value.bool (by unfold namedB; (repeat first | rw [if_pos (by omega)] | rw [if_neg (by omega)]); rw [e0, Bool.true_and, e1, e2, e3]; unfold unitsB; (repeat first | rw [if_pos (by omega)] | rw [if_neg (by omega)]); rw [u3, Bool.true_and]; show unEq (unRX (i.gOp - 4) (unitT (tyN p (i.gK / 16384))) (unitT (tyN p (i.gK / 128 % 128)))) (unitT (tyN p (i.gK % 128))) = _; rw [u2]), S7.nil⟩
           · have e0 : tyOK p i.gOp i.gK = true := tyOK_iff.2 (by omega)
             obtain ⟨e1, e2, e3⟩ := ty_yes e0
             rw [if_pos (by omega)] at e2
             rw [if_pos (by omega)] at e3
             have u1 : unRB (i.gOp - 4) (unitT (tyN p (i.gK / 16384))) (unitT (tyN p (i.gK / 128 % 128))) = (unE (unitT (tyN p (i.gK / 16384))) (unitT (tyN p (i.gK / 128 % 128))) (-1) == 0) := by unfold unRB; (repeat first | rw [if_pos (by omega)] | rw [if_neg (by omega)])
             have u2 : unRX (i.gOp - 4) (unitT (tyN p (i.gK / 16384))) (unitT (tyN p (i.gK / 128 % 128))) = unX (unitT (tyN p (i.gK / 16384))) (unitT (tyN p (i.gK / 128 % 128))) (-1) := by unfold unRX; (repeat first | rw [if_pos (by omega)] | rw [if_neg (by omega)])
             have u3 : unRB (i.gOp - 4) (unitT (tyN p (i.gK / 16384))) (unitT (tyN p (i.gK / 128 % 128))) = true := fk7
             rw [u1] at u3
             exact ⟨congrArg Value.bool (by unfold namedB; (repeat first | rw [if_pos (by omega)] | rw [if_neg (by omega)]); rw [e0, Bool.true_and, e1, e2, e3]; unfold unitsB; (repeat first | rw [if_pos (by omega)] | rw [if_neg (by omega)]); rw [u3, Bool.true_and]; show unEq (unRX (i.gOp - 4) (unitT (tyN p (i.gK / 16384))) (unitT (tyN p (i.gK / 128 % 128)))) (unitT (tyN p (i.gK % 128))) = _; rw [u2]), S7.nil⟩
          ·skip
           refine J.drawStill S6 12 Tryz.mixed (by kernel_rfl) (by kernel_rfl) (by kernel_rfl) ?_
           intro w8 S8
           refine SL.ok (by decide) (OK.run 69 (.bool (unRB (i.gOp - 4) (unitT (tyN p (i.gK / 16384))) (unitT (tyN p (i.gK / 128 % 128))))) (by kernel_rfl)) ?_
           refine SL.head (.bool false) (congrArg Value.bool fk7) ?_
           refine SL.ok (by decide) (OK.run 70 (.bool false) (by kernel_rfl)) ?_
           refine SL.pass (d := some 71) (by decide) (by kernel_rfl) ?_
           refine SL.pass (d := some 72) (by decide) (by kernel_rfl) ?_
           refine SL.pass (d := some 73) (by decide) (by kernel_rfl) ?_
           refine SL.pass (d := some 74) (by decide) (by kernel_rfl) ?_
           refine SL.pass (d := some 75) (by decide) (by kernel_rfl) ?_
           refine SL.pass (d := some 76) (by decide) (by kernel_rfl) ?_
           refine SL.pass (d := some 77) (by decide) (by kernel_rfl) ?_
           refine SL.pass (d := some 78) (by decide) (by kernel_rfl) ?_
           refine SL.ok (by decide) (OK.run 79 (.bool false) (by kernel_rfl)) ?_
           refine SL.ok (by decide) (OK.run 4 (.bool false) (by kernel_rfl)) ?_
           refine SL.done ?_
           refine TL.done (by kernel_rfl) ?_
           refine J.run 0 (rRest K25_19) [(4, .bool false)] w8 (by kernel_rfl) ?_
           refine J.ret Tryz.f25 [.bool false] Tryz.func25 ⟨by kernel_rfl, trivial⟩ ?_
           refine hR _ _ ?_
           rcases (show i.gOp = 5 ∨ i.gOp = 6 ∨ i.gOp = 7 ∨ i.gOp = 8 by omega) with ho_ | ho_ | ho_ | ho_
           · have e0 : tyOK p i.gOp i.gK = true := tyOK_iff.2 (by omega)
             obtain ⟨e1, e2, e3⟩ := ty_yes e0
             rw [if_pos (by omega)] at e2
             rw [if_pos (by omega)] at e3
             have u1 : unRB (i.gOp - 4) (unitT (tyN p (i.gK / 16384))) (unitT (tyN p (i.gK / 128 % 128))) = unEq (unitT (tyN p (i.gK / 16384))) (unitT (tyN p (i.gK / 128 % 128))) := by unfold unRB; (repeat first | rw [if_pos (by omega)] | rw [if_neg (by omega)])
             have u2 : unRX (i.gOp - 4) (unitT (tyN p (i.gK / 16384))) (unitT (tyN p (i.gK / 128 % 128))) = (unitT (tyN p (i.gK / 16384))) := by unfold unRX; (repeat first | rw [if_pos (by omega)] | rw [if_neg (by omega)])
             have u3 : unRB (i.gOp - 4) (unitT (tyN p (i.gK / 16384))) (unitT (tyN p (i.gK / 128 % 128))) = false := fk7
             rw [u1] at u3
             exact ⟨congrArg Value.bool (by unfold namedB; (repeat first | rw [if_pos (by omega)] | rw [if_neg (by omega)]); rw [e0, Bool.true_and, e1, e2, e3]; unfold unitsB; (repeat first | rw [if_pos (by omega)] | rw [if_neg (by omega)]); rw [u3]; rfl), S8.nil⟩
           · have e0 : tyOK p i.gOp i.gK = true := tyOK_iff.2 (by omega)
             obtain ⟨e1, e2, e3⟩ := ty_yes e0
             rw [if_pos (by omega)] at e2
             rw [if_pos (by omega)] at e3
             have u1 : unRB (i.gOp - 4) (unitT (tyN p (i.gK / 16384))) (unitT (tyN p (i.gK / 128 % 128))) = unEq (unitT (tyN p (i.gK / 16384))) (unitT (tyN p (i.gK / 128 % 128))) := by unfold unRB; (repeat first | rw [if_pos (by omega)] | rw [if_neg (by omega)])
             have u2 : unRX (i.gOp - 4) (unitT (tyN p (i.gK / 16384))) (unitT (tyN p (i.gK / 128 % 128))) = (unitT (tyN p (i.gK / 16384))) := by unfold unRX; (repeat first | rw [if_pos (by omega)] | rw [if_neg (by omega)])
             have u3 : unRB (i.gOp - 4) (unitT (tyN p (i.gK / 16384))) (unitT (tyN p (i.gK / 128 % 128))) = false := fk7
             rw [u1] at u3
             exact ⟨congrArg Value.bool (by unfold namedB; (repeat first | rw [if_pos (by omega)] | rw [if_neg (by omega)]); rw [e0, Bool.true_and, e1, e2, e3]; unfold unitsB; (repeat first | rw [if_pos (by omega)] | rw [if_neg (by omega)]); rw [u3]; rfl), S8.nil⟩
           · have e0 : tyOK p i.gOp i.gK = true := tyOK_iff.2 (by omega)
             obtain ⟨e1, e2, e3⟩ := ty_yes e0
             rw [if_pos (by omega)] at e2
             rw [if_pos (by omega)] at e3
             have u1 : unRB (i.gOp - 4) (unitT (tyN p (i.gK / 16384))) (unitT (tyN p (i.gK / 128 % 128))) = (unE (unitT (tyN p (i.gK / 16384))) (unitT (tyN p (i.gK / 128 % 128))) 1 == 0) := by unfold unRB; (repeat first | rw [if_pos (by omega)] | rw [if_neg (by omega)])
             have u2 : unRX (i.gOp - 4) (unitT (tyN p (i.gK / 16384))) (unitT (tyN p (i.gK / 128 % 128))) = unX (unitT (tyN p (i.gK / 16384))) (unitT (tyN p (i.gK / 128 % 128))) 1 := by unfold unRX; (repeat first | rw [if_pos (by omega)] | rw [if_neg (by omega)])
             have u3 : unRB (i.gOp - 4) (unitT (tyN p (i.gK / 16384))) (unitT (tyN p (i.gK / 128 % 128))) = false := fk7
             rw [u1] at u3
             exact ⟨congrArg Value.bool (by unfold namedB; (repeat first | rw [if_pos (by omega)] | rw [if_neg (by omega)]); rw [e0, Bool.true_and, e1, e2, e3]; unfold unitsB; (repeat first | rw [if_pos (by omega)] | rw [if_neg (by omega)]); rw [u3]; rfl), S8.nil⟩
           · have e0 : tyOK p i.gOp i.gK = true := tyOK_iff.2 (by omega)
             obtain ⟨e1, e2, e3⟩ := ty_yes e0
             rw [if_pos (by omega)] at e2
             rw [if_pos (by omega)] at e3
             have u1 : unRB (i.gOp - 4) (unitT (tyN p (i.gK / 16384))) (unitT (tyN p (i.gK / 128 % 128))) = (unE (unitT (tyN p (i.gK / 16384))) (unitT (tyN p (i.gK / 128 % 128))) (-1) == 0) := by unfold unRB; (repeat first | rw [if_pos (by omega)] | rw [if_neg (by omega)])
             have u2 : unRX (i.gOp - 4) (unitT (tyN p (i.gK / 16384))) (unitT (tyN p (i.gK / 128 % 128))) = unX (unitT (tyN p (i.gK / 16384))) (unitT (tyN p (i.gK / 128 % 128))) (-1) := by unfold unRX; (repeat first | rw [if_pos (by omega)] | rw [if_neg (by omega)])
             have u3 : unRB (i.gOp - 4) (unitT (tyN p (i.gK / 16384))) (unitT (tyN p (i.gK / 128 % 128))) = false := fk7
             rw [u1] at u3
             exact ⟨congrArg Value.bool (by unfold namedB; (repeat first | rw [if_pos (by omega)] | rw [if_neg (by omega)]); rw [e0, Bool.true_and, e1, e2, e3]; unfold unitsB; (repeat first | rw [if_pos (by omega)] | rw [if_neg (by omega)]); rw [u3]; rfl), S8.nil⟩
         have W2 : ∀ (bd19 : Nat) (w9 : World), Sep w [box bd19 [iv 0, iv 0, iv 0, iv 0, iv 0] 60, box b2 (insC i) 44, box b1 (prgC p) 28] w9 → WA Tryz.prog 25 157 R K25_18 (fun w_ => Sep w [box b2 (insC i) 44, box b1 (prgC p) 28] w_) 2 #[true, true, true, true, true, true, true, true, true, true, true, true, true, true, true, true, true, true, true, true, false, false] [(2, pv b1), (7, iv (i.gK % 128)), (9, pv bd19), (67, .agg (untA (unRX (i.gOp - 4) (unitT (tyN p (i.gK / 16384))) (unitT (tyN p (i.gK / 128 % 128)))))), (68, .bool (unRB (i.gOp - 4) (unitT (tyN p (i.gK / 16384))) (unitT (tyN p (i.gK / 128 % 128)))))] w9 := by
          intro bd19 w9 S9
          refine WA.all [20] (by kernel_rfl) rfl ⟨?_, trivial⟩
          ·skip
           refine WO.set #[true, true, true, true, true, true, true, true, true, true, true, true, true, true, true, true, true, true, true, true, true, false] (by kernel_rfl) ?_
           refine WO.stBox S9 0 60 0 (.agg (untA (unRX (i.gOp - 4) (unitT (tyN p (i.gK / 16384))) (unitT (tyN p (i.gK / 128 % 128)))))) (untC (unRX (i.gOp - 4) (unitT (tyN p (i.gK / 16384))) (unitT (tyN p (i.gK / 128 % 128))))) [box bd19 (untC (unRX (i.gOp - 4) (unitT (tyN p (i.gK / 16384))) (unitT (tyN p (i.gK / 128 % 128))))) 60, box b2 (insC i) 44, box b1 (prgC p) 28] (by kernel_rfl) rfl (by kernel_rfl) (by kernel_rfl) rfl ?_
           intro w10 S10
           refine WB.mk (S10.erase 0) ?_
           refine WA.take 21 10 (.bool (unRB (i.gOp - 4) (unitT (tyN p (i.gK / 16384))) (unitT (tyN p (i.gK / 128 % 128))))) #[true, true, true, true, true, true, true, true, true, true, true, true, true, true, true, true, true, true, true, true, true, true] (by kernel_rfl) (by kernel_rfl) (by kernel_rfl) (fun _ _ => by kernel_rfl) (by kernel_rfl) ?_
           refine WA.weaken (env' := [(2, pv b1), (7, iv (i.gK % 128)), (9, pv bd19), (10, .bool (unRB (i.gOp - 4) (unitT (tyN p (i.gK / 16384))) (unitT (tyN p (i.gK / 128 % 128)))))]) (by kernel_rfl) ?_
           exact W1 bd19 w10 S10
         have W3 : ∀ (w11 : World), Sep w [box b2 (insC i) 44, box b1 (prgC p) 28] w11 → WA Tryz.prog 25 157 R K25_18 (fun w_ => Sep w [box b2 (insC i) 44, box b1 (prgC p) 28] w_) 3 #[true, true, true, true, true, true, true, true, true, true, true, true, true, true, true, true, true, true, true, false, false, false] [(2, pv b1), (7, iv (i.gK % 128)), (67, .agg (untA (unRX (i.gOp - 4) (unitT (tyN p (i.gK / 16384))) (unitT (tyN p (i.gK / 128 % 128)))))), (68, .bool (unRB (i.gOp - 4) (unitT (tyN p (i.gK / 16384))) (unitT (tyN p (i.gK / 128 % 128)))))] w11 := by
          intro w11 S11
          refine WA.all [19] (by kernel_rfl) rfl ⟨?_, trivial⟩
          ·skip
           refine WO.set #[true, true, true, true, true, true, true, true, true, true, true, true, true, true, true, true, true, true, true, true, false, false] (by kernel_rfl) ?_
           refine WO.new S11 9 [iv 0, iv 0, iv 0, iv 0, iv 0] 60 (by kernel_rfl) ?_
           intro bd19 w12 S12
           refine WB.mk (S12.erase 0) ?_
           refine WA.weaken (env' := [(2, pv b1), (7, iv (i.gK % 128)), (9, pv bd19), (67, .agg (untA (unRX (i.gOp - 4) (unitT (tyN p (i.gK / 16384))) (unitT (tyN p (i.gK / 128 % 128)))))), (68, .bool (unRB (i.gOp - 4) (unitT (tyN p (i.gK / 16384))) (unitT (tyN p (i.gK / 128 % 128)))))]) (by kernel_rfl) ?_
           exact W2 bd19 w12 S12
         have W4 : ∀ (bd19 : Nat) (w13 : World), Sep w [box bd19 [iv 0, iv 0, iv 0, iv 0, iv 0] 60, box b2 (insC i) 44, box b1 (prgC p) 28] w13 → WA Tryz.prog 25 157 R K25_18 (fun w_ => Sep w [box b2 (insC i) 44, box b1 (prgC p) 28] w_) 6 #[true, true, true, true, true, true, true, true, true, true, true, true, true, true, true, false, false, false, false, true, false, false] [(2, pv b1), (7, iv (i.gK % 128)), (9, pv bd19), (53, iv (i.gOp - 4)), (59, .agg (fuA (p.gTypes_l.getD (i.gK / 16384).toNat fx0))), (65, .agg (fuA (p.gTypes_l.getD (i.gK / 128 % 128).toNat fx0)))] w13 := by
          intro bd19 w13 S13
          refine WA.all [15] (by kernel_rfl) rfl ⟨?_, trivial⟩
          ·skip
           refine WO.set #[true, true, true, true, true, true, true, true, true, true, true, true, true, true, true, true, false, false, false, true, false, false] (by kernel_rfl) ?_
           refine WO.callF 66 62 #[iv (i.gOp - 4), .agg (fuA (p.gTypes_l.getD (i.gK / 16384).toNat fx0)), .agg (fuA (p.gTypes_l.getD (i.gK / 128 % 128).toNat fx0))] hb62 (by kernel_rfl) (runits_any (i.gOp - 4) (unitT (tyN p (i.gK / 16384))) (unitT (tyN p (i.gK / 128 % 128))) _) ?_
           rintro _ w14 ⟨rfl, T2⟩
           have S14 : Sep w [box bd19 [iv 0, iv 0, iv 0, iv 0, iv 0] 60, box b2 (insC i) 44, box b1 (prgC p) 28] w14 := S13.trans T2
           clear T2 S13
           refine WB.mk (S14.erase 0) ?_
           refine WA.take 16 50 (.tuple #[.agg (untA (unRX (i.gOp - 4) (unitT (tyN p (i.gK / 16384))) (unitT (tyN p (i.gK / 128 % 128))))), .bool (unRB (i.gOp - 4) (unitT (tyN p (i.gK / 16384))) (unitT (tyN p (i.gK / 128 % 128))))]) #[true, true, true, true, true, true, true, true, true, true, true, true, true, true, true, true, true, false, false, true, false, false] (by kernel_rfl) (by kernel_rfl) (by kernel_rfl) (fun _ _ => by kernel_rfl) (by kernel_rfl) ?_
           refine WA.take 17 67 (.agg (untA (unRX (i.gOp - 4) (unitT (tyN p (i.gK / 16384))) (unitT (tyN p (i.gK / 128 % 128)))))) #[true, true, true, true, true, true, true, true, true, true, true, true, true, true, true, true, true, true, false, true, false, false] (by kernel_rfl) (by kernel_rfl) (by kernel_rfl) (fun _ _ => by kernel_rfl) (by kernel_rfl) ?_
           refine WA.take 18 68 (.bool (unRB (i.gOp - 4) (unitT (tyN p (i.gK / 16384))) (unitT (tyN p (i.gK / 128 % 128))))) #[true, true, true, true, true, true, true, true, true, true, true, true, true, true, true, true, true, true, true, true, false, false] (by kernel_rfl) (by kernel_rfl) (by kernel_rfl) (fun _ _ => by kernel_rfl) (by kernel_rfl) ?_
           refine WA.weaken (env' := [(2, pv b1), (7, iv (i.gK % 128)), (9, pv bd19), (67, .agg (untA (unRX (i.gOp - 4) (unitT (tyN p (i.gK / 16384))) (unitT (tyN p (i.gK / 128 % 128)))))), (68, .bool (unRB (i.gOp - 4) (unitT (tyN p (i.gK / 16384))) (unitT (tyN p (i.gK / 128 % 128)))))]) (by kernel_rfl) ?_
           exact W2 bd19 w14 S14
         have W5 : ∀ (w15 : World), Sep w [box b2 (insC i) 44, box b1 (prgC p) 28] w15 → WA Tryz.prog 25 157 R K25_18 (fun w_ => Sep w [box b2 (insC i) 44, box b1 (prgC p) 28] w_) 7 #[true, true, true, true, true, true, true, true, true, true, true, true, true, true, true, false, false, false, false, false, false, false] [(2, pv b1), (7, iv (i.gK % 128)), (53, iv (i.gOp - 4)), (59, .agg (fuA (p.gTypes_l.getD (i.gK / 16384).toNat fx0))), (65, .agg (fuA (p.gTypes_l.getD (i.gK / 128 % 128).toNat fx0)))] w15 := by
          intro w15 S15
          refine WA.all [15, 19] (by kernel_rfl) rfl ⟨?_, ?_, trivial⟩
          ·skip
           refine WO.set #[true, true, true, true, true, true, true, true, true, true, true, true, true, true, true, true, false, false, false, false, false, false] (by kernel_rfl) ?_
           refine WO.callF 66 62 #[iv (i.gOp - 4), .agg (fuA (p.gTypes_l.getD (i.gK / 16384).toNat fx0)), .agg (fuA (p.gTypes_l.getD (i.gK / 128 % 128).toNat fx0))] hb62 (by kernel_rfl) (runits_any (i.gOp - 4) (unitT (tyN p (i.gK / 16384))) (unitT (tyN p (i.gK / 128 % 128))) _) ?_
           rintro _ w16 ⟨rfl, T3⟩
           have S16 : Sep w [box b2 (insC i) 44, box b1 (prgC p) 28] w16 := S15.trans T3
           clear T3 S15
           refine WB.mk S16 ?_
           refine WA.take 16 50 (.tuple #[.agg (untA (unRX (i.gOp - 4) (unitT (tyN p (i.gK / 16384))) (unitT (tyN p (i.gK / 128 % 128))))), .bool (unRB (i.gOp - 4) (unitT (tyN p (i.gK / 16384))) (unitT (tyN p (i.gK / 128 % 128))))]) #[true, true, true, true, true, true, true, true, true, true, true, true, true, true, true, true, true, false, false, false, false, false] (by kernel_rfl) (by kernel_rfl) (by kernel_rfl) (fun _ _ => by kernel_rfl) (by kernel_rfl) ?_
           refine WA.take 17 67 (.agg (untA (unRX (i.gOp - 4) (unitT (tyN p (i.gK / 16384))) (unitT (tyN p (i.gK / 128 % 128)))))) #[true, true, true, true, true, true, true, true, true, true, true, true, true, true, true, true, true, true, false, false, false, false] (by kernel_rfl) (by kernel_rfl) (by kernel_rfl) (fun _ _ => by kernel_rfl) (by kernel_rfl) ?_
           refine WA.take 18 68 (.bool (unRB (i.gOp - 4) (unitT (tyN p (i.gK / 16384))) (unitT (tyN p (i.gK / 128 % 128))))) #[true, true, true, true, true, true, true, true, true, true, true, true, true, true, true, true, true, true, true, false, false, false] (by kernel_rfl) (by kernel_rfl) (by kernel_rfl) (fun _ _ => by kernel_rfl) (by kernel_rfl) ?_
           refine WA.weaken (env' := [(2, pv b1), (7, iv (i.gK % 128)), (67, .agg (untA (unRX (i.gOp - 4) (unitT (tyN p (i.gK / 16384))) (unitT (tyN p (i.gK / 128 % 128)))))), (68, .bool (unRB (i.gOp - 4) (unitT (tyN p (i.gK / 16384))) (unitT (tyN p (i.gK / 128 % 128)))))]) (by kernel_rfl) ?_
           exact W3 w16 S16
          ·skip
           refine WO.set #[true, true, true, true, true, true, true, true, true, true, true, true, true, true, true, false, false, false, false, true, false, false] (by kernel_rfl) ?_
           refine WO.new S15 9 [iv 0, iv 0, iv 0, iv 0, iv 0] 60 (by kernel_rfl) ?_
           intro bd19 w17 S17
           refine WB.mk (S17.erase 0) ?_
           refine WA.weaken (env' := [(2, pv b1), (7, iv (i.gK % 128)), (9, pv bd19), (53, iv (i.gOp - 4)), (59, .agg (fuA (p.gTypes_l.getD (i.gK / 16384).toNat fx0))), (65, .agg (fuA (p.gTypes_l.getD (i.gK / 128 % 128).toNat fx0)))]) (by kernel_rfl) ?_
           exact W4 bd19 w17 S17
         refine J.drawAny (fun w_ => Sep w [box b2 (insC i) 44, box b1 (prgC p) 28] w_) S5 22 #[false, false, false, false, false, false, false, false, false, false, false, false, false, false, false, false, false, false, false, false, false, false] Tryz.mixed (by kernel_rfl) (by kernel_rfl) (by kernel_rfl) ?_
         intro w18 S18
         refine WB.mk S18 ?_
         refine WA.take 0 51 (pv b2) #[true, false, false, false, false, false, false, false, false, false, false, false, false, false, false, false, false, false, false, false, false, false] (by kernel_rfl) (by kernel_rfl) (by kernel_rfl) (fun _ _ => by kernel_rfl) (by kernel_rfl) ?_
         refine WA.takeOK 1 #[true, true, false, false, false, false, false, false, false, false, false, false, false, false, false, false, false, false, false, false, false, false] (by kernel_rfl) (by kernel_rfl) (by kernel_rfl) (by kernel_rfl) (fun w_ S_ => OK.ldBox S_ 0 52 3 0 (iv i.gOp) (by kernel_rfl) rfl (by kernel_rfl)) rfl ?_
         refine WA.take 2 53 (iv (IntKind.wrap .i64 (i.gOp - 4))) #[true, true, true, false, false, false, false, false, false, false, false, false, false, false, false, false, false, false, false, false, false, false] (by kernel_rfl) (by kernel_rfl) (by kernel_rfl) (fun _ _ => by kernel_rfl) (by kernel_rfl) ?_
         refine WA.head (iv (i.gOp - 4)) (congrArg (Value.int .i64) (IntWalk.i64_in _ (by omega))) ?_
         refine WA.take 3 54 (.pointer (some ⟨b1, 1, none⟩)) #[true, true, true, true, false, false, false, false, false, false, false, false, false, false, false, false, false, false, false, false, false, false] (by kernel_rfl) (by kernel_rfl) (by kernel_rfl) (fun _ _ => by kernel_rfl) (by kernel_rfl) ?_
         refine WA.takeOK 4 #[true, true, true, true, true, false, false, false, false, false, false, false, false, false, false, false, false, false, false, false, false, false] (by kernel_rfl) (by kernel_rfl) (by kernel_rfl) (by kernel_rfl) (fun w_ S_ => OK.ldBox S_ 1 55 23 1 (.slice p.gTypes_a p.gTypes_n p.gTypes_c) (by kernel_rfl) rfl (by kernel_rfl)) rfl ?_
         refine WA.take 5 56 (iv (i.gK / 16384)) #[true, true, true, true, true, true, false, false, false, false, false, false, false, false, false, false, false, false, false, false, false, false] (by kernel_rfl) (by kernel_rfl) (by kernel_rfl) (fun _ _ => by kernel_rfl) (by kernel_rfl) ?_
         refine WA.takeOK 6 #[true, true, true, true, true, true, true, false, false, false, false, false, false, false, false, false, false, false, false, false, false, false] (by kernel_rfl) (by kernel_rfl) (by kernel_rfl) (by kernel_rfl) (fun w_ S_ => OK.index 57 23 10 p.gTypes_a p1 p.gTypes_n (i.gK / 16384).toNat (i.gK / 16384) (p1.add ((i.gK / 16384).toNat * 10)) (by kernel_rfl) (by kernel_rfl) hp1 (by omega) (by omega) rfl) rfl ?_
         refine WA.take 7 58 (.pointer (some ((p1.add ((i.gK / 16384).toNat * 10)).add 5))) #[true, true, true, true, true, true, true, true, false, false, false, false, false, false, false, false, false, false, false, false, false, false] (by kernel_rfl) (by kernel_rfl) (by kernel_rfl) (fun _ _ => by kernel_rfl) (by kernel_rfl) ?_
         refine WA.takeOK 8 #[true, true, true, true, true, true, true, true, true, false, false, false, false, false, false, false, false, false, false, false, false, false] (by kernel_rfl) (by kernel_rfl) (by kernel_rfl) (by kernel_rfl) (fun w_ S_ => OK.ldCells 59 60 ((p1.add ((i.gK / 16384).toNat * 10)).add 5) (fuC (p.gTypes_l.getD (i.gK / 16384).toNat fx0)) (by kernel_rfl) (by kernel_rfl) (by kernel_rfl) (fun j_ v_ hj_ => by rw [addr_add_add]; exact ((fun j_ v_ hj_ => S_.cell (hc1 j_ v_ hj_))) (5 + j_) v_ (by rcases j_ with _ | _ | _ | _ | _ | j_ <;> first | exact hj_ | (cases hj_; done) | (simp at hj_; done)))) rfl ?_
         refine WA.take 9 60 (.pointer (some ⟨b1, 1, none⟩)) #[true, true, true, true, true, true, true, true, true, true, false, false, false, false, false, false, false, false, false, false, false, false] (by kernel_rfl) (by kernel_rfl) (by kernel_rfl) (fun _ _ => by kernel_rfl) (by kernel_rfl) ?_
         refine WA.takeOK 10 #[true, true, true, true, true, true, true, true, true, true, true, false, false, false, false, false, false, false, false, false, false, false] (by kernel_rfl) (by kernel_rfl) (by kernel_rfl) (by kernel_rfl) (fun w_ S_ => OK.ldBox S_ 1 61 23 1 (.slice p.gTypes_a p.gTypes_n p.gTypes_c) (by kernel_rfl) rfl (by kernel_rfl)) rfl ?_
         refine WA.take 11 62 (iv (i.gK / 128 % 128)) #[true, true, true, true, true, true, true, true, true, true, true, true, false, false, false, false, false, false, false, false, false, false] (by kernel_rfl) (by kernel_rfl) (by kernel_rfl) (fun _ _ => by kernel_rfl) (by kernel_rfl) ?_
         refine WA.takeOK 12 #[true, true, true, true, true, true, true, true, true, true, true, true, true, false, false, false, false, false, false, false, false, false] (by kernel_rfl) (by kernel_rfl) (by kernel_rfl) (by kernel_rfl) (fun w_ S_ => OK.index 63 23 10 p.gTypes_a p2 p.gTypes_n (i.gK / 128 % 128).toNat (i.gK / 128 % 128) (p2.add ((i.gK / 128 % 128).toNat * 10)) (by kernel_rfl) (by kernel_rfl) hp2 (by omega) (by omega) rfl) rfl ?_
         refine WA.take 13 64 (.pointer (some ((p2.add ((i.gK / 128 % 128).toNat * 10)).add 5))) #[true, true, true, true, true, true, true, true, true, true, true, true, true, true, false, false, false, false, false, false, false, false] (by kernel_rfl) (by kernel_rfl) (by kernel_rfl) (fun _ _ => by kernel_rfl) (by kernel_rfl) ?_
         refine WA.takeOK 14 #[true, true, true, true, true, true, true, true, true, true, true, true, true, true, true, false, false, false, false, false, false, false] (by kernel_rfl) (by kernel_rfl) (by kernel_rfl) (by kernel_rfl) (fun w_ S_ => OK.ldCells 65 60 ((p2.add ((i.gK / 128 % 128).toNat * 10)).add 5) (fuC (p.gTypes_l.getD (i.gK / 128 % 128).toNat fx0)) (by kernel_rfl) (by kernel_rfl) (by kernel_rfl) (fun j_ v_ hj_ => by rw [addr_add_add]; exact ((fun j_ v_ hj_ => S_.cell (hc2 j_ v_ hj_))) (5 + j_) v_ (by rcases j_ with _ | _ | _ | _ | _ | j_ <;> first | exact hj_ | (cases hj_; done) | (simp at hj_; done)))) rfl ?_
         refine WA.weaken (env' := [(2, pv b1), (7, iv (i.gK % 128)), (53, iv (i.gOp - 4)), (59, .agg (fuA (p.gTypes_l.getD (i.gK / 16384).toNat fx0))), (65, .agg (fuA (p.gTypes_l.getD (i.gK / 128 % 128).toNat fx0)))]) (by kernel_rfl) ?_
         exact W5 w18 S18
     ·skip
      refine J.head (.bool false) (congrArg Value.bool fk3) ?_
      have fb4 := htj32.2 fk3
      refine J.run 7 K25_20 [(80, .bool (i.gOp == 9)), (23, iv i.gOp), (8, iv (p.gTypes_n : Int)), (7, iv (i.gK % 128)), (6, iv (i.gK / 128 % 128)), (5, iv (i.gK / 16384)), (3, pv b2), (2, pv b1)] w5 (by kernel_rfl) ?_
      have X3 : ∀ (tj80 : Bool) (w19 : World), ((tj80 = true → (i.gOp = 9 ∨ i.gOp = 10)) ∧ (tj80 = false → ¬ (i.gOp = 9 ∨ i.gOp = 10))) → Sep w [box b2 (insC i) 44, box b1 (prgC p) 28] w19 → J Tryz.prog 25 157 R K25_21 [(23, iv i.gOp), (8, iv (p.gTypes_n : Int)), (7, iv (i.gK % 128)), (6, iv (i.gK / 128 % 128)), (5, iv (i.gK / 16384)), (3, pv b2), (2, pv b1), (80, .bool tj80)] w19 := by
       intro tj80 w19 htj80 S19
       refine J.run 0 K25_21 [(80, .bool tj80), (23, iv i.gOp), (8, iv (p.gTypes_n : Int)), (7, iv (i.gK % 128)), (6, iv (i.gK / 128 % 128)), (5, iv (i.gK / 16384)), (3, pv b2), (2, pv b1)] w19 (by kernel_rfl) ?_
       rcases Bool.eq_false_or_eq_true tj80 with fk8 | fk8
       ·skip
        refine J.head (.bool true) (congrArg Value.bool fk8) ?_
        have fb5 := htj80.1 fk8
        refine J.run 2 K25_22 [(8, iv (p.gTypes_n : Int)), (7, iv (i.gK % 128)), (5, iv (i.gK / 16384)), (2, pv b1)] w19 (by kernel_rfl) ?_
        by_cases fk9 : (i.gK / 16384) < (p.gTypes_n : Int)
        ·skip
         by_cases fk10 : (i.gK % 128) < (p.gTypes_n : Int)
         ·skip
          obtain ⟨p4, hp4, hc4⟩ := q5.at fx0 (i.gK / 16384).toNat (by omega)
          have hel4 := getD_Q q6 fx0 (n := (i.gK / 16384).toNat) (by have := q5.len_eq; omega)
          obtain ⟨q58, q59, q60, q61, q62, q63, q64, q65, q66, _⟩ := id hel4
          obtain ⟨p5, hp5, hc5⟩ := q5.at fx0 (i.gK % 128).toNat (by omega)
          have hel5 := getD_Q q6 fx0 (n := (i.gK % 128).toNat) (by have := q5.len_eq; omega)
          obtain ⟨q67, q68, q69, q70, q71, q72, q73, q74, q75, _⟩ := id hel5
          refine J.drawStill S19 24 Tryz.mixed (by kernel_rfl) (by kernel_rfl) (by kernel_rfl) ?_
          intro w20 S20
          refine SL.ok (by decide) (OK.run 83 (iv (i.gK / 16384)) (by kernel_rfl)) ?_
          refine SL.ok (by decide) (OK.run 84 (iv (p.gTypes_n : Int)) (by kernel_rfl)) ?_
          refine SL.ok (by decide) (OK.run 85 (.bool (decide ((i.gK / 16384) < (p.gTypes_n : Int)))) (by kernel_rfl)) ?_
          refine SL.head (.bool true) (congrArg Value.bool (decide_eq_true fk9)) ?_
          refine SL.ok (by decide) (OK.run 86 (.bool true) (by kernel_rfl)) ?_
          refine SL.ok (by decide) (OK.run 87 (iv (i.gK % 128)) (by kernel_rfl)) ?_
          refine SL.ok (by decide) (OK.run 88 (iv (p.gTypes_n : Int)) (by kernel_rfl)) ?_
          refine SL.ok (by decide) (OK.run 89 (.bool (decide ((i.gK % 128) < (p.gTypes_n : Int)))) (by kernel_rfl)) ?_
          refine SL.head (.bool true) (congrArg Value.bool (decide_eq_true fk10)) ?_
          refine SL.ok (by decide) (OK.run 90 (.bool true) (by kernel_rfl)) ?_
          refine SL.ok (by decide) (OK.run 91 (.bool true) (by kernel_rfl)) ?_
          refine SL.ok (by decide) (OK.run 92 (.pointer (some ⟨b1, 1, none⟩)) (by kernel_rfl)) ?_
          refine SL.ok (by decide) (OK.ldBox S20 1 93 23 1 (.slice p.gTypes_a p.gTypes_n p.gTypes_c) (by kernel_rfl) rfl (by kernel_rfl)) ?_
          refine SL.ok (by decide) (OK.run 94 (iv (i.gK / 16384)) (by kernel_rfl)) ?_
          refine SL.ok (by decide) (OK.index 95 23 10 p.gTypes_a p4 p.gTypes_n (i.gK / 16384).toNat (i.gK / 16384) (p4.add ((i.gK / 16384).toNat * 10)) (by kernel_rfl) (by kernel_rfl) hp4 (by omega) (by omega) rfl) ?_
          refine SL.ok (by decide) (OK.run 96 (.pointer (some ((p4.add ((i.gK / 16384).toNat * 10)).add 5))) (by kernel_rfl)) ?_
          refine SL.ok (by decide) (OK.ldCells 97 60 ((p4.add ((i.gK / 16384).toNat * 10)).add 5) (fuC (p.gTypes_l.getD (i.gK / 16384).toNat fx0)) (by kernel_rfl) (by kernel_rfl) (by kernel_rfl) (fun j_ v_ hj_ => by rw [addr_add_add]; exact ((fun j_ v_ hj_ => S20.cell (hc4 j_ v_ hj_))) (5 + j_) v_ (by rcases j_ with _ | _ | _ | _ | _ | j_ <;> first | exact hj_ | (cases hj_; done) | (simp at hj_; done)))) ?_
          refine SL.ok (by decide) (OK.run 98 (.pointer (some ⟨b1, 1, none⟩)) (by kernel_rfl)) ?_
          refine SL.ok (by decide) (OK.ldBox S20 1 99 23 1 (.slice p.gTypes_a p.gTypes_n p.gTypes_c) (by kernel_rfl) rfl (by kernel_rfl)) ?_
          refine SL.ok (by decide) (OK.run 100 (iv (i.gK % 128)) (by kernel_rfl)) ?_
          refine SL.ok (by decide) (OK.index 101 23 10 p.gTypes_a p5 p.gTypes_n (i.gK % 128).toNat (i.gK % 128) (p5.add ((i.gK % 128).toNat * 10)) (by kernel_rfl) (by kernel_rfl) hp5 (by omega) (by omega) rfl) ?_
          refine SL.ok (by decide) (OK.run 102 (.pointer (some ((p5.add ((i.gK % 128).toNat * 10)).add 5))) (by kernel_rfl)) ?_
          refine SL.ok (by decide) (OK.ldCells 103 60 ((p5.add ((i.gK % 128).toNat * 10)).add 5) (fuC (p.gTypes_l.getD (i.gK % 128).toNat fx0)) (by kernel_rfl) (by kernel_rfl) (by kernel_rfl) (fun j_ v_ hj_ => by rw [addr_add_add]; exact ((fun j_ v_ hj_ => S20.cell (hc5 j_ v_ hj_))) (5 + j_) v_ (by rcases j_ with _ | _ | _ | _ | _ | j_ <;> first | exact hj_ | (cases hj_; done) | (simp at hj_; done)))) ?_
          refine SL.ok (by decide) (OK.eqS 104 true 60 (fuA (p.gTypes_l.getD (i.gK / 16384).toNat fx0)) (fuA (p.gTypes_l.getD (i.gK % 128).toNat fx0)) ((((p.gTypes_l.getD (i.gK / 16384).toNat fx0).gUnit_M) == ((p.gTypes_l.getD (i.gK % 128).toNat fx0).gUnit_M)) && ((((p.gTypes_l.getD (i.gK / 16384).toNat fx0).gUnit_Kg) == ((p.gTypes_l.getD (i.gK % 128).toNat fx0).gUnit_Kg)) && ((((p.gTypes_l.getD (i.gK / 16384).toNat fx0).gUnit_S) == ((p.gTypes_l.getD (i.gK % 128).toNat fx0).gUnit_S)) && ((((p.gTypes_l.getD (i.gK / 16384).toNat fx0).gUnit_A) == ((p.gTypes_l.getD (i.gK % 128).toNat fx0).gUnit_A)) && ((((p.gTypes_l.getD (i.gK / 16384).toNat fx0).gUnit_K) == ((p.gTypes_l.getD (i.gK % 128).toNat fx0).gUnit_K)) && true))))) (by kernel_rfl) (by kernel_rfl) (by kernel_rfl) ((((p.gTypes_l.getD (i.gK / 16384).toNat fx0).gUnit_M) == ((p.gTypes_l.getD (i.gK % 128).toNat fx0).gUnit_M)) && ((((p.gTypes_l.getD (i.gK / 16384).toNat fx0).gUnit_Kg) == ((p.gTypes_l.getD (i.gK % 128).toNat fx0).gUnit_Kg)) && ((((p.gTypes_l.getD (i.gK / 16384).toNat fx0).gUnit_S) == ((p.gTypes_l.getD (i.gK % 128).toNat fx0).gUnit_S)) && ((((p.gTypes_l.getD (i.gK / 16384).toNat fx0).gUnit_A) == ((p.gTypes_l.getD (i.gK % 128).toNat fx0).gUnit_A)) && (((p.gTypes_l.getD (i.gK / 16384).toNat fx0).gUnit_K) == ((p.gTypes_l.getD (i.gK % 128).toNat fx0).gUnit_K)))))) (by simp)) ?_
          refine SL.ok (by decide) (OK.run 105 (.bool ((((p.gTypes_l.getD (i.gK / 16384).toNat fx0).gUnit_M) == ((p.gTypes_l.getD (i.gK % 128).toNat fx0).gUnit_M)) && ((((p.gTypes_l.getD (i.gK / 16384).toNat fx0).gUnit_Kg) == ((p.gTypes_l.getD (i.gK % 128).toNat fx0).gUnit_Kg)) && ((((p.gTypes_l.getD (i.gK / 16384).toNat fx0).gUnit_S) == ((p.gTypes_l.getD (i.gK % 128).toNat fx0).gUnit_S)) && ((((p.gTypes_l.getD (i.gK / 16384).toNat fx0).gUnit_A) == ((p.gTypes_l.getD (i.gK % 128).toNat fx0).gUnit_A)) && (((p.gTypes_l.getD (i.gK / 16384).toNat fx0).gUnit_K) == ((p.gTypes_l.getD (i.gK % 128).toNat fx0).gUnit_K))))))) (by kernel_rfl)) ?_
          refine SL.ok (by decide) (OK.run 4 (.bool ((((p.gTypes_l.getD (i.gK / 16384).toNat fx0).gUnit_M) == ((p.gTypes_l.getD (i.gK % 128).toNat fx0).gUnit_M)) && ((((p.gTypes_l.getD (i.gK / 16384).toNat fx0).gUnit_Kg) == ((p.gTypes_l.getD (i.gK % 128).toNat fx0).gUnit_Kg)) && ((((p.gTypes_l.getD (i.gK / 16384).toNat fx0).gUnit_S) == ((p.gTypes_l.getD (i.gK % 128).toNat fx0).gUnit_S)) && ((((p.gTypes_l.getD (i.gK / 16384).toNat fx0).gUnit_A) == ((p.gTypes_l.getD (i.gK % 128).toNat fx0).gUnit_A)) && (((p.gTypes_l.getD (i.gK / 16384).toNat fx0).gUnit_K) == ((p.gTypes_l.getD (i.gK % 128).toNat fx0).gUnit_K))))))) (by kernel_rfl)) ?_
          refine SL.done ?_
          refine TL.done (by kernel_rfl) ?_
          refine J.run 0 (rRest K25_22) [(4, .bool ((((p.gTypes_l.getD (i.gK / 16384).toNat fx0).gUnit_M) == ((p.gTypes_l.getD (i.gK % 128).toNat fx0).gUnit_M)) && ((((p.gTypes_l.getD (i.gK / 16384).toNat fx0).gUnit_Kg) == ((p.gTypes_l.getD (i.gK % 128).toNat fx0).gUnit_Kg)) && ((((p.gTypes_l.getD (i.gK / 16384).toNat fx0).gUnit_S) == ((p.gTypes_l.getD (i.gK % 128).toNat fx0).gUnit_S)) && ((((p.gTypes_l.getD (i.gK / 16384).toNat fx0).gUnit_A) == ((p.gTypes_l.getD (i.gK % 128).toNat fx0).gUnit_A)) && (((p.gTypes_l.getD (i.gK / 16384).toNat fx0).gUnit_K) == ((p.gTypes_l.getD (i.gK % 128).toNat fx0).gUnit_K)))))))] w20 (by kernel_rfl) ?_
          refine J.ret Tryz.f25 [.bool ((((p.gTypes_l.getD (i.gK / 16384).toNat fx0).gUnit_M) == ((p.gTypes_l.getD (i.gK % 128).toNat fx0).gUnit_M)) && ((((p.gTypes_l.getD (i.gK / 16384).toNat fx0).gUnit_Kg) == ((p.gTypes_l.getD (i.gK % 128).toNat fx0).gUnit_Kg)) && ((((p.gTypes_l.getD (i.gK / 16384).toNat fx0).gUnit_S) == ((p.gTypes_l.getD (i.gK % 128).toNat fx0).gUnit_S)) && ((((p.gTypes_l.getD (i.gK / 16384).toNat fx0).gUnit_A) == ((p.gTypes_l.getD (i.gK % 128).toNat fx0).gUnit_A)) && (((p.gTypes_l.getD (i.gK / 16384).toNat fx0).gUnit_K) == ((p.gTypes_l.getD (i.gK % 128).toNat fx0).gUnit_K))))))] Tryz.func25 ⟨by kernel_rfl, trivial⟩ ?_
          refine hR _ _ ?_
          rcases (show i.gOp = 9 ∨ i.gOp = 10 by omega) with ho_ | ho_
          · have e0 : tyOK p i.gOp i.gK = true := tyOK_iff.2 (by omega)
            obtain ⟨e1, e2, e3⟩ := ty_yes e0
            rw [if_neg (by omega)] at e2
            rw [if_pos (by omega)] at e3
            exact ⟨congrArg Value.bool (by unfold namedB; (repeat first | rw [if_pos (by omega)] | rw [if_neg (by omega)]); rw [e0, Bool.true_and, e1, e2, e3]; unfold unitsB; (repeat first | rw [if_pos (by omega)] | rw [if_neg (by omega)]); rfl), S20.nil⟩
          · have e0 : tyOK p i.gOp i.gK = true := tyOK_iff.2 (by omega)
            obtain ⟨e1, e2, e3⟩ := ty_yes e0
            rw [if_neg (by omega)] at e2
            rw [if_pos (by omega)] at e3
            exact ⟨congrArg Value.bool (by unfold namedB; (repeat first | rw [if_pos (by omega)] | rw [if_neg (by omega)]); rw [e0, Bool.true_and, e1, e2, e3]; unfold unitsB; (repeat first | rw [if_pos (by omega)] | rw [if_neg (by omega)]); rfl), S20.nil⟩
         ·skip
          refine J.drawStill S19 24 Tryz.mixed (by kernel_rfl) (by kernel_rfl) (by kernel_rfl) ?_
          intro w21 S21
          refine SL.ok (by decide) (OK.run 83 (iv (i.gK / 16384)) (by kernel_rfl)) ?_
          refine SL.ok (by decide) (OK.run 84 (iv (p.gTypes_n : Int)) (by kernel_rfl)) ?_
          refine SL.ok (by decide) (OK.run 85 (.bool (decide ((i.gK / 16384) < (p.gTypes_n : Int)))) (by kernel_rfl)) ?_
          refine SL.head (.bool true) (congrArg Value.bool (decide_eq_true fk9)) ?_
          refine SL.ok (by decide) (OK.run 86 (.bool true) (by kernel_rfl)) ?_
          refine SL.ok (by decide) (OK.run 87 (iv (i.gK % 128)) (by kernel_rfl)) ?_
          refine SL.ok (by decide) (OK.run 88 (iv (p.gTypes_n : Int)) (by kernel_rfl)) ?_
          refine SL.ok (by decide) (OK.run 89 (.bool (decide ((i.gK % 128) < (p.gTypes_n : Int)))) (by kernel_rfl)) ?_
          refine SL.head (.bool false) (congrArg Value.bool (decide_eq_false fk10)) ?_
          refine SL.ok (by decide) (OK.run 90 (.bool false) (by kernel_rfl)) ?_
          refine SL.ok (by decide) (OK.run 91 (.bool false) (by kernel_rfl)) ?_
          refine SL.pass (d := some 92) (by decide) (by kernel_rfl) ?_
          refine SL.pass (d := some 93) (by decide) (by kernel_rfl) ?_
          refine SL.pass (d := some 94) (by decide) (by kernel_rfl) ?_
          refine SL.pass (d := some 95) (by decide) (by kernel_rfl) ?_
          refine SL.pass (d := some 96) (by decide) (by kernel_rfl) ?_
          refine SL.pass (d := some 97) (by decide) (by kernel_rfl) ?_
          refine SL.pass (d := some 98) (by decide) (by kernel_rfl) ?_
          refine SL.pass (d := some 99) (by decide) (by kernel_rfl) ?_
          refine SL.pass (d := some 100) (by decide) (by kernel_rfl) ?_
          refine SL.pass (d := some 101) (by decide) (by kernel_rfl) ?_
          refine SL.pass (d := some 102) (by decide) (by kernel_rfl) ?_
          refine SL.pass (d := some 103) (by decide) (by kernel_rfl) ?_
          refine SL.pass (d := some 104) (by decide) (by kernel_rfl) ?_
          refine SL.ok (by decide) (OK.run 105 (.bool false) (by kernel_rfl)) ?_
          refine SL.ok (by decide) (OK.run 4 (.bool false) (by kernel_rfl)) ?_
          refine SL.done ?_
          refine TL.done (by kernel_rfl) ?_
          refine J.run 0 (rRest K25_22) [(4, .bool false)] w21 (by kernel_rfl) ?_
          refine J.ret Tryz.f25 [.bool false] Tryz.func25 ⟨by kernel_rfl, trivial⟩ ?_
          refine hR _ _ ?_
          exact ⟨congrArg Value.bool (by unfold namedB; (repeat first | rw [if_pos (by omega)] | rw [if_neg (by omega)]); rw [show tyOK p i.gOp i.gK = false from decide_eq_false (by omega)]; rfl), S21.nil⟩
        ·skip
         refine J.drawStill S19 24 Tryz.mixed (by kernel_rfl) (by kernel_rfl) (by kernel_rfl) ?_
         intro w22 S22
         refine SL.ok (by decide) (OK.run 83 (iv (i.gK / 16384)) (by kernel_rfl)) ?_
         refine SL.ok (by decide) (OK.run 84 (iv (p.gTypes_n : Int)) (by kernel_rfl)) ?_
         refine SL.ok (by decide) (OK.run 85 (.bool (decide ((i.gK / 16384) < (p.gTypes_n : Int)))) (by kernel_rfl)) ?_
         refine SL.head (.bool false) (congrArg Value.bool (decide_eq_false fk9)) ?_
         refine SL.ok (by decide) (OK.run 86 (.bool false) (by kernel_rfl)) ?_
         refine SL.pass (d := some 87) (by decide) (by kernel_rfl) ?_
         refine SL.pass (d := some 88) (by decide) (by kernel_rfl) ?_
         refine SL.pass (d := some 89) (by decide) (by kernel_rfl) ?_
         refine SL.ok (by decide) (OK.run 90 (.bool false) (by kernel_rfl)) ?_
         refine SL.ok (by decide) (OK.run 91 (.bool false) (by kernel_rfl)) ?_
         refine SL.pass (d := some 92) (by decide) (by kernel_rfl) ?_
         refine SL.pass (d := some 93) (by decide) (by kernel_rfl) ?_
         refine SL.pass (d := some 94) (by decide) (by kernel_rfl) ?_
         refine SL.pass (d := some 95) (by decide) (by kernel_rfl) ?_
         refine SL.pass (d := some 96) (by decide) (by kernel_rfl) ?_
         refine SL.pass (d := some 97) (by decide) (by kernel_rfl) ?_
         refine SL.pass (d := some 98) (by decide) (by kernel_rfl) ?_
         refine SL.pass (d := some 99) (by decide) (by kernel_rfl) ?_
         refine SL.pass (d := some 100) (by decide) (by kernel_rfl) ?_
         refine SL.pass (d := some 101) (by decide) (by kernel_rfl) ?_
         refine SL.pass (d := some 102) (by decide) (by kernel_rfl) ?_
         refine SL.pass (d := some 103) (by decide) (by kernel_rfl) ?_
         refine SL.pass (d := some 104) (by decide) (by kernel_rfl) ?_
         refine SL.ok (by decide) (OK.run 105 (.bool false) (by kernel_rfl)) ?_
         refine SL.ok (by decide) (OK.run 4 (.bool false) (by kernel_rfl)) ?_
         refine SL.done ?_
         refine TL.done (by kernel_rfl) ?_
         refine J.run 0 (rRest K25_22) [(4, .bool false)] w22 (by kernel_rfl) ?_
         refine J.ret Tryz.f25 [.bool false] Tryz.func25 ⟨by kernel_rfl, trivial⟩ ?_
         refine hR _ _ ?_
         exact ⟨congrArg Value.bool (by unfold namedB; (repeat first | rw [if_pos (by omega)] | rw [if_neg (by omega)]); rw [show tyOK p i.gOp i.gK = false from decide_eq_false (by omega)]; rfl), S22.nil⟩
       ·skip
        refine J.head (.bool false) (congrArg Value.bool fk8) ?_
        have fb6 := htj80.2 fk8
        refine J.run 7 K25_23 [(106, .bool (i.gOp == 13)), (23, iv i.gOp), (8, iv (p.gTypes_n : Int)), (6, iv (i.gK / 128 % 128)), (5, iv (i.gK / 16384)), (3, pv b2), (2, pv b1)] w19 (by kernel_rfl) ?_
        have X4 : ∀ (tj106 : Bool) (w23 : World), ((tj106 = true → (i.gOp = 13 ∨ i.gOp = 14)) ∧ (tj106 = false → ¬ (i.gOp = 13 ∨ i.gOp = 14))) → Sep w [box b2 (insC i) 44, box b1 (prgC p) 28] w23 → J Tryz.prog 25 157 R K25_24 [(23, iv i.gOp), (8, iv (p.gTypes_n : Int)), (6, iv (i.gK / 128 % 128)), (5, iv (i.gK / 16384)), (3, pv b2), (2, pv b1), (106, .bool tj106)] w23 := by
         intro tj106 w23 htj106 S23
         refine J.run 0 K25_24 [(106, .bool tj106), (23, iv i.gOp), (8, iv (p.gTypes_n : Int)), (6, iv (i.gK / 128 % 128)), (5, iv (i.gK / 16384)), (3, pv b2), (2, pv b1)] w23 (by kernel_rfl) ?_
         rcases Bool.eq_false_or_eq_true tj106 with fk11 | fk11
         ·skip
          refine J.head (.bool true) (congrArg Value.bool fk11) ?_
          have fb7 := htj106.1 fk11
          refine J.run 2 K25_25 [(8, iv (p.gTypes_n : Int)), (6, iv (i.gK / 128 % 128)), (5, iv (i.gK / 16384)), (2, pv b1)] w23 (by kernel_rfl) ?_
          by_cases fk12 : (i.gK / 16384) < (p.gTypes_n : Int)
          ·skip
           by_cases fk13 : (i.gK / 128 % 128) < (p.gTypes_n : Int)
           ·skip
            obtain ⟨p6, hp6, hc6⟩ := q5.at fx0 (i.gK / 16384).toNat (by omega)
            have hel6 := getD_Q q6 fx0 (n := (i.gK / 16384).toNat) (by have := q5.len_eq; omega)
            obtain ⟨q76, q77, q78, q79, q80, q81, q82, q83, q84, _⟩ := id hel6
            obtain ⟨p7, hp7, hc7⟩ := q5.at fx0 (i.gK / 128 % 128).toNat (by omega)
            have hel7 := getD_Q q6 fx0 (n := (i.gK / 128 % 128).toNat) (by have := q5.len_eq; omega)
            obtain ⟨q85, q86, q87, q88, q89, q90, q91, q92, q93, _⟩ := id hel7
            refine J.drawStill S23 24 Tryz.mixed (by kernel_rfl) (by kernel_rfl) (by kernel_rfl) ?_
            intro w24 S24
            refine SL.ok (by decide) (OK.run 109 (iv (i.gK / 16384)) (by kernel_rfl)) ?_
            refine SL.ok (by decide) (OK.run 110 (iv (p.gTypes_n : Int)) (by kernel_rfl)) ?_
            refine SL.ok (by decide) (OK.run 111 (.bool (decide ((i.gK / 16384) < (p.gTypes_n : Int)))) (by kernel_rfl)) ?_
            refine SL.head (.bool true) (congrArg Value.bool (decide_eq_true fk12)) ?_
            refine SL.ok (by decide) (OK.run 112 (.bool true) (by kernel_rfl)) ?_
            refine SL.ok (by decide) (OK.run 113 (iv (i.gK / 128 % 128)) (by kernel_rfl)) ?_
            refine SL.ok (by decide) (OK.run 114 (iv (p.gTypes_n : Int)) (by kernel_rfl)) ?_
            refine SL.ok (by decide) (OK.run 115 (.bool (decide ((i.gK / 128 % 128) < (p.gTypes_n : Int)))) (by kernel_rfl)) ?_
            refine SL.head (.bool true) (congrArg Value.bool (decide_eq_true fk13)) ?_
            refine SL.ok (by decide) (OK.run 116 (.bool true) (by kernel_rfl)) ?_
            refine SL.ok (by decide) (OK.run 117 (.bool true) (by kernel_rfl)) ?_
            refine SL.ok (by decide) (OK.run 118 (.pointer (some ⟨b1, 1, none⟩)) (by kernel_rfl)) ?_
            refine SL.ok (by decide) (OK.ldBox S24 1 119 23 1 (.slice p.gTypes_a p.gTypes_n p.gTypes_c) (by kernel_rfl) rfl (by kernel_rfl)) ?_
            refine SL.ok (by decide) (OK.run 120 (iv (i.gK / 16384)) (by kernel_rfl)) ?_
            refine SL.ok (by decide) (OK.index 121 23 10 p.gTypes_a p6 p.gTypes_n (i.gK / 16384).toNat (i.gK / 16384) (p6.add ((i.gK / 16384).toNat * 10)) (by kernel_rfl) (by kernel_rfl) hp6 (by omega) (by omega) rfl) ?_
            refine SL.ok (by decide) (OK.run 122 (.pointer (some ((p6.add ((i.gK / 16384).toNat * 10)).add 5))) (by kernel_rfl)) ?_
            refine SL.ok (by decide) (OK.ldCells 123 60 ((p6.add ((i.gK / 16384).toNat * 10)).add 5) (fuC (p.gTypes_l.getD (i.gK / 16384).toNat fx0)) (by kernel_rfl) (by kernel_rfl) (by kernel_rfl) (fun j_ v_ hj_ => by rw [addr_add_add]; exact ((fun j_ v_ hj_ => S24.cell (hc6 j_ v_ hj_))) (5 + j_) v_ (by rcases j_ with _ | _ | _ | _ | _ | j_ <;> first | exact hj_ | (cases hj_; done) | (simp at hj_; done)))) ?_
            refine SL.ok (by decide) (OK.run 124 (.pointer (some ⟨b1, 1, none⟩)) (by kernel_rfl)) ?_
            refine SL.ok (by decide) (OK.ldBox S24 1 125 23 1 (.slice p.gTypes_a p.gTypes_n p.gTypes_c) (by kernel_rfl) rfl (by kernel_rfl)) ?_
            refine SL.ok (by decide) (OK.run 126 (iv (i.gK / 128 % 128)) (by kernel_rfl)) ?_
            refine SL.ok (by decide) (OK.index 127 23 10 p.gTypes_a p7 p.gTypes_n (i.gK / 128 % 128).toNat (i.gK / 128 % 128) (p7.add ((i.gK / 128 % 128).toNat * 10)) (by kernel_rfl) (by kernel_rfl) hp7 (by omega) (by omega) rfl) ?_
            refine SL.ok (by decide) (OK.run 128 (.pointer (some ((p7.add ((i.gK / 128 % 128).toNat * 10)).add 5))) (by kernel_rfl)) ?_
            refine SL.ok (by decide) (OK.ldCells 129 60 ((p7.add ((i.gK / 128 % 128).toNat * 10)).add 5) (fuC (p.gTypes_l.getD (i.gK / 128 % 128).toNat fx0)) (by kernel_rfl) (by kernel_rfl) (by kernel_rfl) (fun j_ v_ hj_ => by rw [addr_add_add]; exact ((fun j_ v_ hj_ => S24.cell (hc7 j_ v_ hj_))) (5 + j_) v_ (by rcases j_ with _ | _ | _ | _ | _ | j_ <;> first | exact hj_ | (cases hj_; done) | (simp at hj_; done)))) ?_
            refine SL.ok (by decide) (OK.eqS 130 true 60 (fuA (p.gTypes_l.getD (i.gK / 16384).toNat fx0)) (fuA (p.gTypes_l.getD (i.gK / 128 % 128).toNat fx0)) ((((p.gTypes_l.getD (i.gK / 16384).toNat fx0).gUnit_M) == ((p.gTypes_l.getD (i.gK / 128 % 128).toNat fx0).gUnit_M)) && ((((p.gTypes_l.getD (i.gK / 16384).toNat fx0).gUnit_Kg) == ((p.gTypes_l.getD (i.gK / 128 % 128).toNat fx0).gUnit_Kg)) && ((((p.gTypes_l.getD (i.gK / 16384).toNat fx0).gUnit_S) == ((p.gTypes_l.getD (i.gK / 128 % 128).toNat fx0).gUnit_S)) && ((((p.gTypes_l.getD (i.gK / 16384).toNat fx0).gUnit_A) == ((p.gTypes_l.getD (i.gK / 128 % 128).toNat fx0).gUnit_A)) && ((((p.gTypes_l.getD (i.gK / 16384).toNat fx0).gUnit_K) == ((p.gTypes_l.getD (i.gK / 128 % 128).toNat fx0).gUnit_K)) && true))))) (by kernel_rfl) (by kernel_rfl) (by kernel_rfl) ((((p.gTypes_l.getD (i.gK / 16384).toNat fx0).gUnit_M) == ((p.gTypes_l.getD (i.gK / 128 % 128).toNat fx0).gUnit_M)) && ((((p.gTypes_l.getD (i.gK / 16384).toNat fx0).gUnit_Kg) == ((p.gTypes_l.getD (i.gK / 128 % 128).toNat fx0).gUnit_Kg)) && ((((p.gTypes_l.getD (i.gK / 16384).toNat fx0).gUnit_S) == ((p.gTypes_l.getD (i.gK / 128 % 128).toNat fx0).gUnit_S)) && ((((p.gTypes_l.getD (i.gK / 16384).toNat fx0).gUnit_A) == ((p.gTypes_l.getD (i.gK / 128 % 128).toNat fx0).gUnit_A)) && (((p.gTypes_l.getD (i.gK / 16384).toNat fx0).gUnit_K) == ((p.gTypes_l.getD (i.gK / 128 % 128).toNat fx0).gUnit_K)))))) (by simp)) ?_
            refine SL.ok (by decide) (OK.run 131 (.bool ((((p.gTypes_l.getD (i.gK / 16384).toNat fx0).gUnit_M) == ((p.gTypes_l.getD (i.gK / 128 % 128).toNat fx0).gUnit_M)) && ((((p.gTypes_l.getD (i.gK / 16384).toNat fx0).gUnit_Kg) == ((p.gTypes_l.getD (i.gK / 128 % 128).toNat fx0).gUnit_Kg)) && ((((p.gTypes_l.getD (i.gK / 16384).toNat fx0).gUnit_S) == ((p.gTypes_l.getD (i.gK / 128 % 128).toNat fx0).gUnit_S)) && ((((p.gTypes_l.getD (i.gK / 16384).toNat fx0).gUnit_A) == ((p.gTypes_l.getD (i.gK / 128 % 128).toNat fx0).gUnit_A)) && (((p.gTypes_l.getD (i.gK / 16384).toNat fx0).gUnit_K) == ((p.gTypes_l.getD (i.gK / 128 % 128).toNat fx0).gUnit_K))))))) (by kernel_rfl)) ?_
            refine SL.ok (by decide) (OK.run 4 (.bool ((((p.gTypes_l.getD (i.gK / 16384).toNat fx0).gUnit_M) == ((p.gTypes_l.getD (i.gK / 128 % 128).toNat fx0).gUnit_M)) && ((((p.gTypes_l.getD (i.gK / 16384).toNat fx0).gUnit_Kg) == ((p.gTypes_l.getD (i.gK / 128 % 128).toNat fx0).gUnit_Kg)) && ((((p.gTypes_l.getD (i.gK / 16384).toNat fx0).gUnit_S) == ((p.gTypes_l.getD (i.gK / 128 % 128).toNat fx0).gUnit_S)) && ((((p.gTypes_l.getD (i.gK / 16384).toNat fx0).gUnit_A) == ((p.gTypes_l.getD (i.gK / 128 % 128).toNat fx0).gUnit_A)) && (((p.gTypes_l.getD (i.gK / 16384).toNat fx0).gUnit_K) == ((p.gTypes_l.getD (i.gK / 128 % 128).toNat fx0).gUnit_K))))))) (by kernel_rfl)) ?_
            refine SL.done ?_
            refine TL.done (by kernel_rfl) ?_
            refine J.run 0 (rRest K25_25) [(4, .bool ((((p.gTypes_l.getD (i.gK / 16384).toNat fx0).gUnit_M) == ((p.gTypes_l.getD (i.gK / 128 % 128).toNat fx0).gUnit_M)) && ((((p.gTypes_l.getD (i.gK / 16384).toNat fx0).gUnit_Kg) == ((p.gTypes_l.getD (i.gK / 128 % 128).toNat fx0).gUnit_Kg)) && ((((p.gTypes_l.getD (i.gK / 16384).toNat fx0).gUnit_S) == ((p.gTypes_l.getD (i.gK / 128 % 128).toNat fx0).gUnit_S)) && ((((p.gTypes_l.getD (i.gK / 16384).toNat fx0).gUnit_A) == ((p.gTypes_l.getD (i.gK / 128 % 128).toNat fx0).gUnit_A)) && (((p.gTypes_l.getD (i.gK / 16384).toNat fx0).gUnit_K) == ((p.gTypes_l.getD (i.gK / 128 % 128).toNat fx0).gUnit_K)))))))] w24 (by kernel_rfl) ?_
            refine J.ret Tryz.f25 [.bool ((((p.gTypes_l.getD (i.gK / 16384).toNat fx0).gUnit_M) == ((p.gTypes_l.getD (i.gK / 128 % 128).toNat fx0).gUnit_M)) && ((((p.gTypes_l.getD (i.gK / 16384).toNat fx0).gUnit_Kg) == ((p.gTypes_l.getD (i.gK / 128 % 128).toNat fx0).gUnit_Kg)) && ((((p.gTypes_l.getD (i.gK / 16384).toNat fx0).gUnit_S) == ((p.gTypes_l.getD (i.gK / 128 % 128).toNat fx0).gUnit_S)) && ((((p.gTypes_l.getD (i.gK / 16384).toNat fx0).gUnit_A) == ((p.gTypes_l.getD (i.gK / 128 % 128).toNat fx0).gUnit_A)) && (((p.gTypes_l.getD (i.gK / 16384).toNat fx0).gUnit_K) == ((p.gTypes_l.getD (i.gK / 128 % 128).toNat fx0).gUnit_K))))))] Tryz.func25 ⟨by kernel_rfl, trivial⟩ ?_
            refine hR _ _ ?_
            rcases (show i.gOp = 13 ∨ i.gOp = 14 by omega) with ho_ | ho_
            · have e0 : tyOK p i.gOp i.gK = true := tyOK_iff.2 (by omega)
              obtain ⟨e1, e2, e3⟩ := ty_yes e0
              rw [if_pos (by omega)] at e2
              rw [if_neg (by omega)] at e3
              exact ⟨congrArg Value.bool (by unfold namedB; (repeat first | rw [if_pos (by omega)] | rw [if_neg (by omega)]); rw [e0, Bool.true_and, e1, e2, e3]; unfold unitsB; (repeat first | rw [if_pos (by omega)] | rw [if_neg (by omega)]); rfl), S24.nil⟩
            · have e0 : tyOK p i.gOp i.gK = true := tyOK_iff.2 (by omega)
              obtain ⟨e1, e2, e3⟩ := ty_yes e0
              rw [if_pos (by omega)] at e2
              rw [if_neg (by omega)] at e3
              exact ⟨congrArg Value.bool (by unfold namedB; (repeat first | rw [if_pos (by omega)] | rw [if_neg (by omega)]); rw [e0, Bool.true_and, e1, e2, e3]; unfold unitsB; (repeat first | rw [if_pos (by omega)] | rw [if_neg (by omega)]); rfl), S24.nil⟩
           ·skip
            refine J.drawStill S23 24 Tryz.mixed (by kernel_rfl) (by kernel_rfl) (by kernel_rfl) ?_
            intro w25 S25
            refine SL.ok (by decide) (OK.run 109 (iv (i.gK / 16384)) (by kernel_rfl)) ?_
            refine SL.ok (by decide) (OK.run 110 (iv (p.gTypes_n : Int)) (by kernel_rfl)) ?_
            refine SL.ok (by decide) (OK.run 111 (.bool (decide ((i.gK / 16384) < (p.gTypes_n : Int)))) (by kernel_rfl)) ?_
            refine SL.head (.bool true) (congrArg Value.bool (decide_eq_true fk12)) ?_
            refine SL.ok (by decide) (OK.run 112 (.bool true) (by kernel_rfl)) ?_
            refine SL.ok (by decide) (OK.run 113 (iv (i.gK / 128 % 128)) (by kernel_rfl)) ?_
            refine SL.ok (by decide) (OK.run 114 (iv (p.gTypes_n : Int)) (by kernel_rfl)) ?_
            refine SL.ok (by decide) (OK.run 115 (.bool (decide ((i.gK / 128 % 128) < (p.gTypes_n : Int)))) (by kernel_rfl)) ?_
            refine SL.head (.bool false) (congrArg Value.bool (decide_eq_false fk13)) ?_
            refine SL.ok (by decide) (OK.run 116 (.bool false) (by kernel_rfl)) ?_
            refine SL.ok (by decide) (OK.run 117 (.bool false) (by kernel_rfl)) ?_
            refine SL.pass (d := some 118) (by decide) (by kernel_rfl) ?_
            refine SL.pass (d := some 119) (by decide) (by kernel_rfl) ?_
            refine SL.pass (d := some 120) (by decide) (by kernel_rfl) ?_
            refine SL.pass (d := some 121) (by decide) (by kernel_rfl) ?_
            refine SL.pass (d := some 122) (by decide) (by kernel_rfl) ?_
            refine SL.pass (d := some 123) (by decide) (by kernel_rfl) ?_
            refine SL.pass (d := some 124) (by decide) (by kernel_rfl) ?_
            refine SL.pass (d := some 125) (by decide) (by kernel_rfl) ?_
            refine SL.pass (d := some 126) (by decide) (by kernel_rfl) ?_
            refine SL.pass (d := some 127) (by decide) (by kernel_rfl) ?_
            refine SL.pass (d := some 128) (by decide) (by kernel_rfl) ?_
            refine SL.pass (d := some 129) (by decide) (by kernel_rfl) ?_
            refine SL.pass (d := some 130) (by decide) (by kernel_rfl) ?_
            refine SL.ok (by decide) (OK.run 131 (.bool false) (by kernel_rfl)) ?_
            refine SL.ok (by decide) (OK.run 4 (.bool false) (by kernel_rfl)) ?_
            refine SL.done ?_
            refine TL.done (by kernel_rfl) ?_
            refine J.run 0 (rRest K25_25) [(4, .bool false)] w25 (by kernel_rfl) ?_
            refine J.ret Tryz.f25 [.bool false] Tryz.func25 ⟨by kernel_rfl, trivial⟩ ?_
            refine hR _ _ ?_
            exact ⟨congrArg Value.bool (by unfold namedB; (repeat first | rw [if_pos (by omega)] | rw [if_neg (by omega)]); rw [show tyOK p i.gOp i.gK = false from decide_eq_false (by omega)]; rfl), S25.nil⟩
          ·skip
           refine J.drawStill S23 24 Tryz.mixed (by kernel_rfl) (by kernel_rfl) (by kernel_rfl) ?_
           intro w26 S26
           refine SL.ok (by decide) (OK.run 109 (iv (i.gK / 16384)) (by kernel_rfl)) ?_
           refine SL.ok (by decide) (OK.run 110 (iv (p.gTypes_n : Int)) (by kernel_rfl)) ?_
           refine SL.ok (by decide) (OK.run 111 (.bool (decide ((i.gK / 16384) < (p.gTypes_n : Int)))) (by kernel_rfl)) ?_
           refine SL.head (.bool false) (congrArg Value.bool (decide_eq_false fk12)) ?_
           refine SL.ok (by decide) (OK.run 112 (.bool false) (by kernel_rfl)) ?_
           refine SL.pass (d := some 113) (by decide) (by kernel_rfl) ?_
           refine SL.pass (d := some 114) (by decide) (by kernel_rfl) ?_
           refine SL.pass (d := some 115) (by decide) (by kernel_rfl) ?_
           refine SL.ok (by decide) (OK.run 116 (.bool false) (by kernel_rfl)) ?_
           refine SL.ok (by decide) (OK.run 117 (.bool false) (by kernel_rfl)) ?_
           refine SL.pass (d := some 118) (by decide) (by kernel_rfl) ?_
           refine SL.pass (d := some 119) (by decide) (by kernel_rfl) ?_
           refine SL.pass (d := some 120) (by decide) (by kernel_rfl) ?_
           refine SL.pass (d := some 121) (by decide) (by kernel_rfl) ?_
           refine SL.pass (d := some 122) (by decide) (by kernel_rfl) ?_
           refine SL.pass (d := some 123) (by decide) (by kernel_rfl) ?_
           refine SL.pass (d := some 124) (by decide) (by kernel_rfl) ?_
           refine SL.pass (d := some 125) (by decide) (by kernel_rfl) ?_
           refine SL.pass (d := some 126) (by decide) (by kernel_rfl) ?_
           refine SL.pass (d := some 127) (by decide) (by kernel_rfl) ?_
           refine SL.pass (d := some 128) (by decide) (by kernel_rfl) ?_
           refine SL.pass (d := some 129) (by decide) (by kernel_rfl) ?_
           refine SL.pass (d := some 130) (by decide) (by kernel_rfl) ?_
           refine SL.ok (by decide) (OK.run 131 (.bool false) (by kernel_rfl)) ?_
           refine SL.ok (by decide) (OK.run 4 (.bool false) (by kernel_rfl)) ?_
           refine SL.done ?_
           refine TL.done (by kernel_rfl) ?_
           refine J.run 0 (rRest K25_25) [(4, .bool false)] w26 (by kernel_rfl) ?_
           refine J.ret Tryz.f25 [.bool false] Tryz.func25 ⟨by kernel_rfl, trivial⟩ ?_
           refine hR _ _ ?_
           exact ⟨congrArg Value.bool (by unfold namedB; (repeat first | rw [if_pos (by omega)] | rw [if_neg (by omega)]); rw [show tyOK p i.gOp i.gK = false from decide_eq_false (by omega)]; rfl), S26.nil⟩
         ·skip
          refine J.head (.bool false) (congrArg Value.bool fk11) ?_
          have fb8 := htj106.2 fk11
          refine J.run 6 K25_26 [(132, .bool (i.gOp == 20)), (23, iv i.gOp), (3, pv b2), (2, pv b1)] w23 (by kernel_rfl) ?_
          by_cases fk14 : i.gOp = 20
          ·skip
           refine J.head (.bool true) (congrArg Value.bool (beq_iff_eq.2 fk14)) ?_
           refine J.run 4 K25_27 [(134, .pointer (some ⟨b2, 4, none⟩)), (2, pv b1)] w23 (by kernel_rfl) ?_
           refine J.ok (OK.ldBox S23 0 135 3 4 (iv i.gK) (by kernel_rfl) rfl (by kernel_rfl)) ?_
           refine J.run 1 K25_28 [(136, .pointer (some ⟨b1, 2, none⟩)), (135, iv i.gK)] w23 (by kernel_rfl) ?_
           refine J.ok (OK.ldBox S23 1 137 24 2 (.slice p.gCurves_a p.gCurves_n p.gCurves_c) (by kernel_rfl) rfl (by kernel_rfl)) ?_
           refine J.run 4 K25_29 [(4, .bool (decide (i.gK < (p.gCurves_n : Int))))] w23 (by kernel_rfl) ?_
           refine J.ret Tryz.f25 [.bool (decide (i.gK < (p.gCurves_n : Int)))] Tryz.func25 ⟨by kernel_rfl, trivial⟩ ?_
           refine hR _ _ ?_
           exact ⟨congrArg Value.bool (by unfold namedB; (repeat first | rw [if_pos (by omega)] | rw [if_neg (by omega)]); all_goals first | rfl | exact (decide_eq_true (by omega)).symm | exact (decide_eq_false (by omega)).symm), S23.nil⟩
          ·skip
           refine J.head (.bool false) (congrArg Value.bool (beq_eq_false_iff_ne.2 fk14)) ?_
           refine J.run 6 K25_30 [(140, .bool (i.gOp == 21)), (23, iv i.gOp), (3, pv b2), (2, pv b1)] w23 (by kernel_rfl) ?_
           by_cases fk15 : i.gOp = 21
           ·skip
            refine J.head (.bool true) (congrArg Value.bool (beq_iff_eq.2 fk15)) ?_
            refine J.run 4 K25_31 [(142, .pointer (some ⟨b2, 4, none⟩)), (2, pv b1)] w23 (by kernel_rfl) ?_
            refine J.ok (OK.ldBox S23 0 143 3 4 (iv i.gK) (by kernel_rfl) rfl (by kernel_rfl)) ?_
            refine J.run 1 K25_32 [(144, .pointer (some ⟨b1, 3, none⟩)), (143, iv i.gK)] w23 (by kernel_rfl) ?_
            refine J.ok (OK.ldBox S23 1 145 25 3 (.slice p.gMaps_a p.gMaps_n p.gMaps_c) (by kernel_rfl) rfl (by kernel_rfl)) ?_
            refine J.run 4 K25_33 [(4, .bool (decide (i.gK < (p.gMaps_n : Int))))] w23 (by kernel_rfl) ?_
            refine J.ret Tryz.f25 [.bool (decide (i.gK < (p.gMaps_n : Int)))] Tryz.func25 ⟨by kernel_rfl, trivial⟩ ?_
            refine hR _ _ ?_
            exact ⟨congrArg Value.bool (by unfold namedB; (repeat first | rw [if_pos (by omega)] | rw [if_neg (by omega)]); all_goals first | rfl | exact (decide_eq_true (by omega)).symm | exact (decide_eq_false (by omega)).symm), S23.nil⟩
           ·skip
            refine J.head (.bool false) (congrArg Value.bool (beq_eq_false_iff_ne.2 fk15)) ?_
            refine J.run 6 K25_34 [(148, .bool (i.gOp == 22)), (3, pv b2), (2, pv b1)] w23 (by kernel_rfl) ?_
            by_cases fk16 : i.gOp = 22
            ·skip
             refine J.head (.bool true) (congrArg Value.bool (beq_iff_eq.2 fk16)) ?_
             refine J.run 4 K25_35 [(150, .pointer (some ⟨b2, 4, none⟩)), (2, pv b1)] w23 (by kernel_rfl) ?_
             refine J.ok (OK.ldBox S23 0 151 3 4 (iv i.gK) (by kernel_rfl) rfl (by kernel_rfl)) ?_
             refine J.run 1 K25_36 [(152, iv (IntKind.wrap .i64 (Int.tdiv i.gK 32))), (2, pv b1)] w23 (by kernel_rfl) ?_
             refine J.head (iv (i.gK / 32)) (congrArg (Value.int .i64) (IntWalk.i64_quo _ _ (by omega))) ?_
             refine J.run 1 K25_37 [(153, iv (IntKind.wrap .i64 ((i.gK / 32) + 1))), (2, pv b1)] w23 (by kernel_rfl) ?_
             refine J.head (iv ((i.gK / 32) + 1)) (congrArg (Value.int .i64) (IntWalk.i64_in _ (by omega))) ?_
             refine J.run 1 K25_38 [(154, .pointer (some ⟨b1, 4, none⟩)), (153, iv ((i.gK / 32) + 1))] w23 (by kernel_rfl) ?_
             refine J.ok (OK.ldBox S23 1 155 3 4 (iv p.gCells) (by kernel_rfl) rfl (by kernel_rfl)) ?_
             refine J.run 3 K25_39 [(4, .bool (decide (((i.gK / 32) + 1) < p.gCells)))] w23 (by kernel_rfl) ?_
             refine J.ret Tryz.f25 [.bool (decide (((i.gK / 32) + 1) < p.gCells))] Tryz.func25 ⟨by kernel_rfl, trivial⟩ ?_
             refine hR _ _ ?_
             exact ⟨congrArg Value.bool (by unfold namedB; (repeat first | rw [if_pos (by omega)] | rw [if_neg (by omega)]); all_goals first | rfl | exact (decide_eq_true (by omega)).symm | exact (decide_eq_false (by omega)).symm), S23.nil⟩
            ·skip
             refine J.head (.bool false) (congrArg Value.bool (beq_eq_false_iff_ne.2 fk16)) ?_
             refine J.run 7 K25_40 [(4, .bool true)] w23 (by kernel_rfl) ?_
             refine J.ret Tryz.f25 [.bool true] Tryz.func25 ⟨by kernel_rfl, trivial⟩ ?_
             refine hR _ _ ?_
             exact ⟨congrArg Value.bool (by unfold namedB; (repeat first | rw [if_pos (by omega)] | rw [if_neg (by omega)]); all_goals first | rfl | exact (decide_eq_true (by omega)).symm | exact (decide_eq_false (by omega)).symm), S23.nil⟩
        by_cases fk17 : i.gOp = 13
        ·skip
         refine J.head (.bool true) (congrArg Value.bool (beq_iff_eq.2 fk17)) ?_
         refine J.run 2 K25_24 [(23, iv i.gOp), (8, iv (p.gTypes_n : Int)), (6, iv (i.gK / 128 % 128)), (5, iv (i.gK / 16384)), (3, pv b2), (2, pv b1), (106, .bool true)] w19 (by kernel_rfl) ?_
         exact X4 true w19 (⟨fun h_ => by first | (cases h_; done) | (have h2_ := of_decide_eq_true h_; omega) | (have h2_ := beq_iff_eq.1 h_; omega) | omega, fun h_ => by first | (cases h_; done) | (have h2_ := of_decide_eq_false h_; omega) | (have h2_ := beq_eq_false_iff_ne.1 h_; omega) | omega⟩) S19
        ·skip
         refine J.head (.bool false) (congrArg Value.bool (beq_eq_false_iff_ne.2 fk17)) ?_
         refine J.run 5 K25_24 [(23, iv i.gOp), (8, iv (p.gTypes_n : Int)), (6, iv (i.gK / 128 % 128)), (5, iv (i.gK / 16384)), (3, pv b2), (2, pv b1), (106, .bool (i.gOp == 14))] w19 (by kernel_rfl) ?_
         exact X4 (i.gOp == 14) w19 (⟨fun h_ => by first | (cases h_; done) | (have h2_ := of_decide_eq_true h_; omega) | (have h2_ := beq_iff_eq.1 h_; omega) | omega, fun h_ => by first | (cases h_; done) | (have h2_ := of_decide_eq_false h_; omega) | (have h2_ := beq_eq_false_iff_ne.1 h_; omega) | omega⟩) S19
      by_cases fk18 : i.gOp = 9
      ·skip
       refine J.head (.bool true) (congrArg Value.bool (beq_iff_eq.2 fk18)) ?_
       refine J.run 2 K25_21 [(23, iv i.gOp), (8, iv (p.gTypes_n : Int)), (7, iv (i.gK % 128)), (6, iv (i.gK / 128 % 128)), (5, iv (i.gK / 16384)), (3, pv b2), (2, pv b1), (80, .bool true)] w5 (by kernel_rfl) ?_
       exact X3 true w5 (⟨fun h_ => by first | (cases h_; done) | (have h2_ := of_decide_eq_true h_; omega) | (have h2_ := beq_iff_eq.1 h_; omega) | omega, fun h_ => by first | (cases h_; done) | (have h2_ := of_decide_eq_false h_; omega) | (have h2_ := beq_eq_false_iff_ne.1 h_; omega) | omega⟩) S5
      ·skip
       refine J.head (.bool false) (congrArg Value.bool (beq_eq_false_iff_ne.2 fk18)) ?_
       refine J.run 5 K25_21 [(23, iv i.gOp), (8, iv (p.gTypes_n : Int)), (7, iv (i.gK % 128)), (6, iv (i.gK / 128 % 128)), (5, iv (i.gK / 16384)), (3, pv b2), (2, pv b1), (80, .bool (i.gOp == 10))] w5 (by kernel_rfl) ?_
       exact X3 (i.gOp == 10) w5 (⟨fun h_ => by first | (cases h_; done) | (have h2_ := of_decide_eq_true h_; omega) | (have h2_ := beq_iff_eq.1 h_; omega) | omega, fun h_ => by first | (cases h_; done) | (have h2_ := of_decide_eq_false h_; omega) | (have h2_ := beq_eq_false_iff_ne.1 h_; omega) | omega⟩) S5
    by_cases fk19 : i.gOp = 5
    ·skip
     refine J.head (.bool true) (congrArg Value.bool (beq_iff_eq.2 fk19)) ?_
     refine J.run 2 K25_11 [(23, iv i.gOp), (8, iv (p.gTypes_n : Int)), (7, iv (i.gK % 128)), (6, iv (i.gK / 128 % 128)), (5, iv (i.gK / 16384)), (3, pv b2), (2, pv b1), (32, .bool true)] w4 (by kernel_rfl) ?_
     exact X2 true w4 (⟨fun h_ => by first | (cases h_; done) | (have h2_ := of_decide_eq_true h_; omega) | (have h2_ := beq_iff_eq.1 h_; omega) | omega, fun h_ => by first | (cases h_; done) | (have h2_ := of_decide_eq_false h_; omega) | (have h2_ := beq_eq_false_iff_ne.1 h_; omega) | omega⟩) S4
    ·skip
     refine J.head (.bool false) (congrArg Value.bool (beq_eq_false_iff_ne.2 fk19)) ?_
     refine J.run 6 K25_41 [(32, .bool (i.gOp == 6)), (23, iv i.gOp), (8, iv (p.gTypes_n : Int)), (7, iv (i.gK % 128)), (6, iv (i.gK / 128 % 128)), (5, iv (i.gK / 16384)), (3, pv b2), (2, pv b1)] w4 (by kernel_rfl) ?_
     by_cases fk20 : i.gOp = 6
     ·skip
      refine J.head (.bool true) (congrArg Value.bool (beq_iff_eq.2 fk20)) ?_
      refine J.run 2 K25_11 [(23, iv i.gOp), (8, iv (p.gTypes_n : Int)), (7, iv (i.gK % 128)), (6, iv (i.gK / 128 % 128)), (5, iv (i.gK / 16384)), (3, pv b2), (2, pv b1), (32, .bool true)] w4 (by kernel_rfl) ?_
      exact X2 true w4 (⟨fun h_ => by first | (cases h_; done) | (have h2_ := of_decide_eq_true h_; omega) | (have h2_ := beq_iff_eq.1 h_; omega) | omega, fun h_ => by first | (cases h_; done) | (have h2_ := of_decide_eq_false h_; omega) | (have h2_ := beq_eq_false_iff_ne.1 h_; omega) | omega⟩) S4
     ·skip
      refine J.head (.bool false) (congrArg Value.bool (beq_eq_false_iff_ne.2 fk20)) ?_
      refine J.run 6 K25_42 [(32, .bool (i.gOp == 7)), (23, iv i.gOp), (8, iv (p.gTypes_n : Int)), (7, iv (i.gK % 128)), (6, iv (i.gK / 128 % 128)), (5, iv (i.gK / 16384)), (3, pv b2), (2, pv b1)] w4 (by kernel_rfl) ?_
      by_cases fk21 : i.gOp = 7
      ·skip
       refine J.head (.bool true) (congrArg Value.bool (beq_iff_eq.2 fk21)) ?_
       refine J.run 2 K25_11 [(23, iv i.gOp), (8, iv (p.gTypes_n : Int)), (7, iv (i.gK % 128)), (6, iv (i.gK / 128 % 128)), (5, iv (i.gK / 16384)), (3, pv b2), (2, pv b1), (32, .bool true)] w4 (by kernel_rfl) ?_
       exact X2 true w4 (⟨fun h_ => by first | (cases h_; done) | (have h2_ := of_decide_eq_true h_; omega) | (have h2_ := beq_iff_eq.1 h_; omega) | omega, fun h_ => by first | (cases h_; done) | (have h2_ := of_decide_eq_false h_; omega) | (have h2_ := beq_eq_false_iff_ne.1 h_; omega) | omega⟩) S4
      ·skip
       refine J.head (.bool false) (congrArg Value.bool (beq_eq_false_iff_ne.2 fk21)) ?_
       refine J.run 5 K25_11 [(23, iv i.gOp), (8, iv (p.gTypes_n : Int)), (7, iv (i.gK % 128)), (6, iv (i.gK / 128 % 128)), (5, iv (i.gK / 16384)), (3, pv b2), (2, pv b1), (32, .bool (i.gOp == 8))] w4 (by kernel_rfl) ?_
       exact X2 (i.gOp == 8) w4 (⟨fun h_ => by first | (cases h_; done) | (have h2_ := of_decide_eq_true h_; omega) | (have h2_ := beq_iff_eq.1 h_; omega) | omega, fun h_ => by first | (cases h_; done) | (have h2_ := of_decide_eq_false h_; omega) | (have h2_ := beq_eq_false_iff_ne.1 h_; omega) | omega⟩) S4
  by_cases fk22 : i.gOp = 2
  ·skip
   refine J.head (.bool true) (congrArg Value.bool (beq_iff_eq.2 fk22)) ?_
   refine J.run 2 K25_6 [(23, iv i.gOp), (8, iv (p.gTypes_n : Int)), (7, iv (i.gK % 128)), (6, iv (i.gK / 128 % 128)), (5, iv (i.gK / 16384)), (3, pv b2), (2, pv b1), (24, .bool true)] w3 (by kernel_rfl) ?_
   exact X1 true w3 (⟨fun h_ => by first | (cases h_; done) | (have h2_ := of_decide_eq_true h_; omega) | (have h2_ := beq_iff_eq.1 h_; omega) | omega, fun h_ => by first | (cases h_; done) | (have h2_ := of_decide_eq_false h_; omega) | (have h2_ := beq_eq_false_iff_ne.1 h_; omega) | omega⟩) S3
  ·skip
   refine J.head (.bool false) (congrArg Value.bool (beq_eq_false_iff_ne.2 fk22)) ?_
   refine J.run 5 K25_6 [(23, iv i.gOp), (8, iv (p.gTypes_n : Int)), (7, iv (i.gK % 128)), (6, iv (i.gK / 128 % 128)), (5, iv (i.gK / 16384)), (3, pv b2), (2, pv b1), (24, .bool (i.gOp == 3))] w3 (by kernel_rfl) ?_
   exact X1 (i.gOp == 3) w3 (⟨fun h_ => by first | (cases h_; done) | (have h2_ := of_decide_eq_true h_; omega) | (have h2_ := beq_iff_eq.1 h_; omega) | omega, fun h_ => by first | (cases h_; done) | (have h2_ := of_decide_eq_false h_; omega) | (have h2_ := beq_eq_false_iff_ne.1 h_; omega) | omega⟩) S3
 ·skip
  refine J.run 1 K25_43 [(14, iv (if 0 > i.gK then 0 else i.gK)), (3, pv b2), (2, pv b1)] w2 (by kernel_rfl) ?_
  refine J.head (iv 0) (congrArg (Value.int .i64) (by omega)) ?_
  refine J.callF 15 61 #[iv 0] hb61 (by kernel_rfl) (rtypes_any 0 _ (by omega)) ?_
  rintro _ w27 ⟨rfl, T4⟩
  have S27 : Sep w [box b2 (insC i) 44, box b1 (prgC p) 28] w27 := S2.trans T4
  clear T4 S2
  refine J.run 11 K25_44 [(19, .pointer (some ⟨b1, 1, none⟩)), (7, iv (0 % 128)), (6, iv (0 / 128 % 128)), (5, iv (0 / 16384)), (3, pv b2), (2, pv b1)] w27 (by kernel_rfl) ?_
  refine J.ok (OK.ldBox S27 1 20 23 1 (.slice p.gTypes_a p.gTypes_n p.gTypes_c) (by kernel_rfl) rfl (by kernel_rfl)) ?_
  refine J.run 7 K25_45 [(22, pv b2), (8, iv (p.gTypes_n : Int)), (7, iv (0 % 128)), (6, iv (0 / 128 % 128)), (5, iv (0 / 16384)), (3, pv b2), (2, pv b1)] w27 (by kernel_rfl) ?_
  refine J.ok (OK.ldBox S27 0 23 3 0 (iv i.gOp) (by kernel_rfl) rfl (by kernel_rfl)) ?_
  refine J.run 8 K25_46 [(24, .bool (i.gOp == 2)), (23, iv i.gOp), (8, iv (p.gTypes_n : Int)), (7, iv (0 % 128)), (6, iv (0 / 128 % 128)), (5, iv (0 / 16384)), (3, pv b2), (2, pv b1)] w27 (by kernel_rfl) ?_
  have fk24 : ¬ (i.gOp = 2) := by omega
  refine J.head (.bool false) (congrArg Value.bool (beq_eq_false_iff_ne.2 fk24)) ?_
  refine J.run 5 K25_47 [(24, .bool (i.gOp == 3)), (23, iv i.gOp), (8, iv (p.gTypes_n : Int)), (7, iv (0 % 128)), (6, iv (0 / 128 % 128)), (5, iv (0 / 16384)), (3, pv b2), (2, pv b1)] w27 (by kernel_rfl) ?_
  have fk26 : ¬ (i.gOp = 3) := by omega
  refine J.head (.bool false) (congrArg Value.bool (beq_eq_false_iff_ne.2 fk26)) ?_
  refine J.run 7 K25_48 [(32, .bool (i.gOp == 5)), (23, iv i.gOp), (8, iv (p.gTypes_n : Int)), (7, iv (0 % 128)), (6, iv (0 / 128 % 128)), (5, iv (0 / 16384)), (3, pv b2), (2, pv b1)] w27 (by kernel_rfl) ?_
  have fk28 : ¬ (i.gOp = 5) := by omega
  refine J.head (.bool false) (congrArg Value.bool (beq_eq_false_iff_ne.2 fk28)) ?_
  refine J.run 6 K25_49 [(32, .bool (i.gOp == 6)), (23, iv i.gOp), (8, iv (p.gTypes_n : Int)), (7, iv (0 % 128)), (6, iv (0 / 128 % 128)), (5, iv (0 / 16384)), (3, pv b2), (2, pv b1)] w27 (by kernel_rfl) ?_
  have fk30 : ¬ (i.gOp = 6) := by omega
  refine J.head (.bool false) (congrArg Value.bool (beq_eq_false_iff_ne.2 fk30)) ?_
  refine J.run 6 K25_50 [(32, .bool (i.gOp == 7)), (23, iv i.gOp), (8, iv (p.gTypes_n : Int)), (7, iv (0 % 128)), (6, iv (0 / 128 % 128)), (5, iv (0 / 16384)), (3, pv b2), (2, pv b1)] w27 (by kernel_rfl) ?_
  have fk32 : ¬ (i.gOp = 7) := by omega
  refine J.head (.bool false) (congrArg Value.bool (beq_eq_false_iff_ne.2 fk32)) ?_
  refine J.run 5 K25_51 [(32, .bool (i.gOp == 8)), (23, iv i.gOp), (8, iv (p.gTypes_n : Int)), (7, iv (0 % 128)), (6, iv (0 / 128 % 128)), (5, iv (0 / 16384)), (3, pv b2), (2, pv b1)] w27 (by kernel_rfl) ?_
  have fk34 : ¬ (i.gOp = 8) := by omega
  refine J.head (.bool false) (congrArg Value.bool (beq_eq_false_iff_ne.2 fk34)) ?_
  refine J.run 7 K25_52 [(80, .bool (i.gOp == 9)), (23, iv i.gOp), (8, iv (p.gTypes_n : Int)), (7, iv (0 % 128)), (6, iv (0 / 128 % 128)), (5, iv (0 / 16384)), (3, pv b2), (2, pv b1)] w27 (by kernel_rfl) ?_
  have fk36 : ¬ (i.gOp = 9) := by omega
  refine J.head (.bool false) (congrArg Value.bool (beq_eq_false_iff_ne.2 fk36)) ?_
  refine J.run 5 K25_53 [(80, .bool (i.gOp == 10)), (23, iv i.gOp), (8, iv (p.gTypes_n : Int)), (7, iv (0 % 128)), (6, iv (0 / 128 % 128)), (5, iv (0 / 16384)), (3, pv b2), (2, pv b1)] w27 (by kernel_rfl) ?_
  have fk38 : ¬ (i.gOp = 10) := by omega
  refine J.head (.bool false) (congrArg Value.bool (beq_eq_false_iff_ne.2 fk38)) ?_
  refine J.run 7 K25_54 [(106, .bool (i.gOp == 13)), (23, iv i.gOp), (8, iv (p.gTypes_n : Int)), (6, iv (0 / 128 % 128)), (5, iv (0 / 16384)), (3, pv b2), (2, pv b1)] w27 (by kernel_rfl) ?_
  have fk40 : ¬ (i.gOp = 13) := by omega
  refine J.head (.bool false) (congrArg Value.bool (beq_eq_false_iff_ne.2 fk40)) ?_
  refine J.run 5 K25_55 [(106, .bool (i.gOp == 14)), (23, iv i.gOp), (8, iv (p.gTypes_n : Int)), (6, iv (0 / 128 % 128)), (5, iv (0 / 16384)), (3, pv b2), (2, pv b1)] w27 (by kernel_rfl) ?_
  have fk42 : ¬ (i.gOp = 14) := by omega
  refine J.head (.bool false) (congrArg Value.bool (beq_eq_false_iff_ne.2 fk42)) ?_
  refine J.run 6 K25_56 [(132, .bool (i.gOp == 20)), (23, iv i.gOp), (3, pv b2), (2, pv b1)] w27 (by kernel_rfl) ?_
  have fk44 : ¬ (i.gOp = 20) := by omega
  refine J.head (.bool false) (congrArg Value.bool (beq_eq_false_iff_ne.2 fk44)) ?_
  refine J.run 6 K25_57 [(140, .bool (i.gOp == 21)), (23, iv i.gOp), (3, pv b2), (2, pv b1)] w27 (by kernel_rfl) ?_
  have fk46 : ¬ (i.gOp = 21) := by omega
  refine J.head (.bool false) (congrArg Value.bool (beq_eq_false_iff_ne.2 fk46)) ?_
  refine J.run 6 K25_58 [(148, .bool (i.gOp == 22)), (3, pv b2), (2, pv b1)] w27 (by kernel_rfl) ?_
  have fk48 : ¬ (i.gOp = 22) := by omega
  refine J.head (.bool false) (congrArg Value.bool (beq_eq_false_iff_ne.2 fk48)) ?_
  refine J.run 7 K25_59 [(4, .bool true)] w27 (by kernel_rfl) ?_
  refine J.ret Tryz.f25 [.bool true] Tryz.func25 ⟨by kernel_rfl, trivial⟩ ?_
  refine hR _ _ ?_
  exact ⟨congrArg Value.bool (by unfold namedB; (repeat first | rw [if_pos (by omega)] | rw [if_neg (by omega)]); all_goals first | rfl | exact (decide_eq_true (by omega)).symm | exact (decide_eq_false (by omega)).symm), S27.nil⟩

end Go.Proofs.YthfpejhonhaggaaGreatDoor

