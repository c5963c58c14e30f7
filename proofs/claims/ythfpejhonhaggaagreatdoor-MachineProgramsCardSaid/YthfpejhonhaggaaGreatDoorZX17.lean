/- Walks of functions of this seat, printed by a program over the engine. Conditions: as each theorem says. -/
import Derived.Test.YthfpejhonhaggaaGreatDoorZX16
namespace Go.Proofs.YthfpejhonhaggaaGreatDoor
open Go.Eng Go.RowKit
set_option linter.unusedSimpArgs false
set_option linter.unusedVariables false
theorem hb7 : HasBody Tryz.prog 7 := fun _ _ => by kernel_rfl
noncomputable def K7_0 : List Item := adv 2 [] (bodyOf Tryz.f7)
noncomputable def K7_1 : List Item := adv 6 [] (popK K7_0)
noncomputable def K7_2 : List Item := adv 3 [] (popK K7_1)
noncomputable def K7_3 : List Item := adv 33 [true] K7_2
noncomputable def K7_4 : List Item := adv 1 [] K7_2
noncomputable def K7_5 : List Item := adv 4 [] (popK K7_4)
noncomputable def K7_6 : List Item := adv 27 [true] K7_5
noncomputable def K7_7 : List Item := adv 1 [] K7_5
noncomputable def K7_8 : List Item := adv 4 [] (popK K7_7)
noncomputable def K7_9 : List Item := adv 21 [true] K7_8
noncomputable def K7_10 : List Item := adv 1 [] K7_8
noncomputable def K7_11 : List Item := adv 4 [] (popK K7_10)
noncomputable def K7_12 : List Item := adv 15 [true] K7_11
noncomputable def K7_13 : List Item := adv 1 [] K7_11
noncomputable def K7_14 : List Item := adv 3 [] (popK K7_13)
noncomputable def K7_15 : List Item := adv 10 [true] K7_14
noncomputable def K7_16 : List Item := adv 1 [] K7_14
noncomputable def K7_17 : List Item := adv 3 [] (popK K7_16)
noncomputable def K7_18 : List Item := adv 5 [true] K7_17
noncomputable def K7_19 : List Item := adv 9 [false] K7_17
noncomputable def K7_20 : List Item := adv 5 [] K7_19
noncomputable def K7_21 : List Item := adv 3 [] (popK K7_20)
noncomputable def K7_22 : List Item := adv 7 [true] K7_21
noncomputable def K7_23 : List Item := adv 1 [] (popK K7_22)
noncomputable def K7_24 : List Item := adv 2 [] (popK (popK (popK K7_23)))
noncomputable def K7_25 : List Item := adv 6 [false] K7_24
noncomputable def K7_26 : List Item := adv 5 [true] K7_24
noncomputable def K7_27 : List Item := adv 9 [false] K7_21
noncomputable def K7_28 : List Item := adv 5 [] K7_27
noncomputable def K7_29 : List Item := adv 3 [] (popK K7_28)
noncomputable def K7_30 : List Item := adv 7 [true] K7_29
noncomputable def K7_31 : List Item := adv 1 [] (popK K7_30)
noncomputable def K7_32 : List Item := adv 2 [] (popK (popK (popK K7_31)))
noncomputable def K7_33 : List Item := adv 6 [false] K7_32
noncomputable def K7_34 : List Item := adv 5 [true] K7_32
noncomputable def K7_35 : List Item := adv 9 [false] K7_29
noncomputable def K7_36 : List Item := adv 5 [] K7_35
noncomputable def K7_37 : List Item := adv 3 [] (popK K7_36)
noncomputable def K7_38 : List Item := adv 7 [true] K7_37
noncomputable def K7_39 : List Item := adv 1 [] (popK K7_38)
noncomputable def K7_40 : List Item := adv 2 [] (popK (popK (popK K7_39)))
noncomputable def K7_41 : List Item := adv 6 [false] K7_40
noncomputable def K7_42 : List Item := adv 5 [true] K7_40
noncomputable def K7_43 : List Item := adv 9 [false] K7_37
noncomputable def K7_44 : List Item := adv 5 [] K7_43
noncomputable def K7_45 : List Item := adv 3 [] (popK K7_44)
noncomputable def K7_46 : List Item := adv 5 [true] K7_45
noncomputable def K7_47 : List Item := adv 6 [false] (rRest K7_46)
noncomputable def K7_48 : List Item := adv 5 [true] (rRest K7_46)
noncomputable def K7_49 : List Item := adv 5 [true] (rRest K7_46)
noncomputable def K7_50 : List Item := adv 5 [false] K7_45
noncomputable def K7_51 : List Item := adv 1 [] (popK K7_50)
noncomputable def K7_52 : List Item := adv 2 [] (popK (popK K7_51))
noncomputable def K7_53 : List Item := adv 1 [] (popK K7_52)
noncomputable def K7_54 : List Item := adv 3 [] (popK (popK K7_53))
noncomputable def K7_55 : List Item := adv 1 [] (popK K7_54)
noncomputable def K7_56 : List Item := adv 3 [] (popK (popK K7_55))
noncomputable def K7_57 : List Item := adv 1 [] K7_56
noncomputable def K7_58 : List Item := adv 2 [] (popK K7_57)
noncomputable def K7_59 : List Item := adv 4 [] (popK K7_58)
noncomputable def K7_60 : List Item := adv 5 [false] K7_59
noncomputable def K7_61 : List Item := adv 3 [] (popK (popK K7_60))
noncomputable def K7_62 : List Item := adv 7 [] (rRest K7_61)
noncomputable def K7_63 : List Item := adv 8 [] K7_62
noncomputable def K7_64 : List Item := adv 10 [true] K7_63
noncomputable def K7_65 : List Item := adv 1 [] (popK (popK (popK (popK K7_64))))
noncomputable def K7_66 : List Item := adv 5 [true] K7_65
noncomputable def K7_67 : List Item := adv 6 [false] K7_65
noncomputable def K7_68 : List Item := adv 5 [] (popK (popK (popK (popK K7_67))))
noncomputable def K7_69 : List Item := adv 9 [false] K7_63
noncomputable def K7_70 : List Item := adv 5 [] K7_69
noncomputable def K7_71 : List Item := adv 3 [] (popK K7_70)
noncomputable def K7_72 : List Item := adv 7 [true] K7_71
noncomputable def K7_73 : List Item := adv 1 [] (popK K7_72)
noncomputable def K7_74 : List Item := adv 2 [] (popK (popK K7_73))
noncomputable def K7_75 : List Item := adv 13 [true] K7_74
noncomputable def K7_76 : List Item := adv 1 [] K7_74
noncomputable def K7_77 : List Item := adv 1 [] (popK K7_76)
noncomputable def K7_78 : List Item := adv 3 [] (popK (popK K7_77))
noncomputable def K7_79 : List Item := adv 5 [true] K7_78
noncomputable def K7_80 : List Item := adv 6 [false] K7_78
noncomputable def K7_81 : List Item := adv 6 [false] K7_71
noncomputable def K7_82 : List Item := adv 5 [true] K7_59
noncomputable def K7_83 : List Item := adv 14 [true] K7_56
noncomputable def K7_84 : List Item := adv 21 [true] K7_54
noncomputable def K7_85 : List Item := adv 28 [true] K7_52
set_option maxRecDepth 20000 in
set_option maxHeartbeats 20000000 in
theorem rpvalid_any (p : Prg) (w : World) (hp : prgQ w p) : Ret Tryz.prog 7 #[.agg (prgA p)] w (fun v w' => v = .bool (validP p) ∧ Sep w [] w') := by
 have S0 := Sep.refl w
 refine Ret.named fun R hR => ?_
 refine Ret.of_J (N := 187) [(0, .agg (prgA p))] Tryz.func7 rfl rfl (Nat.le_of_ble_eq_true (by kernel_rfl)) (by kernel_rfl) ?_
 obtain ⟨q1, q2, q3, q4, q5, q6, q7, q8, q9, q10, q11, q12, q13, q14, q15, q16, q17, q18, q19, q20, q21, q22, q23, q24, q25, _⟩ := id hp
 have ql1 := q2.len_eq
 have ql2 := q5.len_eq
 have ql3 := q8.len_eq
 have ql4 := q11.len_eq
 have ql5 := q15.len_eq
 have ql6 := q18.len_eq
 have ql7 := q21.len_eq
 have ql8 := q24.len_eq
 have hrep : (List.replicate (p.gCells).toNat false).length = p.gCells.toNat := List.length_replicate
 have hcat : (p.gInputs_l ++ p.gStates_l).length = p.gInputs_l.length + p.gStates_l.length := List.length_append
 refine J.run 2 K7_0 [(0, .agg (prgA p))] w (by kernel_rfl) ?_
 refine J.new S0 1 (prgC p) 28 (by kernel_rfl) ?_
 intro b1 w1 S1
 refine J.run 6 K7_1 [(11, pv b1), (1, pv b1)] w1 (by kernel_rfl) ?_
 refine J.ok (OK.ldBox S1 0 12 22 0 (.slice p.gCode_a p.gCode_n p.gCode_c) (by kernel_rfl) rfl (by kernel_rfl)) ?_
 refine J.run 3 K7_2 [(15, .bool (decide ((p.gCode_n : Int) > 4000))), (1, pv b1)] w1 (by kernel_rfl) ?_
 by_cases fk1 : (p.gCode_n : Int) > 4000
 ·skip
  refine J.head (.bool true) (congrArg Value.bool (decide_eq_true fk1)) ?_
  refine J.run 33 K7_3 [(2, .bool false)] w1 (by kernel_rfl) ?_
  refine J.ret Tryz.f7 [.bool false] Tryz.func7 ⟨by kernel_rfl, trivial⟩ ?_
  refine hR _ _ ?_
  exact ⟨congrArg Value.bool (validP_no (.inl (by omega))).symm, S1.nil⟩
 ·skip
  refine J.head (.bool false) (congrArg Value.bool (decide_eq_false fk1)) ?_
  refine J.run 1 K7_4 [(16, .pointer (some ⟨b1, 1, none⟩)), (15, .bool false), (1, pv b1)] w1 (by kernel_rfl) ?_
  refine J.ok (OK.ldBox S1 0 17 23 1 (.slice p.gTypes_a p.gTypes_n p.gTypes_c) (by kernel_rfl) rfl (by kernel_rfl)) ?_
  refine J.run 4 K7_5 [(21, .bool (decide ((p.gTypes_n : Int) > 100))), (1, pv b1)] w1 (by kernel_rfl) ?_
  by_cases fk2 : (p.gTypes_n : Int) > 100
  ·skip
   refine J.head (.bool true) (congrArg Value.bool (decide_eq_true fk2)) ?_
   refine J.run 27 K7_6 [(2, .bool false)] w1 (by kernel_rfl) ?_
   refine J.ret Tryz.f7 [.bool false] Tryz.func7 ⟨by kernel_rfl, trivial⟩ ?_
   refine hR _ _ ?_
   exact ⟨congrArg Value.bool (validP_no (.inl (by omega))).symm, S1.nil⟩
  ·skip
   refine J.head (.bool false) (congrArg Value.bool (decide_eq_false fk2)) ?_
   refine J.run 1 K7_7 [(22, .pointer (some ⟨b1, 2, none⟩)), (21, .bool false), (1, pv b1)] w1 (by kernel_rfl) ?_
   refine J.ok (OK.ldBox S1 0 23 24 2 (.slice p.gCurves_a p.gCurves_n p.gCurves_c) (by kernel_rfl) rfl (by kernel_rfl)) ?_
   refine J.run 4 K7_8 [(27, .bool (decide ((p.gCurves_n : Int) > 100))), (1, pv b1)] w1 (by kernel_rfl) ?_
   by_cases fk3 : (p.gCurves_n : Int) > 100
   ·skip
    refine J.head (.bool true) (congrArg Value.bool (decide_eq_true fk3)) ?_
    refine J.run 21 K7_9 [(2, .bool false)] w1 (by kernel_rfl) ?_
    refine J.ret Tryz.f7 [.bool false] Tryz.func7 ⟨by kernel_rfl, trivial⟩ ?_
    refine hR _ _ ?_
    exact ⟨congrArg Value.bool (validP_no (.inl (by omega))).symm, S1.nil⟩
   ·skip
    refine J.head (.bool false) (congrArg Value.bool (decide_eq_false fk3)) ?_
    refine J.run 1 K7_10 [(28, .pointer (some ⟨b1, 3, none⟩)), (27, .bool false), (1, pv b1)] w1 (by kernel_rfl) ?_
    refine J.ok (OK.ldBox S1 0 29 25 3 (.slice p.gMaps_a p.gMaps_n p.gMaps_c) (by kernel_rfl) rfl (by kernel_rfl)) ?_
    refine J.run 4 K7_11 [(33, .bool (decide ((p.gMaps_n : Int) > 100))), (1, pv b1)] w1 (by kernel_rfl) ?_
    by_cases fk4 : (p.gMaps_n : Int) > 100
    ·skip
     refine J.head (.bool true) (congrArg Value.bool (decide_eq_true fk4)) ?_
     refine J.run 15 K7_12 [(2, .bool false)] w1 (by kernel_rfl) ?_
     refine J.ret Tryz.f7 [.bool false] Tryz.func7 ⟨by kernel_rfl, trivial⟩ ?_
     refine hR _ _ ?_
     exact ⟨congrArg Value.bool (validP_no (.inl (by omega))).symm, S1.nil⟩
    ·skip
     refine J.head (.bool false) (congrArg Value.bool (decide_eq_false fk4)) ?_
     refine J.run 1 K7_13 [(34, .pointer (some ⟨b1, 4, none⟩)), (33, .bool false), (1, pv b1)] w1 (by kernel_rfl) ?_
     refine J.ok (OK.ldBox S1 0 35 3 4 (iv p.gCells) (by kernel_rfl) rfl (by kernel_rfl)) ?_
     refine J.run 3 K7_14 [(38, .bool (decide (p.gCells < 0))), (1, pv b1)] w1 (by kernel_rfl) ?_
     by_cases fk5 : p.gCells < 0
     ·skip
      refine J.head (.bool true) (congrArg Value.bool (decide_eq_true fk5)) ?_
      refine J.run 10 K7_15 [(2, .bool false)] w1 (by kernel_rfl) ?_
      refine J.ret Tryz.f7 [.bool false] Tryz.func7 ⟨by kernel_rfl, trivial⟩ ?_
      refine hR _ _ ?_
      exact ⟨congrArg Value.bool (validP_no (.inl (by omega))).symm, S1.nil⟩
     ·skip
      refine J.head (.bool false) (congrArg Value.bool (decide_eq_false fk5)) ?_
      refine J.run 1 K7_16 [(39, .pointer (some ⟨b1, 4, none⟩)), (38, .bool false), (1, pv b1)] w1 (by kernel_rfl) ?_
      refine J.ok (OK.ldBox S1 0 40 3 4 (iv p.gCells) (by kernel_rfl) rfl (by kernel_rfl)) ?_
      refine J.run 3 K7_17 [(42, .bool (decide (p.gCells > 1000))), (1, pv b1)] w1 (by kernel_rfl) ?_
      by_cases fk6 : p.gCells > 1000
      ·skip
       refine J.head (.bool true) (congrArg Value.bool (decide_eq_true fk6)) ?_
       refine J.run 5 K7_18 [(2, .bool false)] w1 (by kernel_rfl) ?_
       refine J.ret Tryz.f7 [.bool false] Tryz.func7 ⟨by kernel_rfl, trivial⟩ ?_
       refine hR _ _ ?_
       exact ⟨congrArg Value.bool (validP_no (.inl (by omega))).symm, S1.nil⟩
      ·skip
       refine J.head (.bool false) (congrArg Value.bool (decide_eq_false fk6)) ?_
       refine J.run 9 K7_19 [(3, iv 0), (1, pv b1)] w1 (by kernel_rfl) ?_
       have L7_1 : ∀ (mm_ : Nat) (i0 : Int) (w2 : World), (0 ≤ i0) → (i0 ≤ (p.gTypes_n : Int)) → (∀ j, j < (i0).toNat → fixB (p.gTypes_l.getD j fx0) = true) → Sep w [box b1 (prgC p) 28] w2 → ((p.gTypes_n : Int) - i0).toNat = mm_ → J Tryz.prog 7 187 R K7_19 [(3, iv i0), (1, pv b1)] w2 := by
        intro mm1
        induction mm1 using Nat.strongRecOn with
        | _ mm1 ih1 =>
        intro i0 w2 z0 y0 hq0 S2 hm1
        refine J.run 5 K7_20 [(44, .pointer (some ⟨b1, 1, none⟩)), (43, iv i0), (3, iv i0), (1, pv b1)] w2 (by kernel_rfl) ?_
        refine J.ok (OK.ldBox S2 0 45 23 1 (.slice p.gTypes_a p.gTypes_n p.gTypes_c) (by kernel_rfl) rfl (by kernel_rfl)) ?_
        refine J.run 3 K7_21 [(47, .bool (decide (i0 < (p.gTypes_n : Int)))), (3, iv i0), (1, pv b1)] w2 (by kernel_rfl) ?_
        by_cases fk7 : i0 < (p.gTypes_n : Int)
        ·skip
         refine J.head (.bool true) (congrArg Value.bool (decide_eq_true fk7)) ?_
         refine J.run 7 K7_22 [(50, .pointer (some ⟨b1, 1, none⟩)), (3, iv i0), (1, pv b1)] w2 (by kernel_rfl) ?_
         refine J.ok (OK.ldBox S2 0 51 23 1 (.slice p.gTypes_a p.gTypes_n p.gTypes_c) (by kernel_rfl) rfl (by kernel_rfl)) ?_
         refine J.run 1 K7_23 [(52, iv i0), (51, .slice p.gTypes_a p.gTypes_n p.gTypes_c), (3, iv i0), (1, pv b1)] w2 (by kernel_rfl) ?_
         obtain ⟨p1, hp1, hc1⟩ := q5.at fx0 (i0).toNat (by omega)
         have hel1 := getD_Q q6 fx0 (n := (i0).toNat) (by have := q5.len_eq; omega)
         obtain ⟨q26, q27, q28, q29, q30, q31, q32, q33, q34, _⟩ := id hel1
         refine J.ok (OK.index 53 23 10 p.gTypes_a p1 p.gTypes_n (i0).toNat i0 (p1.add ((i0).toNat * 10)) (by kernel_rfl) (by kernel_rfl) hp1 (by omega) (by omega) rfl) ?_
         refine J.ok (OK.ldCells 54 62 (p1.add ((i0).toNat * 10)) (fxdC (p.gTypes_l.getD (i0).toNat fx0)) (by kernel_rfl) (by kernel_rfl) (by kernel_rfl) (fun j_ v_ hj_ => S2.cell (hc1 j_ v_ hj_))) ?_
         refine J.callF 55 21 #[.agg (fxdA (p.gTypes_l.getD (i0).toNat fx0))] hb21 (by kernel_rfl) (rfxvalid_any (p.gTypes_l.getD (i0).toNat fx0) _ (fxdQ_sep hel1 S2)) ?_
         rintro _ w3 ⟨rfl, T1⟩
         have S3 : Sep w [box b1 (prgC p) 28] w3 := S2.trans T1
         clear T1 S2
         refine J.run 2 K7_24 [(56, .bool (!(fixB (p.gTypes_l.getD (i0).toNat fx0)))), (3, iv i0), (1, pv b1)] w3 (by kernel_rfl) ?_
         rcases Bool.eq_false_or_eq_true (fixB (p.gTypes_l.getD (i0).toNat fx0)) with fk8 | fk8
         ·skip
          refine J.head (.bool false) (congrArg Value.bool (by rw [fk8]; rfl)) ?_
          refine J.run 6 K7_25 [(49, iv (IntKind.wrap .i64 (i0 + 1))), (1, pv b1)] w3 (by kernel_rfl) ?_
          refine J.head (iv (i0 + 1)) (congrArg (Value.int .i64) (IntWalk.i64_in _ (by omega))) ?_
          refine J.run 3 K7_19 [(3, iv (i0 + 1)), (1, pv b1)] w3 (by kernel_rfl) ?_
          refine J.run 0 K7_19 [(3, iv (i0 + 1)), (1, pv b1)] w3 (by kernel_rfl) ?_
          exact ih1 _ (show ((p.gTypes_n : Int) - (i0 + 1)).toNat < mm1 from by omega) (i0 + 1) w3 (by omega) (by omega) (all_step (q := fun j => fixB (p.gTypes_l.getD j fx0) = true) z0 hq0 fk8) S3 rfl
         ·skip
          refine J.head (.bool true) (congrArg Value.bool (by rw [fk8]; rfl)) ?_
          refine J.run 5 K7_26 [(2, .bool false)] w3 (by kernel_rfl) ?_
          refine J.ret Tryz.f7 [.bool false] Tryz.func7 ⟨by kernel_rfl, trivial⟩ ?_
          refine hR _ _ ?_
          exact ⟨congrArg Value.bool (validP_no (.inr (.inl (all_no fx0 (j := i0.toNat) (by omega) fk8)))).symm, S3.nil⟩
        ·skip
         refine J.head (.bool false) (congrArg Value.bool (decide_eq_false fk7)) ?_
         refine J.run 9 K7_27 [(4, iv 0), (1, pv b1)] w2 (by kernel_rfl) ?_
         have L7_2 : ∀ (mm_ : Nat) (i1 : Int) (w4 : World), (0 ≤ i1) → (i1 ≤ (p.gCurves_n : Int)) → (∀ j, j < (i1).toNat → validV (p.gCurves_l.getD j (⟨none, 0, 0, [], none, 0, 0, []⟩ : Crv)) = true) → Sep w [box b1 (prgC p) 28] w4 → ((p.gCurves_n : Int) - i1).toNat = mm_ → J Tryz.prog 7 187 R K7_27 [(4, iv i1), (1, pv b1)] w4 := by
          intro mm2
          induction mm2 using Nat.strongRecOn with
          | _ mm2 ih2 =>
          intro i1 w4 z1 y1 hq1 S4 hm2
          refine J.run 5 K7_28 [(58, .pointer (some ⟨b1, 2, none⟩)), (57, iv i1), (4, iv i1), (1, pv b1)] w4 (by kernel_rfl) ?_
          refine J.ok (OK.ldBox S4 0 59 24 2 (.slice p.gCurves_a p.gCurves_n p.gCurves_c) (by kernel_rfl) rfl (by kernel_rfl)) ?_
          refine J.run 3 K7_29 [(61, .bool (decide (i1 < (p.gCurves_n : Int)))), (4, iv i1), (1, pv b1)] w4 (by kernel_rfl) ?_
          by_cases fk9 : i1 < (p.gCurves_n : Int)
          ·skip
           refine J.head (.bool true) (congrArg Value.bool (decide_eq_true fk9)) ?_
           refine J.run 7 K7_30 [(64, .pointer (some ⟨b1, 2, none⟩)), (4, iv i1), (1, pv b1)] w4 (by kernel_rfl) ?_
           refine J.ok (OK.ldBox S4 0 65 24 2 (.slice p.gCurves_a p.gCurves_n p.gCurves_c) (by kernel_rfl) rfl (by kernel_rfl)) ?_
           refine J.run 1 K7_31 [(66, iv i1), (65, .slice p.gCurves_a p.gCurves_n p.gCurves_c), (4, iv i1), (1, pv b1)] w4 (by kernel_rfl) ?_
           obtain ⟨p2, hp2, hc2⟩ := q8.at (⟨none, 0, 0, [], none, 0, 0, []⟩ : Crv) (i1).toNat (by omega)
           have hel2 := getD_Q q9 (⟨none, 0, 0, [], none, 0, 0, []⟩ : Crv) (n := (i1).toNat) (by have := q8.len_eq; omega)
           obtain ⟨q35, q36, q37, q38, q39, q40, _⟩ := id hel2
           have ql9 := q36.len_eq
           have ql10 := q39.len_eq
           refine J.ok (OK.index 67 24 2 p.gCurves_a p2 p.gCurves_n (i1).toNat i1 (p2.add ((i1).toNat * 2)) (by kernel_rfl) (by kernel_rfl) hp2 (by omega) (by omega) rfl) ?_
           refine J.ok (OK.ldCells 68 56 (p2.add ((i1).toNat * 2)) (crvC (p.gCurves_l.getD (i1).toNat (⟨none, 0, 0, [], none, 0, 0, []⟩ : Crv))) (by kernel_rfl) (by kernel_rfl) (by kernel_rfl) (fun j_ v_ hj_ => S4.cell (hc2 j_ v_ hj_))) ?_
           refine J.callF 69 22 #[.agg (crvA (p.gCurves_l.getD (i1).toNat (⟨none, 0, 0, [], none, 0, 0, []⟩ : Crv)))] hb22 (by kernel_rfl) (rcvalid_any (p.gCurves_l.getD (i1).toNat (⟨none, 0, 0, [], none, 0, 0, []⟩ : Crv)) _ (crvQ_sep hel2 S4)) ?_
           rintro _ w5 ⟨rfl, T2⟩
           have S5 : Sep w [box b1 (prgC p) 28] w5 := S4.trans T2
           clear T2 S4
           refine J.run 2 K7_32 [(70, .bool (!(validV (p.gCurves_l.getD (i1).toNat (⟨none, 0, 0, [], none, 0, 0, []⟩ : Crv))))), (4, iv i1), (1, pv b1)] w5 (by kernel_rfl) ?_
           rcases Bool.eq_false_or_eq_true (validV (p.gCurves_l.getD (i1).toNat (⟨none, 0, 0, [], none, 0, 0, []⟩ : Crv))) with fk10 | fk10
           ·skip
            refine J.head (.bool false) (congrArg Value.bool (by rw [fk10]; rfl)) ?_
            refine J.run 6 K7_33 [(63, iv (IntKind.wrap .i64 (i1 + 1))), (1, pv b1)] w5 (by kernel_rfl) ?_
            refine J.head (iv (i1 + 1)) (congrArg (Value.int .i64) (IntWalk.i64_in _ (by omega))) ?_
            refine J.run 3 K7_27 [(4, iv (i1 + 1)), (1, pv b1)] w5 (by kernel_rfl) ?_
            refine J.run 0 K7_27 [(4, iv (i1 + 1)), (1, pv b1)] w5 (by kernel_rfl) ?_
            exact ih2 _ (show ((p.gCurves_n : Int) - (i1 + 1)).toNat < mm2 from by omega) (i1 + 1) w5 (by omega) (by omega) (all_step (q := fun j => validV (p.gCurves_l.getD j (⟨none, 0, 0, [], none, 0, 0, []⟩ : Crv)) = true) z1 hq1 fk10) S5 rfl
           ·skip
            refine J.head (.bool true) (congrArg Value.bool (by rw [fk10]; rfl)) ?_
            refine J.run 5 K7_34 [(2, .bool false)] w5 (by kernel_rfl) ?_
            refine J.ret Tryz.f7 [.bool false] Tryz.func7 ⟨by kernel_rfl, trivial⟩ ?_
            refine hR _ _ ?_
            exact ⟨congrArg Value.bool (validP_no (.inr (.inr (.inl (all_no (⟨none, 0, 0, [], none, 0, 0, []⟩ : Crv) (j := i1.toNat) (by omega) fk10))))).symm, S5.nil⟩
          ·skip
           refine J.head (.bool false) (congrArg Value.bool (decide_eq_false fk9)) ?_
           refine J.run 9 K7_35 [(5, iv 0), (1, pv b1)] w4 (by kernel_rfl) ?_
           have L7_3 : ∀ (mm_ : Nat) (i2 : Int) (w6 : World), (0 ≤ i2) → (i2 ≤ (p.gMaps_n : Int)) → (∀ j, j < (i2).toNat → validM (p.gMaps_l.getD j (⟨none, 0, 0, [], none, 0, 0, [], none, 0, 0, []⟩ : Mp)) = true) → Sep w [box b1 (prgC p) 28] w6 → ((p.gMaps_n : Int) - i2).toNat = mm_ → J Tryz.prog 7 187 R K7_35 [(5, iv i2), (1, pv b1)] w6 := by
            intro mm3
            induction mm3 using Nat.strongRecOn with
            | _ mm3 ih3 =>
            intro i2 w6 z2 y2 hq2 S6 hm3
            refine J.run 5 K7_36 [(72, .pointer (some ⟨b1, 3, none⟩)), (71, iv i2), (5, iv i2), (1, pv b1)] w6 (by kernel_rfl) ?_
            refine J.ok (OK.ldBox S6 0 73 25 3 (.slice p.gMaps_a p.gMaps_n p.gMaps_c) (by kernel_rfl) rfl (by kernel_rfl)) ?_
            refine J.run 3 K7_37 [(75, .bool (decide (i2 < (p.gMaps_n : Int)))), (5, iv i2), (1, pv b1)] w6 (by kernel_rfl) ?_
            by_cases fk11 : i2 < (p.gMaps_n : Int)
            ·skip
             refine J.head (.bool true) (congrArg Value.bool (decide_eq_true fk11)) ?_
             refine J.run 7 K7_38 [(78, .pointer (some ⟨b1, 3, none⟩)), (5, iv i2), (1, pv b1)] w6 (by kernel_rfl) ?_
             refine J.ok (OK.ldBox S6 0 79 25 3 (.slice p.gMaps_a p.gMaps_n p.gMaps_c) (by kernel_rfl) rfl (by kernel_rfl)) ?_
             refine J.run 1 K7_39 [(80, iv i2), (79, .slice p.gMaps_a p.gMaps_n p.gMaps_c), (5, iv i2), (1, pv b1)] w6 (by kernel_rfl) ?_
             obtain ⟨p3, hp3, hc3⟩ := q11.at (⟨none, 0, 0, [], none, 0, 0, [], none, 0, 0, []⟩ : Mp) (i2).toNat (by omega)
             have hel3 := getD_Q q12 (⟨none, 0, 0, [], none, 0, 0, [], none, 0, 0, []⟩ : Mp) (n := (i2).toNat) (by have := q11.len_eq; omega)
             obtain ⟨q41, q42, q43, q44, q45, q46, q47, q48, q49, _⟩ := id hel3
             have ql11 := q42.len_eq
             have ql12 := q45.len_eq
             have ql13 := q48.len_eq
             refine J.ok (OK.index 81 25 3 p.gMaps_a p3 p.gMaps_n (i2).toNat i2 (p3.add ((i2).toNat * 3)) (by kernel_rfl) (by kernel_rfl) hp3 (by omega) (by omega) rfl) ?_
             refine J.ok (OK.ldCells 82 52 (p3.add ((i2).toNat * 3)) (mpC (p.gMaps_l.getD (i2).toNat (⟨none, 0, 0, [], none, 0, 0, [], none, 0, 0, []⟩ : Mp))) (by kernel_rfl) (by kernel_rfl) (by kernel_rfl) (fun j_ v_ hj_ => S6.cell (hc3 j_ v_ hj_))) ?_
             refine J.callF 83 23 #[.agg (mpA (p.gMaps_l.getD (i2).toNat (⟨none, 0, 0, [], none, 0, 0, [], none, 0, 0, []⟩ : Mp)))] hb23 (by kernel_rfl) (rvalid_any (p.gMaps_l.getD (i2).toNat (⟨none, 0, 0, [], none, 0, 0, [], none, 0, 0, []⟩ : Mp)) _ (mpQ_sep hel3 S6)) ?_
             rintro _ w7 ⟨rfl, T3⟩
             have S7 : Sep w [box b1 (prgC p) 28] w7 := S6.trans T3
             clear T3 S6
             refine J.run 2 K7_40 [(84, .bool (!(validM (p.gMaps_l.getD (i2).toNat (⟨none, 0, 0, [], none, 0, 0, [], none, 0, 0, []⟩ : Mp))))), (5, iv i2), (1, pv b1)] w7 (by kernel_rfl) ?_
             rcases Bool.eq_false_or_eq_true (validM (p.gMaps_l.getD (i2).toNat (⟨none, 0, 0, [], none, 0, 0, [], none, 0, 0, []⟩ : Mp))) with fk12 | fk12
             ·skip
              refine J.head (.bool false) (congrArg Value.bool (by rw [fk12]; rfl)) ?_
              refine J.run 6 K7_41 [(77, iv (IntKind.wrap .i64 (i2 + 1))), (1, pv b1)] w7 (by kernel_rfl) ?_
              refine J.head (iv (i2 + 1)) (congrArg (Value.int .i64) (IntWalk.i64_in _ (by omega))) ?_
              refine J.run 3 K7_35 [(5, iv (i2 + 1)), (1, pv b1)] w7 (by kernel_rfl) ?_
              refine J.run 0 K7_35 [(5, iv (i2 + 1)), (1, pv b1)] w7 (by kernel_rfl) ?_
              exact ih3 _ (show ((p.gMaps_n : Int) - (i2 + 1)).toNat < mm3 from by omega) (i2 + 1) w7 (by omega) (by omega) (all_step (q := fun j => validM (p.gMaps_l.getD j (⟨none, 0, 0, [], none, 0, 0, [], none, 0, 0, []⟩ : Mp)) = true) z2 hq2 fk12) S7 rfl
             ·skip
              refine J.head (.bool true) (congrArg Value.bool (by rw [fk12]; rfl)) ?_
              refine J.run 5 K7_42 [(2, .bool false)] w7 (by kernel_rfl) ?_
              refine J.ret Tryz.f7 [.bool false] Tryz.func7 ⟨by kernel_rfl, trivial⟩ ?_
              refine hR _ _ ?_
              exact ⟨congrArg Value.bool (validP_no (.inr (.inr (.inr (.inl (all_no (⟨none, 0, 0, [], none, 0, 0, [], none, 0, 0, []⟩ : Mp) (j := i2.toNat) (by omega) fk12)))))).symm, S7.nil⟩
            ·skip
             refine J.head (.bool false) (congrArg Value.bool (decide_eq_false fk11)) ?_
             refine J.run 9 K7_43 [(6, iv 0), (1, pv b1)] w6 (by kernel_rfl) ?_
             have L7_4 : ∀ (mm_ : Nat) (i3 : Int) (w8 : World), (0 ≤ i3) → (i3 ≤ (p.gCode_n : Int)) → (∀ j, j < (i3).toNat → fitsI p (p.gCode_l.getD j ins0) = true) → Sep w [box b1 (prgC p) 28] w8 → ((p.gCode_n : Int) - i3).toNat = mm_ → J Tryz.prog 7 187 R K7_43 [(6, iv i3), (1, pv b1)] w8 := by
              intro mm4
              induction mm4 using Nat.strongRecOn with
              | _ mm4 ih4 =>
              intro i3 w8 z3 y3 hq3 S8 hm4
              refine J.run 5 K7_44 [(86, pv b1), (85, iv i3), (6, iv i3), (1, pv b1)] w8 (by kernel_rfl) ?_
              refine J.ok (OK.ldBox S8 0 87 22 0 (.slice p.gCode_a p.gCode_n p.gCode_c) (by kernel_rfl) rfl (by kernel_rfl)) ?_
              refine J.run 3 K7_45 [(89, .bool (decide (i3 < (p.gCode_n : Int)))), (6, iv i3), (1, pv b1)] w8 (by kernel_rfl) ?_
              by_cases fk13 : i3 < (p.gCode_n : Int)
              ·skip
               refine J.head (.bool true) (congrArg Value.bool (decide_eq_true fk13)) ?_
               refine J.run 5 K7_46 [(6, iv i3), (1, pv b1)] w8 (by kernel_rfl) ?_
               rcases Bool.eq_false_or_eq_true (formB (p.gCode_l.getD (i3).toNat ins0)) with fk14 | fk14
               ·skip
                obtain ⟨p4, hp4, hc4⟩ := q2.at ins0 (i3).toNat (by omega)
                have hel4 := getD_Q q3 ins0 (n := (i3).toNat) (by have := q2.len_eq; omega)
                obtain ⟨q50, q51, q52, q53, q54, _⟩ := id hel4
                refine J.drawPlan (fun w_ => Sep w [box b1 (prgC p) 28] w_) [(0, true), (1, true), (2, true), (3, true), (4, true), (5, false), (6, true), (7, true), (8, true), (9, true), (10, true), (11, true), (12, true), (13, true), (14, false), (15, true), (16, true)] S8 Tryz.mixed (by kernel_rfl) (planOK_of (T := [(0, some 92, 2), (1, some 93, 4951760157141521099596496896), (0, some 94, 64), (6, some 95, 29710560942849126597578981376), (8, some 96, 39614081257132168796771975168), (16, some 97, 79228162514264337593543950336), (32, some 98, 158456325028528675187087900672), (96, some 99, 316912650057057350374175801344), (128, some 100, 633825300114114700748351602690), (128, some 101, 633825300114114700748351602690), (640, some 102, 3169126500570573503741758013440), (128, some 103, 633825300114114700748351602752), (3200, some 104, 15845632502852867518708790067200), (4224, some 105, 20916234903765785124695602888704), (8576, some 106, 42466295107645684950139557380096), (16512, some 107, 81763463714720796396537356746752), (32896, some 108, 162893102129327478092326361890816)]) (by kernel_rfl) (by kernel_rfl)) ?_
                intro w9 S9
                refine PB.mk S9 ?_
                refine PL.take 0 92 (pv b1) (fun _ _ => by kernel_rfl) ?_
                refine PL.takeOK 1 (fun w_ S_ => OK.ldBox S_ 0 93 22 0 (.slice p.gCode_a p.gCode_n p.gCode_c) (by kernel_rfl) rfl (by kernel_rfl)) rfl ?_
                refine PL.take 2 94 (iv i3) (fun _ _ => by kernel_rfl) ?_
                refine PL.takeOK 3 (fun w_ S_ => OK.index 95 22 5 p.gCode_a p4 p.gCode_n (i3).toNat i3 (p4.add ((i3).toNat * 5)) (by kernel_rfl) (by kernel_rfl) hp4 (by omega) (by omega) rfl) rfl ?_
                refine PL.takeOK 4 (fun w_ S_ => OK.ldCells 96 44 (p4.add ((i3).toNat * 5)) (insC (p.gCode_l.getD (i3).toNat ins0)) (by kernel_rfl) (by kernel_rfl) (by kernel_rfl) (fun j_ v_ hj_ => S_.cell (hc4 j_ v_ hj_))) rfl ?_
                refine PL.callF 97 24 #[.agg (insA (p.gCode_l.getD (i3).toNat ins0))] hb24 (by kernel_rfl) (rformed_any (p.gCode_l.getD (i3).toNat ins0) _ (insQ_sep hel4 S9)) ?_
                rintro _ w10 ⟨rfl, T4⟩
                have S10 : Sep w [box b1 (prgC p) 28] w10 := S9.trans T4
                clear T4 S9
                refine PB.head (.bool true) (congrArg Value.bool fk14) ?_
                refine PB.mk S10 ?_
                refine PL.take 6 98 (.bool false) (fun _ _ => by kernel_rfl) ?_
                refine PL.take 7 99 (.bool false) (fun _ _ => by kernel_rfl) ?_
                refine PL.takeOK 8 (fun w_ S_ => OK.ldBox S_ 0 100 28 0 (.agg (prgA p)) (by kernel_rfl) rfl (by kernel_rfl)) rfl ?_
                refine PL.take 9 101 (pv b1) (fun _ _ => by kernel_rfl) ?_
                refine PL.takeOK 10 (fun w_ S_ => OK.ldBox S_ 0 102 22 0 (.slice p.gCode_a p.gCode_n p.gCode_c) (by kernel_rfl) rfl (by kernel_rfl)) rfl ?_
                refine PL.take 11 103 (iv i3) (fun _ _ => by kernel_rfl) ?_
                refine PL.takeOK 12 (fun w_ S_ => OK.index 104 22 5 p.gCode_a p4 p.gCode_n (i3).toNat i3 (p4.add ((i3).toNat * 5)) (by kernel_rfl) (by kernel_rfl) hp4 (by omega) (by omega) rfl) rfl ?_
                refine PL.takeOK 13 (fun w_ S_ => OK.ldCells 105 44 (p4.add ((i3).toNat * 5)) (insC (p.gCode_l.getD (i3).toNat ins0)) (by kernel_rfl) (by kernel_rfl) (by kernel_rfl) (fun j_ v_ hj_ => S_.cell (hc4 j_ v_ hj_))) rfl ?_
                refine PL.callF 106 25 #[.agg (prgA p), .agg (insA (p.gCode_l.getD (i3).toNat ins0))] hb25 (by kernel_rfl) (rnamed_any p (p.gCode_l.getD (i3).toNat ins0) _ (prgQ_sep hp S10) (insQ_sep hel4 S10) fk14) ?_
                rintro _ w11 ⟨rfl, T5⟩
                have S11 : Sep w [box b1 (prgC p) 28] w11 := S10.trans T5
                clear T5 S10
                refine PB.mk S11 ?_
                refine PL.take 15 107 (.bool (!(namedB p (p.gCode_l.getD (i3).toNat ins0)))) (fun _ _ => by kernel_rfl) ?_
                refine PL.take 16 108 (.bool (!(namedB p (p.gCode_l.getD (i3).toNat ins0)))) (fun _ _ => by kernel_rfl) ?_
                refine PL.done ?_
                refine J.run 0 (rRest K7_46) [(108, .bool (!(namedB p (p.gCode_l.getD (i3).toNat ins0)))), (6, iv i3), (1, pv b1)] w11 (by kernel_rfl) ?_
                rcases Bool.eq_false_or_eq_true (namedB p (p.gCode_l.getD (i3).toNat ins0)) with fk15 | fk15
                ·skip
                 refine J.head (.bool false) (congrArg Value.bool (by rw [fk15]; rfl)) ?_
                 refine J.run 6 K7_47 [(91, iv (IntKind.wrap .i64 (i3 + 1))), (1, pv b1)] w11 (by kernel_rfl) ?_
                 refine J.head (iv (i3 + 1)) (congrArg (Value.int .i64) (IntWalk.i64_in _ (by omega))) ?_
                 refine J.run 3 K7_43 [(6, iv (i3 + 1)), (1, pv b1)] w11 (by kernel_rfl) ?_
                 refine J.run 0 K7_43 [(6, iv (i3 + 1)), (1, pv b1)] w11 (by kernel_rfl) ?_
                 exact ih4 _ (show ((p.gCode_n : Int) - (i3 + 1)).toNat < mm4 from by omega) (i3 + 1) w11 (by omega) (by omega) (all_step (q := fun j => fitsI p (p.gCode_l.getD j ins0) = true) z3 hq3 (by unfold fitsI; rw [fk14, fk15]; rfl)) S11 rfl
                ·skip
                 refine J.head (.bool true) (congrArg Value.bool (by rw [fk15]; rfl)) ?_
                 refine J.run 5 K7_48 [(2, .bool false)] w11 (by kernel_rfl) ?_
                 refine J.ret Tryz.f7 [.bool false] Tryz.func7 ⟨by kernel_rfl, trivial⟩ ?_
                 refine hR _ _ ?_
                 exact ⟨congrArg Value.bool (validP_no (.inr (.inr (.inr (.inr (.inl (all_no ins0 (j := i3.toNat) (by omega) (by unfold fitsI; rw [fk15]; rw [Bool.and_false])))))))).symm, S11.nil⟩
               ·skip
                obtain ⟨p5, hp5, hc5⟩ := q2.at ins0 (i3).toNat (by omega)
                have hel5 := getD_Q q3 ins0 (n := (i3).toNat) (by have := q2.len_eq; omega)
                obtain ⟨q55, q56, q57, q58, q59, _⟩ := id hel5
                refine J.drawPlan (fun w_ => Sep w [box b1 (prgC p) 28] w_) [(0, true), (1, true), (2, true), (3, true), (4, true), (5, false), (6, true), (7, true), (8, true), (9, true), (10, true), (11, true), (12, true), (13, true), (14, true), (15, true), (16, true)] S8 Tryz.mixed (by kernel_rfl) (planOK_of (T := [(0, some 92, 2), (1, some 93, 4951760157141521099596496896), (0, some 94, 64), (6, some 95, 29710560942849126597578981376), (8, some 96, 39614081257132168796771975168), (16, some 97, 79228162514264337593543950336), (32, some 98, 158456325028528675187087900672), (96, some 99, 316912650057057350374175801344), (128, some 100, 633825300114114700748351602690), (128, some 101, 633825300114114700748351602690), (640, some 102, 3169126500570573503741758013440), (128, some 103, 633825300114114700748351602752), (3200, some 104, 15845632502852867518708790067200), (4224, some 105, 20916234903765785124695602888704), (8576, some 106, 42466295107645684950139557380096), (16512, some 107, 81763463714720796396537356746752), (32896, some 108, 162893102129327478092326361890816)]) (by kernel_rfl) (by kernel_rfl)) ?_
                intro w12 S12
                refine PB.mk S12 ?_
                refine PL.take 0 92 (pv b1) (fun _ _ => by kernel_rfl) ?_
                refine PL.takeOK 1 (fun w_ S_ => OK.ldBox S_ 0 93 22 0 (.slice p.gCode_a p.gCode_n p.gCode_c) (by kernel_rfl) rfl (by kernel_rfl)) rfl ?_
                refine PL.take 2 94 (iv i3) (fun _ _ => by kernel_rfl) ?_
                refine PL.takeOK 3 (fun w_ S_ => OK.index 95 22 5 p.gCode_a p5 p.gCode_n (i3).toNat i3 (p5.add ((i3).toNat * 5)) (by kernel_rfl) (by kernel_rfl) hp5 (by omega) (by omega) rfl) rfl ?_
                refine PL.takeOK 4 (fun w_ S_ => OK.ldCells 96 44 (p5.add ((i3).toNat * 5)) (insC (p.gCode_l.getD (i3).toNat ins0)) (by kernel_rfl) (by kernel_rfl) (by kernel_rfl) (fun j_ v_ hj_ => S_.cell (hc5 j_ v_ hj_))) rfl ?_
                refine PL.callF 97 24 #[.agg (insA (p.gCode_l.getD (i3).toNat ins0))] hb24 (by kernel_rfl) (rformed_any (p.gCode_l.getD (i3).toNat ins0) _ (insQ_sep hel5 S12)) ?_
                rintro _ w13 ⟨rfl, T6⟩
                have S13 : Sep w [box b1 (prgC p) 28] w13 := S12.trans T6
                clear T6 S12
                refine PB.head (.bool false) (congrArg Value.bool fk14) ?_
                refine PB.mk S13 ?_
                refine PL.take 6 98 (.bool true) (fun _ _ => by kernel_rfl) ?_
                refine PL.take 7 99 (.bool true) (fun _ _ => by kernel_rfl) ?_
                refine PL.takePass 8 (some 100) (by kernel_rfl) ?_
                refine PL.takePass 9 (some 101) (by kernel_rfl) ?_
                refine PL.takePass 10 (some 102) (by kernel_rfl) ?_
                refine PL.takePass 11 (some 103) (by kernel_rfl) ?_
                refine PL.takePass 12 (some 104) (by kernel_rfl) ?_
                refine PL.takePass 13 (some 105) (by kernel_rfl) ?_
                refine PL.takePass 14 (some 106) (by kernel_rfl) ?_
                refine PL.takePass 15 (some 107) (by kernel_rfl) ?_
                refine PL.take 16 108 (.bool true) (fun _ _ => by kernel_rfl) ?_
                refine PL.done ?_
                refine J.run 0 (rRest K7_46) [(108, .bool true), (6, iv i3), (1, pv b1)] w13 (by kernel_rfl) ?_
                refine J.run 5 K7_49 [(2, .bool false)] w13 (by kernel_rfl) ?_
                refine J.ret Tryz.f7 [.bool false] Tryz.func7 ⟨by kernel_rfl, trivial⟩ ?_
                refine hR _ _ ?_
                exact ⟨congrArg Value.bool (validP_no (.inr (.inr (.inr (.inr (.inl (all_no ins0 (j := i3.toNat) (by omega) (by unfold fitsI; rw [fk14]; rfl)))))))).symm, S13.nil⟩
              ·skip
               refine J.head (.bool false) (congrArg Value.bool (decide_eq_false fk13)) ?_
               refine J.run 5 K7_50 [(1, pv b1)] w8 (by kernel_rfl) ?_
               refine J.ok (OK.ldBox S8 0 109 28 0 (.agg (prgA p)) (by kernel_rfl) rfl (by kernel_rfl)) ?_
               refine J.run 1 K7_51 [(110, .pointer (some ⟨b1, 5, none⟩)), (109, .agg (prgA p)), (1, pv b1)] w8 (by kernel_rfl) ?_
               refine J.ok (OK.ldBox S8 0 111 26 5 (.slice p.gInputs_a p.gInputs_n p.gInputs_c) (by kernel_rfl) rfl (by kernel_rfl)) ?_
               refine J.callF 112 26 #[.agg (prgA p), .slice p.gInputs_a p.gInputs_n p.gInputs_c] hb26 (by kernel_rfl) (rcells_any p p.gInputs_a p.gInputs_n p.gInputs_c p.gInputs_l _ (q15.sep S8)) ?_
               rintro _ w14 ⟨rfl, T7⟩
               have S14 : Sep w [box b1 (prgC p) 28] w14 := S8.trans T7
               clear T7 S8
               refine J.run 2 K7_52 [(114, .bool (!(cellsL (p).gCells p.gInputs_l))), (1, pv b1)] w14 (by kernel_rfl) ?_
               rcases Bool.eq_false_or_eq_true (cellsL (p).gCells p.gInputs_l) with fk16 | fk16
               ·skip
                refine J.head (.bool false) (congrArg Value.bool (by rw [fk16]; rfl)) ?_
                have fb1 := (cellsL_at fk16).1
                refine J.ok (OK.ldBox S14 0 115 28 0 (.agg (prgA p)) (by kernel_rfl) rfl (by kernel_rfl)) ?_
                refine J.run 1 K7_53 [(116, .pointer (some ⟨b1, 7, none⟩)), (115, .agg (prgA p)), (114, .bool false), (1, pv b1)] w14 (by kernel_rfl) ?_
                refine J.ok (OK.ldBox S14 0 117 26 7 (.slice p.gOutputs_a p.gOutputs_n p.gOutputs_c) (by kernel_rfl) rfl (by kernel_rfl)) ?_
                refine J.callF 118 26 #[.agg (prgA p), .slice p.gOutputs_a p.gOutputs_n p.gOutputs_c] hb26 (by kernel_rfl) (rcells_any p p.gOutputs_a p.gOutputs_n p.gOutputs_c p.gOutputs_l _ (q21.sep S14)) ?_
                rintro _ w15 ⟨rfl, T8⟩
                have S15 : Sep w [box b1 (prgC p) 28] w15 := S14.trans T8
                clear T8 S14
                refine J.run 3 K7_54 [(121, .bool (!(cellsL (p).gCells p.gOutputs_l))), (1, pv b1)] w15 (by kernel_rfl) ?_
                rcases Bool.eq_false_or_eq_true (cellsL (p).gCells p.gOutputs_l) with fk17 | fk17
                ·skip
                 refine J.head (.bool false) (congrArg Value.bool (by rw [fk17]; rfl)) ?_
                 have fb2 := (cellsL_at fk17).1
                 refine J.ok (OK.ldBox S15 0 122 28 0 (.agg (prgA p)) (by kernel_rfl) rfl (by kernel_rfl)) ?_
                 refine J.run 1 K7_55 [(123, .pointer (some ⟨b1, 6, none⟩)), (122, .agg (prgA p)), (121, .bool false), (1, pv b1)] w15 (by kernel_rfl) ?_
                 refine J.ok (OK.ldBox S15 0 124 26 6 (.slice p.gStates_a p.gStates_n p.gStates_c) (by kernel_rfl) rfl (by kernel_rfl)) ?_
                 refine J.callF 125 26 #[.agg (prgA p), .slice p.gStates_a p.gStates_n p.gStates_c] hb26 (by kernel_rfl) (rcells_any p p.gStates_a p.gStates_n p.gStates_c p.gStates_l _ (q18.sep S15)) ?_
                 rintro _ w16 ⟨rfl, T9⟩
                 have S16 : Sep w [box b1 (prgC p) 28] w16 := S15.trans T9
                 clear T9 S15
                 refine J.run 3 K7_56 [(128, .bool (!(cellsL (p).gCells p.gStates_l))), (1, pv b1)] w16 (by kernel_rfl) ?_
                 rcases Bool.eq_false_or_eq_true (cellsL (p).gCells p.gStates_l) with fk18 | fk18
                 ·skip
                  refine J.head (.bool false) (congrArg Value.bool (by rw [fk18]; rfl)) ?_
                  have fb3 := (cellsL_at fk18).1
                  refine J.run 1 K7_57 [(129, .pointer (some ⟨b1, 8, none⟩)), (128, .bool false), (1, pv b1)] w16 (by kernel_rfl) ?_
                  refine J.ok (OK.ldBox S16 0 130 26 8 (.slice p.gInitial_a p.gInitial_n p.gInitial_c) (by kernel_rfl) rfl (by kernel_rfl)) ?_
                  refine J.run 2 K7_58 [(132, .pointer (some ⟨b1, 6, none⟩)), (131, iv (p.gInitial_n : Int)), (128, .bool false), (1, pv b1)] w16 (by kernel_rfl) ?_
                  refine J.ok (OK.ldBox S16 0 133 26 6 (.slice p.gStates_a p.gStates_n p.gStates_c) (by kernel_rfl) rfl (by kernel_rfl)) ?_
                  refine J.run 4 K7_59 [(136, .bool ((p.gInitial_n : Int) != (p.gStates_n : Int))), (1, pv b1)] w16 (by kernel_rfl) ?_
                  by_cases fk19 : (p.gInitial_n : Int) = (p.gStates_n : Int)
                  ·skip
                   refine J.head (.bool false) (congrArg Value.bool (bne_eq_false_iff_eq.2 fk19)) ?_
                   refine J.run 5 K7_60 [(137, .pointer (some ⟨b1, 4, none⟩)), (1, pv b1)] w16 (by kernel_rfl) ?_
                   refine J.ok (OK.ldBox S16 0 138 3 4 (iv p.gCells) (by kernel_rfl) rfl (by kernel_rfl)) ?_
                   refine J.make (enc1 Value.bool) false S16 139 66 4 1 p.gCells p.gCells ((p.gCells).toNat) (.bool false) 1 (by kernel_rfl) (by omega) (by omega) (by kernel_rfl) (by kernel_rfl) (by kernel_rfl) (by rfl) (by omega) ?_
                   intro b2 w17 S17
                   refine J.run 3 K7_61 [(7, .slice (some ⟨b2, 0, none⟩) ((List.replicate ((p.gCells).toNat) false).length) ((p.gCells).toNat)), (1, pv b1)] w17 (by kernel_rfl) ?_
                   refine J.drawPlan (fun w_ => Sep w [rowOf (enc1 Value.bool) (some ⟨b2, 0, none⟩) ((p.gCells).toNat) 4 1 (List.replicate ((p.gCells).toNat) false), box b1 (prgC p) 28] w_) [(1, true), (2, true), (4, true), (5, true), (0, false), (3, false), (6, false), (7, true)] S17 Tryz.mixed (by kernel_rfl) (planOK_of (T := [(0, some 140, 0), (0, some 141, 2), (2, some 142, 2787593149816327892691964784081045188247552), (5, some 143, 6968982874540819731729911960202612970618880), (0, some 144, 2), (16, some 145, 22300745198530623141535718272648361505980416), (40, some 146, 55751862996326557853839295681620903764951040), (127, some 8, 89202980794122492566142873090593446023921664)]) (by kernel_rfl) (by kernel_rfl)) ?_
                   intro w18 S18
                   refine PB.mk S18 ?_
                   refine PL.take 1 141 (.pointer (some ⟨b1, 5, none⟩)) (fun _ _ => by kernel_rfl) ?_
                   refine PL.takeOK 2 (fun w_ S_ => OK.ldBox S_ 1 142 26 5 (.slice p.gInputs_a p.gInputs_n p.gInputs_c) (by kernel_rfl) rfl (by kernel_rfl)) rfl ?_
                   refine PL.take 4 144 (.pointer (some ⟨b1, 6, none⟩)) (fun _ _ => by kernel_rfl) ?_
                   refine PL.takeOK 5 (fun w_ S_ => OK.ldBox S_ 1 145 26 6 (.slice p.gStates_a p.gStates_n p.gStates_c) (by kernel_rfl) rfl (by kernel_rfl)) rfl ?_
                   refine PL.newSlice S18 140 0 [] 3 (by kernel_rfl) ?_
                   intro b3 w19 S19
                   refine PB.mk (S19.erase 0) ?_
                   have S20 : Sep w [rowOf encI (some ⟨b3, 0, none⟩) 0 3 1 ([]), rowOf (enc1 Value.bool) (some ⟨b2, 0, none⟩) ((p.gCells).toNat) 4 1 (List.replicate ((p.gCells).toNat) false), box b1 (prgC p) 28] w19 := box_row encI S19 0 [] 1 rfl rfl rfl (by simp [maxLen]) (.inr trivial)
                   have hz1 := q15.sep S20
                   have := hz1.len_eq
                   refine PL.appendN encI S20 0 ([]) p.gInputs_l p.gInputs_n (by first | omega | (simp; omega)) 143 26 (iv 0) 8 p.gInputs_a p.gInputs_c rfl (by kernel_rfl) (by kernel_rfl) (by kernel_rfl) (by kernel_rfl) (by decide) (q15.sep S20).enc (fun h_ => Ones.nil (h_ ▸ hz1)) (fun _ => rfl) (fun _ => rfl) (⟨by first | omega | (simp; omega), by first | omega | (simp; omega)⟩) ?_
                   intro ra1 rc1 w20 S21
                   replace S21 : Sep w [rowOf encI ra1 rc1 3 1 p.gInputs_l, rowOf (enc1 Value.bool) (some ⟨b2, 0, none⟩) ((p.gCells).toNat) 4 1 (List.replicate ((p.gCells).toNat) false), box b1 (prgC p) 28] w20 := S21
                   refine PB.mk (S21.erase 0) ?_
                   have hz2 := q18.sep S21
                   have := hz2.len_eq
                   refine PL.appendN encI S21 0 p.gInputs_l p.gStates_l p.gStates_n (by first | omega | (simp; omega)) 146 26 (iv 0) 8 p.gStates_a p.gStates_c rfl (by kernel_rfl) (by kernel_rfl) (by kernel_rfl) (by kernel_rfl) (by decide) (q18.sep S21).enc (fun h_ => Ones.nil (h_ ▸ hz2)) (fun _ => rfl) (fun _ => rfl) (⟨by first | omega | (simp; omega), by first | omega | (simp; omega)⟩) ?_
                   intro ra2 rc2 w21 S22
                   replace S22 : Sep w [rowOf encI ra2 rc2 3 1 (p.gInputs_l ++ p.gStates_l), rowOf (enc1 Value.bool) (some ⟨b2, 0, none⟩) ((p.gCells).toNat) 4 1 (List.replicate ((p.gCells).toNat) false), box b1 (prgC p) 28] w21 := S22
                   refine PB.mk (S22.erase 0) ?_
                   refine PL.take 7 8 (.slice ra2 ((p.gInputs_l ++ p.gStates_l).length) rc2) (fun _ _ => by kernel_rfl) ?_
                   refine PL.done ?_
                   refine J.run 0 (rRest K7_61) [(8, .slice ra2 ((p.gInputs_l ++ p.gStates_l).length) rc2), (7, .slice (some ⟨b2, 0, none⟩) ((List.replicate ((p.gCells).toNat) false).length) ((p.gCells).toNat)), (1, pv b1)] w21 (by kernel_rfl) ?_
                   refine J.run 7 K7_62 [(9, iv 0), (8, .slice ra2 ((p.gInputs_l ++ p.gStates_l).length) rc2), (7, .slice (some ⟨b2, 0, none⟩) ((List.replicate ((p.gCells).toNat) false).length) ((p.gCells).toNat)), (1, pv b1)] w21 (by kernel_rfl) ?_
                   have L7_5 : ∀ (mm_ : Nat) (tk : List Bool) (k : Int) (w22 : World), (0 ≤ k) → (k ≤ ((p.gInputs_l ++ p.gStates_l).length : Int)) → (markP (p.gInputs_l ++ p.gStates_l) p.gCells (k).toNat tk) → Sep w [rowOf encI ra2 rc2 3 1 (p.gInputs_l ++ p.gStates_l), rowOf (enc1 Value.bool) (some ⟨b2, 0, none⟩) ((p.gCells).toNat) 4 1 tk, box b1 (prgC p) 28] w22 → (((p.gInputs_l ++ p.gStates_l).length : Int) - k).toNat = mm_ → J Tryz.prog 7 187 R K7_62 [(9, iv k), (8, .slice ra2 ((p.gInputs_l ++ p.gStates_l).length) rc2), (7, .slice (some ⟨b2, 0, none⟩) ((List.replicate ((p.gCells).toNat) false).length) ((p.gCells).toNat)), (1, pv b1)] w22 := by
                    intro mm5
                    induction mm5 using Nat.strongRecOn with
                    | _ mm5 ih5 =>
                    intro tk k w22 k0 k1 hM S23 hm5
                    have hck0 := fun (j : Nat) (hj : j < (p.gInputs_l ++ p.gStates_l).length) => getD_two (j := j) ((cellsL_at fk16).2) ((cellsL_at fk18).2) hj
                    have hck1 : k < ((p.gInputs_l ++ p.gStates_l).length : Int) → _ := fun h_ => hck0 k.toNat (by omega)
                    have htk := hM.1
                    refine J.run 8 K7_63 [(150, .bool (decide (k < ((p.gInputs_l ++ p.gStates_l).length : Int)))), (9, iv k), (8, .slice ra2 ((p.gInputs_l ++ p.gStates_l).length) rc2), (7, .slice (some ⟨b2, 0, none⟩) ((List.replicate ((p.gCells).toNat) false).length) ((p.gCells).toNat)), (1, pv b1)] w22 (by kernel_rfl) ?_
                    by_cases fk20 : k < ((p.gInputs_l ++ p.gStates_l).length : Int)
                    ·skip
                     refine J.head (.bool true) (congrArg Value.bool (decide_eq_true fk20)) ?_
                     have hck := hck1 (by omega)
                     refine J.run 10 K7_64 [(155, iv k), (154, .slice ra2 ((p.gInputs_l ++ p.gStates_l).length) rc2), (153, .slice (some ⟨b2, 0, none⟩) ((List.replicate ((p.gCells).toNat) false).length) ((p.gCells).toNat)), (9, iv k), (8, .slice ra2 ((p.gInputs_l ++ p.gStates_l).length) rc2), (7, .slice (some ⟨b2, 0, none⟩) ((List.replicate ((p.gCells).toNat) false).length) ((p.gCells).toNat)), (1, pv b1)] w22 (by kernel_rfl) ?_
                     obtain ⟨p6, hp6⟩ := row1_addr (S23.nth 0 rfl) (show 0 < (p.gInputs_l ++ p.gStates_l).length by first | omega | (simp; omega))
                     refine J.ok (OK.index 156 26 1 ra2 p6 ((p.gInputs_l ++ p.gStates_l).length) (k).toNat k (p6.add (k).toNat) (by kernel_rfl) (by kernel_rfl) hp6 (by omega) (by first | omega | (simp; omega)) (by rw [Nat.mul_one])) ?_
                     refine J.ok (OK.ldCell 157 3 (p6.add (k).toNat) (iv ((p.gInputs_l ++ p.gStates_l).getD (k).toNat 0)) (by kernel_rfl) (by kernel_rfl) (row1_cell (g := (Value.int .i64)) S23 0 rfl hp6 0 (k).toNat (by first | omega | (simp; omega)))) ?_
                     obtain ⟨p7, hp7⟩ := row1_addr (S23.nth 1 rfl) (show 0 < (tk).length by first | omega | (simp; omega))
                     refine J.ok (OK.index 158 66 1 (some ⟨b2, 0, none⟩) p7 ((List.replicate ((p.gCells).toNat) false).length) ((p.gInputs_l ++ p.gStates_l).getD (k).toNat 0).toNat ((p.gInputs_l ++ p.gStates_l).getD (k).toNat 0) (p7.add ((p.gInputs_l ++ p.gStates_l).getD (k).toNat 0).toNat) (by kernel_rfl) (by kernel_rfl) hp7 (by omega) (by first | omega | (simp; omega)) (by rw [Nat.mul_one])) ?_
                     refine J.ok (OK.ldCell 159 4 (p7.add ((p.gInputs_l ++ p.gStates_l).getD (k).toNat 0).toNat) (.bool (tk.getD ((p.gInputs_l ++ p.gStates_l).getD (k).toNat 0).toNat false)) (by kernel_rfl) (by kernel_rfl) (row1_cell (g := Value.bool) S23 1 rfl hp7 false ((p.gInputs_l ++ p.gStates_l).getD (k).toNat 0).toNat (by first | omega | (simp; omega)))) ?_
                     refine J.run 1 K7_65 [(159, .bool (tk.getD ((p.gInputs_l ++ p.gStates_l).getD (k).toNat 0).toNat false)), (9, iv k), (8, .slice ra2 ((p.gInputs_l ++ p.gStates_l).length) rc2), (7, .slice (some ⟨b2, 0, none⟩) ((List.replicate ((p.gCells).toNat) false).length) ((p.gCells).toNat)), (1, pv b1)] w22 (by kernel_rfl) ?_
                     rcases Bool.eq_false_or_eq_true (tk.getD ((p.gInputs_l ++ p.gStates_l).getD (k).toNat 0).toNat false) with fk21 | fk21
                     ·skip
                      refine J.head (.bool true) (congrArg Value.bool fk21) ?_
                      refine J.run 5 K7_66 [(2, .bool false)] w22 (by kernel_rfl) ?_
                      refine J.ret Tryz.f7 [.bool false] Tryz.func7 ⟨by kernel_rfl, trivial⟩ ?_
                      refine hR _ _ ?_
                      exact ⟨congrArg Value.bool (validP_no (.inr (.inr (.inr (.inr (.inr (.inr (.inr (.inr (.inr (.inl (mark_twice hM (by omega) hck fk21)))))))))))).symm, S23.nil⟩
                     ·skip
                      refine J.head (.bool false) (congrArg Value.bool fk21) ?_
                      refine J.run 6 K7_67 [(162, iv k), (161, .slice ra2 ((p.gInputs_l ++ p.gStates_l).length) rc2), (160, .slice (some ⟨b2, 0, none⟩) ((List.replicate ((p.gCells).toNat) false).length) ((p.gCells).toNat)), (9, iv k), (8, .slice ra2 ((p.gInputs_l ++ p.gStates_l).length) rc2), (7, .slice (some ⟨b2, 0, none⟩) ((List.replicate ((p.gCells).toNat) false).length) ((p.gCells).toNat)), (1, pv b1)] w22 (by kernel_rfl) ?_
                      refine J.ok (OK.index 163 26 1 ra2 p6 ((p.gInputs_l ++ p.gStates_l).length) (k).toNat k (p6.add (k).toNat) (by kernel_rfl) (by kernel_rfl) hp6 (by omega) (by first | omega | (simp; omega)) (by rw [Nat.mul_one])) ?_
                      refine J.ok (OK.ldCell 164 3 (p6.add (k).toNat) (iv ((p.gInputs_l ++ p.gStates_l).getD (k).toNat 0)) (by kernel_rfl) (by kernel_rfl) (row1_cell (g := (Value.int .i64)) S23 0 rfl hp6 0 (k).toNat (by first | omega | (simp; omega)))) ?_
                      refine J.ok (OK.index 165 66 1 (some ⟨b2, 0, none⟩) p7 ((List.replicate ((p.gCells).toNat) false).length) ((p.gInputs_l ++ p.gStates_l).getD (k).toNat 0).toNat ((p.gInputs_l ++ p.gStates_l).getD (k).toNat 0) (p7.add ((p.gInputs_l ++ p.gStates_l).getD (k).toNat 0).toNat) (by kernel_rfl) (by kernel_rfl) hp7 (by omega) (by first | omega | (simp; omega)) (by rw [Nat.mul_one])) ?_
                      refine J.stRow1 Value.bool bool_one S23 1 tk 4 p7 ((p.gInputs_l ++ p.gStates_l).getD (k).toNat 0).toNat true rfl (by kernel_rfl) hp7 (by first | omega | (simp; omega)) (by kernel_rfl) ?_
                      intro w23 S24
                      replace S24 : Sep w [rowOf encI ra2 rc2 3 1 (p.gInputs_l ++ p.gStates_l), rowOf (enc1 Value.bool) (some ⟨b2, 0, none⟩) ((p.gCells).toNat) 4 1 (tk.set ((p.gInputs_l ++ p.gStates_l).getD (k).toNat 0).toNat true), box b1 (prgC p) 28] w23 := S24
                      refine J.run 5 K7_68 [(152, iv (IntKind.wrap .i64 (k + 1))), (8, .slice ra2 ((p.gInputs_l ++ p.gStates_l).length) rc2), (7, .slice (some ⟨b2, 0, none⟩) ((List.replicate ((p.gCells).toNat) false).length) ((p.gCells).toNat)), (1, pv b1)] w23 (by kernel_rfl) ?_
                      refine J.head (iv (k + 1)) (congrArg (Value.int .i64) (IntWalk.i64_in _ (by omega))) ?_
                      refine J.run 3 K7_62 [(9, iv (k + 1)), (8, .slice ra2 ((p.gInputs_l ++ p.gStates_l).length) rc2), (7, .slice (some ⟨b2, 0, none⟩) ((List.replicate ((p.gCells).toNat) false).length) ((p.gCells).toNat)), (1, pv b1)] w23 (by kernel_rfl) ?_
                      refine J.run 0 K7_62 [(9, iv (k + 1)), (8, .slice ra2 ((p.gInputs_l ++ p.gStates_l).length) rc2), (7, .slice (some ⟨b2, 0, none⟩) ((List.replicate ((p.gCells).toNat) false).length) ((p.gCells).toNat)), (1, pv b1)] w23 (by kernel_rfl) ?_
                      exact ih5 _ (show (((p.gInputs_l ++ p.gStates_l).length : Int) - (k + 1)).toNat < mm5 from by omega) (tk.set ((p.gInputs_l ++ p.gStates_l).getD (k).toNat 0).toNat true) (k + 1) w23 (by omega) (by omega) (by rw [show (k + 1).toNat = k.toNat + 1 by omega]; exact mark_step hM (by omega) hck fk21) S24 rfl
                    ·skip
                     refine J.head (.bool false) (congrArg Value.bool (decide_eq_false fk20)) ?_
                     refine J.run 9 K7_69 [(10, iv 0), (1, pv b1)] w22 (by kernel_rfl) ?_
                     have L7_6 : ∀ (mm_ : Nat) (i5 : Int) (w24 : World), (0 ≤ i5) → (i5 ≤ (p.gInitial_n : Int)) → (∀ j, j < (i5).toNat → initB (p.gInitial_l.getD j 0) = true) → Sep w [rowOf encI ra2 rc2 3 1 (p.gInputs_l ++ p.gStates_l), rowOf (enc1 Value.bool) (some ⟨b2, 0, none⟩) ((p.gCells).toNat) 4 1 tk, box b1 (prgC p) 28] w24 → ((p.gInitial_n : Int) - i5).toNat = mm_ → J Tryz.prog 7 187 R K7_69 [(10, iv i5), (1, pv b1)] w24 := by
                      intro mm6
                      induction mm6 using Nat.strongRecOn with
                      | _ mm6 ih6 =>
                      intro i5 w24 z5 y5 hq5 S25 hm6
                      refine J.run 5 K7_70 [(167, .pointer (some ⟨b1, 8, none⟩)), (166, iv i5), (10, iv i5), (1, pv b1)] w24 (by kernel_rfl) ?_
                      refine J.ok (OK.ldBox S25 2 168 26 8 (.slice p.gInitial_a p.gInitial_n p.gInitial_c) (by kernel_rfl) rfl (by kernel_rfl)) ?_
                      refine J.run 3 K7_71 [(170, .bool (decide (i5 < (p.gInitial_n : Int)))), (10, iv i5), (1, pv b1)] w24 (by kernel_rfl) ?_
                      by_cases fk22 : i5 < (p.gInitial_n : Int)
                      ·skip
                       refine J.head (.bool true) (congrArg Value.bool (decide_eq_true fk22)) ?_
                       refine J.run 7 K7_72 [(173, .pointer (some ⟨b1, 8, none⟩)), (10, iv i5), (1, pv b1)] w24 (by kernel_rfl) ?_
                       refine J.ok (OK.ldBox S25 2 174 26 8 (.slice p.gInitial_a p.gInitial_n p.gInitial_c) (by kernel_rfl) rfl (by kernel_rfl)) ?_
                       refine J.run 1 K7_73 [(175, iv i5), (174, .slice p.gInitial_a p.gInitial_n p.gInitial_c), (10, iv i5), (1, pv b1)] w24 (by kernel_rfl) ?_
                       obtain ⟨p8, hp8, hc6⟩ := q24.at 0 (i5).toNat (by omega)
                       have hel6 := getD_Q q25 0 (n := (i5).toNat) (by have := q24.len_eq; omega)
                       refine J.ok (OK.index 176 26 1 p.gInitial_a p8 p.gInitial_n (i5).toNat i5 (p8.add (i5).toNat) (by kernel_rfl) (by kernel_rfl) hp8 (by omega) (by omega) (by rw [Nat.mul_one])) ?_
                       refine J.ok (OK.ldCell 177 3 (p8.add (i5).toNat) (iv (p.gInitial_l.getD (i5).toNat 0)) (by kernel_rfl) (by kernel_rfl) (S25.cell hc6)) ?_
                       refine J.run 2 K7_74 [(179, .bool (decide ((p.gInitial_l.getD (i5).toNat 0) < (-1099511627776)))), (10, iv i5), (1, pv b1)] w24 (by kernel_rfl) ?_
                       by_cases fk23 : (p.gInitial_l.getD (i5).toNat 0) < (-1099511627776)
                       ·skip
                        refine J.head (.bool true) (congrArg Value.bool (decide_eq_true fk23)) ?_
                        refine J.run 13 K7_75 [(2, .bool false)] w24 (by kernel_rfl) ?_
                        refine J.ret Tryz.f7 [.bool false] Tryz.func7 ⟨by kernel_rfl, trivial⟩ ?_
                        refine hR _ _ ?_
                        exact ⟨congrArg Value.bool (validP_no (.inr (.inr (.inr (.inr (.inr (.inr (.inr (.inr (.inr (.inr (all_no 0 (j := i5.toNat) (by omega) (by unfold initB; first | rw [decide_eq_false (show ¬ -1099511627776 ≤ p.gInitial_l.getD (i5).toNat 0 by omega)]; rfl | rw [decide_eq_false (show ¬ p.gInitial_l.getD (i5).toNat 0 ≤ 1099511627776 by omega), Bool.and_false]))))))))))))).symm, S25.nil⟩
                       ·skip
                        refine J.head (.bool false) (congrArg Value.bool (decide_eq_false fk23)) ?_
                        refine J.run 1 K7_76 [(180, .pointer (some ⟨b1, 8, none⟩)), (179, .bool false), (10, iv i5), (1, pv b1)] w24 (by kernel_rfl) ?_
                        refine J.ok (OK.ldBox S25 2 181 26 8 (.slice p.gInitial_a p.gInitial_n p.gInitial_c) (by kernel_rfl) rfl (by kernel_rfl)) ?_
                        refine J.run 1 K7_77 [(182, iv i5), (181, .slice p.gInitial_a p.gInitial_n p.gInitial_c), (179, .bool false), (10, iv i5), (1, pv b1)] w24 (by kernel_rfl) ?_
                        refine J.ok (OK.index 183 26 1 p.gInitial_a p8 p.gInitial_n (i5).toNat i5 (p8.add (i5).toNat) (by kernel_rfl) (by kernel_rfl) hp8 (by omega) (by omega) (by rw [Nat.mul_one])) ?_
                        refine J.ok (OK.ldCell 184 3 (p8.add (i5).toNat) (iv (p.gInitial_l.getD (i5).toNat 0)) (by kernel_rfl) (by kernel_rfl) (S25.cell hc6)) ?_
                        refine J.run 3 K7_78 [(186, .bool (decide ((p.gInitial_l.getD (i5).toNat 0) > 1099511627776))), (10, iv i5), (1, pv b1)] w24 (by kernel_rfl) ?_
                        by_cases fk24 : (p.gInitial_l.getD (i5).toNat 0) > 1099511627776
                        ·skip
                         refine J.head (.bool true) (congrArg Value.bool (decide_eq_true fk24)) ?_
                         refine J.run 5 K7_79 [(2, .bool false)] w24 (by kernel_rfl) ?_
                         refine J.ret Tryz.f7 [.bool false] Tryz.func7 ⟨by kernel_rfl, trivial⟩ ?_
                         refine hR _ _ ?_
                         exact ⟨congrArg Value.bool (validP_no (.inr (.inr (.inr (.inr (.inr (.inr (.inr (.inr (.inr (.inr (all_no 0 (j := i5.toNat) (by omega) (by unfold initB; first | rw [decide_eq_false (show ¬ -1099511627776 ≤ p.gInitial_l.getD (i5).toNat 0 by omega)]; rfl | rw [decide_eq_false (show ¬ p.gInitial_l.getD (i5).toNat 0 ≤ 1099511627776 by omega), Bool.and_false]))))))))))))).symm, S25.nil⟩
                        ·skip
                         refine J.head (.bool false) (congrArg Value.bool (decide_eq_false fk24)) ?_
                         refine J.run 6 K7_80 [(172, iv (IntKind.wrap .i64 (i5 + 1))), (1, pv b1)] w24 (by kernel_rfl) ?_
                         refine J.head (iv (i5 + 1)) (congrArg (Value.int .i64) (IntWalk.i64_in _ (by omega))) ?_
                         refine J.run 3 K7_69 [(10, iv (i5 + 1)), (1, pv b1)] w24 (by kernel_rfl) ?_
                         refine J.run 0 K7_69 [(10, iv (i5 + 1)), (1, pv b1)] w24 (by kernel_rfl) ?_
                         exact ih6 _ (show ((p.gInitial_n : Int) - (i5 + 1)).toNat < mm6 from by omega) (i5 + 1) w24 (by omega) (by omega) (all_step (q := fun j => initB (p.gInitial_l.getD j 0) = true) z5 hq5 (by unfold initB; rw [decide_eq_true (show -1099511627776 ≤ p.gInitial_l.getD (i5).toNat 0 by omega), decide_eq_true (show p.gInitial_l.getD (i5).toNat 0 ≤ 1099511627776 by omega)]; rfl)) S25 rfl
                      ·skip
                       refine J.head (.bool false) (congrArg Value.bool (decide_eq_false fk22)) ?_
                       refine J.run 6 K7_81 [(2, .bool true)] w24 (by kernel_rfl) ?_
                       refine J.ret Tryz.f7 [.bool true] Tryz.func7 ⟨by kernel_rfl, trivial⟩ ?_
                       refine hR _ _ ?_
                       exact ⟨congrArg Value.bool (validP_yes (by omega) ((all_getD fx0).2 fun j hj => hq0 j (by omega)) ((all_getD (⟨none, 0, 0, [], none, 0, 0, []⟩ : Crv)).2 fun j hj => hq1 j (by omega)) ((all_getD (⟨none, 0, 0, [], none, 0, 0, [], none, 0, 0, []⟩ : Mp)).2 fun j hj => hq2 j (by omega)) ((all_getD ins0).2 fun j hj => hq3 j (by omega)) fk16 fk17 fk18 (by omega) (mark_end hM (by omega)) ((all_getD 0).2 fun j hj => hq5 j (by omega))).symm, S25.nil⟩
                     exact L7_6 _ 0 w22 (by omega) (by omega) (by intro j hj; simp at hj) S23 rfl
                   exact L7_5 _ (List.replicate ((p.gCells).toNat) false) 0 w21 (by omega) (by omega) (mark_zero (by omega)) S22 rfl
                  ·skip
                   refine J.head (.bool true) (congrArg Value.bool (bne_iff_ne.2 fk19)) ?_
                   refine J.run 5 K7_82 [(2, .bool false)] w16 (by kernel_rfl) ?_
                   refine J.ret Tryz.f7 [.bool false] Tryz.func7 ⟨by kernel_rfl, trivial⟩ ?_
                   refine hR _ _ ?_
                   exact ⟨congrArg Value.bool (validP_no (.inr (.inr (.inr (.inr (.inr (.inr (.inr (.inr (.inl (by omega))))))))))).symm, S16.nil⟩
                 ·skip
                  refine J.head (.bool true) (congrArg Value.bool (by rw [fk18]; rfl)) ?_
                  refine J.run 14 K7_83 [(2, .bool false)] w16 (by kernel_rfl) ?_
                  refine J.ret Tryz.f7 [.bool false] Tryz.func7 ⟨by kernel_rfl, trivial⟩ ?_
                  refine hR _ _ ?_
                  exact ⟨congrArg Value.bool (validP_no (.inr (.inr (.inr (.inr (.inr (.inr (.inr (.inl (fk18)))))))))).symm, S16.nil⟩
                ·skip
                 refine J.head (.bool true) (congrArg Value.bool (by rw [fk17]; rfl)) ?_
                 refine J.run 21 K7_84 [(2, .bool false)] w15 (by kernel_rfl) ?_
                 refine J.ret Tryz.f7 [.bool false] Tryz.func7 ⟨by kernel_rfl, trivial⟩ ?_
                 refine hR _ _ ?_
                 exact ⟨congrArg Value.bool (validP_no (.inr (.inr (.inr (.inr (.inr (.inr (.inl (fk17))))))))).symm, S15.nil⟩
               ·skip
                refine J.head (.bool true) (congrArg Value.bool (by rw [fk16]; rfl)) ?_
                refine J.run 28 K7_85 [(2, .bool false)] w14 (by kernel_rfl) ?_
                refine J.ret Tryz.f7 [.bool false] Tryz.func7 ⟨by kernel_rfl, trivial⟩ ?_
                refine hR _ _ ?_
                exact ⟨congrArg Value.bool (validP_no (.inr (.inr (.inr (.inr (.inr (.inl (fk16)))))))).symm, S14.nil⟩
             exact L7_4 _ 0 w6 (by omega) (by omega) (by intro j hj; simp at hj) S6 rfl
           exact L7_3 _ 0 w4 (by omega) (by omega) (by intro j hj; simp at hj) S4 rfl
         exact L7_2 _ 0 w2 (by omega) (by omega) (by intro j hj; simp at hj) S2 rfl
       exact L7_1 _ 0 w1 (by omega) (by omega) (by intro j hj; simp at hj) S1 rfl

end Go.Proofs.YthfpejhonhaggaaGreatDoor

