/- Walks of functions of this seat, printed by a program over the engine. Conditions: as each theorem says. -/
import Derived.Test.YthfpejhonhaggaaGreatDoorZX14
namespace Go.Proofs.YthfpejhonhaggaaGreatDoor
open Go.Eng Go.RowKit
set_option linter.unusedSimpArgs false
set_option linter.unusedVariables false
theorem hb18 : HasBody Tryz.prog 18 := fun _ _ => by kernel_rfl
noncomputable def K18_0 : List Item := adv 2 [] (bodyOf Tryz.f18)
noncomputable def K18_1 : List Item := adv 5 [] (popK K18_0)
noncomputable def K18_2 : List Item := adv 3 [] (popK K18_1)
noncomputable def K18_3 : List Item := adv 13 [] K18_2
noncomputable def K18_4 : List Item := adv 1 [] K18_2
noncomputable def K18_5 : List Item := adv 4 [] (popK K18_4)
noncomputable def K18_6 : List Item := adv 7 [] K18_5
noncomputable def K18_7 : List Item := adv 1 [] K18_5
noncomputable def K18_8 : List Item := adv 5 [] (popK K18_7)
set_option maxRecDepth 20000 in
set_option maxHeartbeats 20000000 in
theorem great1_any (m : Mp) (w : World) : Ret Tryz.prog 18 #[.agg (mpA m)] w (fun v w' => v = .bool (bigM m) ∧ Sep w [] w') := by
 have S0 := Sep.refl w
 refine Ret.named fun R hR => ?_
 refine Ret.of_J (N := 19) [(0, .agg (mpA m))] Tryz.func18 rfl rfl (Nat.le_of_ble_eq_true (by kernel_rfl)) (by kernel_rfl) ?_
 refine J.run 2 K18_0 [(0, .agg (mpA m))] w (by kernel_rfl) ?_
 refine J.new S0 1 (mpC m) 52 (by kernel_rfl) ?_
 intro b1 w1 S1
 refine J.run 5 K18_1 [(3, pv b1), (1, pv b1)] w1 (by kernel_rfl) ?_
 refine J.ok (OK.ldBox S1 0 4 26 0 (.slice m.gX_a m.gX_n m.gX_c) (by kernel_rfl) rfl (by kernel_rfl)) ?_
 refine J.run 3 K18_2 [(7, .bool (decide ((m.gX_n : Int) > 40))), (1, pv b1)] w1 (by kernel_rfl) ?_
 by_cases fk1 : (m.gX_n : Int) > 40
 ·skip
  refine J.head (.bool true) (congrArg Value.bool (decide_eq_true fk1)) ?_
  refine J.run 13 K18_3 [(2, .bool true)] w1 (by kernel_rfl) ?_
  refine J.ret Tryz.f18 [.bool true] Tryz.func18 ⟨by kernel_rfl, trivial⟩ ?_
  refine hR _ _ ?_
  exact ⟨congrArg Value.bool (by unfold bigM; first | (simp [fk1]; done) | (simp [fk1]; omega)), S1.nil⟩
 ·skip
  refine J.head (.bool false) (congrArg Value.bool (decide_eq_false fk1)) ?_
  refine J.run 1 K18_4 [(8, .pointer (some ⟨b1, 1, none⟩)), (7, .bool false), (1, pv b1)] w1 (by kernel_rfl) ?_
  refine J.ok (OK.ldBox S1 0 9 26 1 (.slice m.gY_a m.gY_n m.gY_c) (by kernel_rfl) rfl (by kernel_rfl)) ?_
  refine J.run 4 K18_5 [(13, .bool (decide ((m.gY_n : Int) > 40))), (1, pv b1)] w1 (by kernel_rfl) ?_
  by_cases fk2 : (m.gY_n : Int) > 40
  ·skip
   refine J.head (.bool true) (congrArg Value.bool (decide_eq_true fk2)) ?_
   refine J.run 7 K18_6 [(2, .bool true)] w1 (by kernel_rfl) ?_
   refine J.ret Tryz.f18 [.bool true] Tryz.func18 ⟨by kernel_rfl, trivial⟩ ?_
   refine hR _ _ ?_
   exact ⟨congrArg Value.bool (by unfold bigM; first | (simp [fk1, fk2]; done) | (simp [fk1, fk2]; omega)), S1.nil⟩
  ·skip
   refine J.head (.bool false) (congrArg Value.bool (decide_eq_false fk2)) ?_
   refine J.run 1 K18_7 [(14, .pointer (some ⟨b1, 2, none⟩)), (13, .bool false)] w1 (by kernel_rfl) ?_
   refine J.ok (OK.ldBox S1 0 15 50 2 (.slice m.gZ_a m.gZ_n m.gZ_c) (by kernel_rfl) rfl (by kernel_rfl)) ?_
   refine J.run 5 K18_8 [(2, .bool (decide ((m.gZ_n : Int) > 40)))] w1 (by kernel_rfl) ?_
   refine J.ret Tryz.f18 [.bool (decide ((m.gZ_n : Int) > 40))] Tryz.func18 ⟨by kernel_rfl, trivial⟩ ?_
   refine hR _ _ ?_
   exact ⟨congrArg Value.bool (by unfold bigM; first | (simp [fk1, fk2]; done) | (simp [fk1, fk2]; omega)), S1.nil⟩

theorem hb20 : HasBody Tryz.prog 20 := fun _ _ => by kernel_rfl
noncomputable def K20_0 : List Item := adv 2 [] (bodyOf Tryz.f20)
noncomputable def K20_1 : List Item := adv 5 [] (popK K20_0)
noncomputable def K20_2 : List Item := adv 4 [] (popK K20_1)
set_option maxRecDepth 20000 in
set_option maxHeartbeats 20000000 in
theorem great2_any (c : Crv) (w : World) : Ret Tryz.prog 20 #[.agg (crvA c)] w (fun v w' => v = .bool (bigC c) ∧ Sep w [] w') := by
 have S0 := Sep.refl w
 refine Ret.named fun R hR => ?_
 refine Ret.of_J (N := 7) [(0, .agg (crvA c))] Tryz.func20 rfl rfl (Nat.le_of_ble_eq_true (by kernel_rfl)) (by kernel_rfl) ?_
 refine J.run 2 K20_0 [(0, .agg (crvA c))] w (by kernel_rfl) ?_
 refine J.new S0 1 (crvC c) 56 (by kernel_rfl) ?_
 intro b1 w1 S1
 refine J.run 5 K20_1 [(3, pv b1)] w1 (by kernel_rfl) ?_
 refine J.ok (OK.ldBox S1 0 4 26 0 (.slice c.gX_a c.gX_n c.gX_c) (by kernel_rfl) rfl (by kernel_rfl)) ?_
 refine J.run 4 K20_2 [(2, .bool (decide ((c.gX_n : Int) > 100)))] w1 (by kernel_rfl) ?_
 refine J.ret Tryz.f20 [.bool (decide ((c.gX_n : Int) > 100))] Tryz.func20 ⟨by kernel_rfl, trivial⟩ ?_
 refine hR _ _ ?_
 exact ⟨rfl, S1.nil⟩

theorem hb5 : HasBody Tryz.prog 5 := fun _ _ => by kernel_rfl
noncomputable def K5_0 : List Item := adv 2 [] (bodyOf Tryz.f5)
noncomputable def K5_1 : List Item := adv 5 [] (popK K5_0)
noncomputable def K5_2 : List Item := adv 3 [] (popK K5_1)
noncomputable def K5_3 : List Item := adv 63 [] K5_2
noncomputable def K5_4 : List Item := adv 1 [] K5_2
noncomputable def K5_5 : List Item := adv 4 [] (popK K5_4)
noncomputable def K5_6 : List Item := adv 57 [] K5_5
noncomputable def K5_7 : List Item := adv 1 [] K5_5
noncomputable def K5_8 : List Item := adv 4 [] (popK K5_7)
noncomputable def K5_9 : List Item := adv 51 [] K5_8
noncomputable def K5_10 : List Item := adv 1 [] K5_8
noncomputable def K5_11 : List Item := adv 4 [] (popK K5_10)
noncomputable def K5_12 : List Item := adv 45 [] K5_11
noncomputable def K5_13 : List Item := adv 1 [] K5_11
noncomputable def K5_14 : List Item := adv 2 [] (popK K5_13)
noncomputable def K5_15 : List Item := adv 1 [] K5_14
noncomputable def K5_16 : List Item := adv 4 [] (popK K5_15)
noncomputable def K5_17 : List Item := adv 35 [] K5_16
noncomputable def K5_18 : List Item := adv 1 [] K5_16
noncomputable def K5_19 : List Item := adv 4 [] (popK K5_18)
noncomputable def K5_20 : List Item := adv 29 [] K5_19
noncomputable def K5_21 : List Item := adv 1 [] K5_19
noncomputable def K5_22 : List Item := adv 4 [] (popK K5_21)
noncomputable def K5_23 : List Item := adv 23 [] K5_22
noncomputable def K5_24 : List Item := adv 1 [] K5_22
noncomputable def K5_25 : List Item := adv 4 [] (popK K5_24)
noncomputable def K5_26 : List Item := adv 17 [] K5_25
noncomputable def K5_27 : List Item := adv 1 [] K5_25
noncomputable def K5_28 : List Item := adv 4 [] (popK K5_27)
noncomputable def K5_29 : List Item := adv 11 [] K5_28
noncomputable def K5_30 : List Item := adv 1 [] K5_28
noncomputable def K5_31 : List Item := adv 2 [] (popK (popK K5_30))
noncomputable def K5_32 : List Item := adv 6 [] K5_31
noncomputable def K5_33 : List Item := adv 1 [] K5_31
noncomputable def K5_34 : List Item := adv 3 [] (popK (popK K5_33))
noncomputable def K5_35 : List Item := adv 7 [] K5_14
noncomputable def K5_36 : List Item := adv 4 [] (popK K5_35)
noncomputable def K5_37 : List Item := adv 29 [] K5_36
noncomputable def K5_38 : List Item := adv 1 [] K5_36
noncomputable def K5_39 : List Item := adv 4 [] (popK K5_38)
noncomputable def K5_40 : List Item := adv 23 [] K5_39
noncomputable def K5_41 : List Item := adv 1 [] K5_39
noncomputable def K5_42 : List Item := adv 4 [] (popK K5_41)
noncomputable def K5_43 : List Item := adv 17 [] K5_42
noncomputable def K5_44 : List Item := adv 1 [] K5_42
noncomputable def K5_45 : List Item := adv 4 [] (popK K5_44)
noncomputable def K5_46 : List Item := adv 11 [] K5_45
noncomputable def K5_47 : List Item := adv 1 [] K5_45
noncomputable def K5_48 : List Item := adv 2 [] (popK (popK K5_47))
noncomputable def K5_49 : List Item := adv 6 [] K5_48
noncomputable def K5_50 : List Item := adv 1 [] K5_48
noncomputable def K5_51 : List Item := adv 3 [] (popK (popK K5_50))
set_option maxRecDepth 20000 in
set_option maxHeartbeats 20000000 in
theorem great_any (p : Prg) (w : World) (hp : prgQ w p) : Ret Tryz.prog 5 #[.agg (prgA p)] w (fun v w' => ∃ b, v = .bool b ∧ Sep w [] w') := by
 have S0 := Sep.refl w
 refine Ret.named fun R hR => ?_
 refine Ret.of_J (N := 69) [(0, .agg (prgA p))] Tryz.func5 rfl rfl (Nat.le_of_ble_eq_true (by kernel_rfl)) (by kernel_rfl) ?_
 obtain ⟨q1, q2, q3, q4, q5, q6, q7, q8, q9, q10, q11, q12, q13, q14, q15, q16, q17, q18, q19, q20, q21, q22, q23, q24, q25, _⟩ := id hp
 have ql1 := q2.len_eq
 have ql2 := q5.len_eq
 have ql3 := q8.len_eq
 have ql4 := q11.len_eq
 have ql5 := q15.len_eq
 have ql6 := q18.len_eq
 have ql7 := q21.len_eq
 have ql8 := q24.len_eq
 refine J.run 2 K5_0 [(0, .agg (prgA p))] w (by kernel_rfl) ?_
 refine J.new S0 1 (prgC p) 28 (by kernel_rfl) ?_
 intro b1 w1 S1
 refine J.run 5 K5_1 [(3, pv b1), (1, pv b1)] w1 (by kernel_rfl) ?_
 refine J.ok (OK.ldBox S1 0 4 22 0 (.slice p.gCode_a p.gCode_n p.gCode_c) (by kernel_rfl) rfl (by kernel_rfl)) ?_
 refine J.run 3 K5_2 [(7, .bool (decide ((p.gCode_n : Int) > 120))), (1, pv b1)] w1 (by kernel_rfl) ?_
 by_cases fk1 : (p.gCode_n : Int) > 120
 ·skip
  refine J.head (.bool true) (congrArg Value.bool (decide_eq_true fk1)) ?_
  refine J.run 63 K5_3 [(2, .bool true)] w1 (by kernel_rfl) ?_
  refine J.ret Tryz.f5 [.bool true] Tryz.func5 ⟨by kernel_rfl, trivial⟩ ?_
  refine hR _ _ ?_
  exact ⟨_, rfl, S1.nil⟩
 ·skip
  refine J.head (.bool false) (congrArg Value.bool (decide_eq_false fk1)) ?_
  refine J.run 1 K5_4 [(8, .pointer (some ⟨b1, 1, none⟩)), (7, .bool false), (1, pv b1)] w1 (by kernel_rfl) ?_
  refine J.ok (OK.ldBox S1 0 9 23 1 (.slice p.gTypes_a p.gTypes_n p.gTypes_c) (by kernel_rfl) rfl (by kernel_rfl)) ?_
  refine J.run 4 K5_5 [(13, .bool (decide ((p.gTypes_n : Int) > 120))), (1, pv b1)] w1 (by kernel_rfl) ?_
  by_cases fk2 : (p.gTypes_n : Int) > 120
  ·skip
   refine J.head (.bool true) (congrArg Value.bool (decide_eq_true fk2)) ?_
   refine J.run 57 K5_6 [(2, .bool true)] w1 (by kernel_rfl) ?_
   refine J.ret Tryz.f5 [.bool true] Tryz.func5 ⟨by kernel_rfl, trivial⟩ ?_
   refine hR _ _ ?_
   exact ⟨_, rfl, S1.nil⟩
  ·skip
   refine J.head (.bool false) (congrArg Value.bool (decide_eq_false fk2)) ?_
   refine J.run 1 K5_7 [(14, .pointer (some ⟨b1, 2, none⟩)), (13, .bool false), (1, pv b1)] w1 (by kernel_rfl) ?_
   refine J.ok (OK.ldBox S1 0 15 24 2 (.slice p.gCurves_a p.gCurves_n p.gCurves_c) (by kernel_rfl) rfl (by kernel_rfl)) ?_
   refine J.run 4 K5_8 [(19, .bool (decide ((p.gCurves_n : Int) > 120))), (1, pv b1)] w1 (by kernel_rfl) ?_
   by_cases fk3 : (p.gCurves_n : Int) > 120
   ·skip
    refine J.head (.bool true) (congrArg Value.bool (decide_eq_true fk3)) ?_
    refine J.run 51 K5_9 [(2, .bool true)] w1 (by kernel_rfl) ?_
    refine J.ret Tryz.f5 [.bool true] Tryz.func5 ⟨by kernel_rfl, trivial⟩ ?_
    refine hR _ _ ?_
    exact ⟨_, rfl, S1.nil⟩
   ·skip
    refine J.head (.bool false) (congrArg Value.bool (decide_eq_false fk3)) ?_
    refine J.run 1 K5_10 [(20, .pointer (some ⟨b1, 3, none⟩)), (19, .bool false), (1, pv b1)] w1 (by kernel_rfl) ?_
    refine J.ok (OK.ldBox S1 0 21 25 3 (.slice p.gMaps_a p.gMaps_n p.gMaps_c) (by kernel_rfl) rfl (by kernel_rfl)) ?_
    refine J.run 4 K5_11 [(25, .bool (decide ((p.gMaps_n : Int) > 10))), (1, pv b1)] w1 (by kernel_rfl) ?_
    by_cases fk4 : (p.gMaps_n : Int) > 10
    ·skip
     refine J.head (.bool true) (congrArg Value.bool (decide_eq_true fk4)) ?_
     refine J.run 45 K5_12 [(2, .bool true)] w1 (by kernel_rfl) ?_
     refine J.ret Tryz.f5 [.bool true] Tryz.func5 ⟨by kernel_rfl, trivial⟩ ?_
     refine hR _ _ ?_
     exact ⟨_, rfl, S1.nil⟩
    ·skip
     refine J.head (.bool false) (congrArg Value.bool (decide_eq_false fk4)) ?_
     refine J.run 1 K5_13 [(26, .pointer (some ⟨b1, 4, none⟩)), (25, .bool false), (1, pv b1)] w1 (by kernel_rfl) ?_
     refine J.ok (OK.ldBox S1 0 27 3 4 (iv p.gCells) (by kernel_rfl) rfl (by kernel_rfl)) ?_
     refine J.run 2 K5_14 [(29, .bool (decide (p.gCells > 120))), (25, .bool false), (1, pv b1)] w1 (by kernel_rfl) ?_
     by_cases fk5 : p.gCells > 120
     ·skip
      refine J.head (.bool true) (congrArg Value.bool (decide_eq_true fk5)) ?_
      refine J.run 1 K5_15 [(30, .pointer (some ⟨b1, 4, none⟩)), (29, .bool true), (25, .bool false), (1, pv b1)] w1 (by kernel_rfl) ?_
      refine J.ok (OK.ldBox S1 0 31 3 4 (iv p.gCells) (by kernel_rfl) rfl (by kernel_rfl)) ?_
      refine J.run 4 K5_16 [(35, .bool (decide (p.gCells ≤ 1000))), (1, pv b1)] w1 (by kernel_rfl) ?_
      by_cases fk6 : p.gCells ≤ 1000
      ·skip
       refine J.head (.bool true) (congrArg Value.bool (decide_eq_true fk6)) ?_
       refine J.run 35 K5_17 [(2, .bool true)] w1 (by kernel_rfl) ?_
       refine J.ret Tryz.f5 [.bool true] Tryz.func5 ⟨by kernel_rfl, trivial⟩ ?_
       refine hR _ _ ?_
       exact ⟨_, rfl, S1.nil⟩
      ·skip
       refine J.head (.bool false) (congrArg Value.bool (decide_eq_false fk6)) ?_
       refine J.run 1 K5_18 [(36, .pointer (some ⟨b1, 5, none⟩)), (35, .bool false), (1, pv b1)] w1 (by kernel_rfl) ?_
       refine J.ok (OK.ldBox S1 0 37 26 5 (.slice p.gInputs_a p.gInputs_n p.gInputs_c) (by kernel_rfl) rfl (by kernel_rfl)) ?_
       refine J.run 4 K5_19 [(41, .bool (decide ((p.gInputs_n : Int) > 120))), (1, pv b1)] w1 (by kernel_rfl) ?_
       by_cases fk7 : (p.gInputs_n : Int) > 120
       ·skip
        refine J.head (.bool true) (congrArg Value.bool (decide_eq_true fk7)) ?_
        refine J.run 29 K5_20 [(2, .bool true)] w1 (by kernel_rfl) ?_
        refine J.ret Tryz.f5 [.bool true] Tryz.func5 ⟨by kernel_rfl, trivial⟩ ?_
        refine hR _ _ ?_
        exact ⟨_, rfl, S1.nil⟩
       ·skip
        refine J.head (.bool false) (congrArg Value.bool (decide_eq_false fk7)) ?_
        refine J.run 1 K5_21 [(42, .pointer (some ⟨b1, 7, none⟩)), (41, .bool false), (1, pv b1)] w1 (by kernel_rfl) ?_
        refine J.ok (OK.ldBox S1 0 43 26 7 (.slice p.gOutputs_a p.gOutputs_n p.gOutputs_c) (by kernel_rfl) rfl (by kernel_rfl)) ?_
        refine J.run 4 K5_22 [(47, .bool (decide ((p.gOutputs_n : Int) > 120))), (1, pv b1)] w1 (by kernel_rfl) ?_
        by_cases fk8 : (p.gOutputs_n : Int) > 120
        ·skip
         refine J.head (.bool true) (congrArg Value.bool (decide_eq_true fk8)) ?_
         refine J.run 23 K5_23 [(2, .bool true)] w1 (by kernel_rfl) ?_
         refine J.ret Tryz.f5 [.bool true] Tryz.func5 ⟨by kernel_rfl, trivial⟩ ?_
         refine hR _ _ ?_
         exact ⟨_, rfl, S1.nil⟩
        ·skip
         refine J.head (.bool false) (congrArg Value.bool (decide_eq_false fk8)) ?_
         refine J.run 1 K5_24 [(48, .pointer (some ⟨b1, 6, none⟩)), (47, .bool false), (1, pv b1)] w1 (by kernel_rfl) ?_
         refine J.ok (OK.ldBox S1 0 49 26 6 (.slice p.gStates_a p.gStates_n p.gStates_c) (by kernel_rfl) rfl (by kernel_rfl)) ?_
         refine J.run 4 K5_25 [(53, .bool (decide ((p.gStates_n : Int) > 120))), (1, pv b1)] w1 (by kernel_rfl) ?_
         by_cases fk9 : (p.gStates_n : Int) > 120
         ·skip
          refine J.head (.bool true) (congrArg Value.bool (decide_eq_true fk9)) ?_
          refine J.run 17 K5_26 [(2, .bool true)] w1 (by kernel_rfl) ?_
          refine J.ret Tryz.f5 [.bool true] Tryz.func5 ⟨by kernel_rfl, trivial⟩ ?_
          refine hR _ _ ?_
          exact ⟨_, rfl, S1.nil⟩
         ·skip
          refine J.head (.bool false) (congrArg Value.bool (decide_eq_false fk9)) ?_
          refine J.run 1 K5_27 [(54, .pointer (some ⟨b1, 8, none⟩)), (53, .bool false), (1, pv b1)] w1 (by kernel_rfl) ?_
          refine J.ok (OK.ldBox S1 0 55 26 8 (.slice p.gInitial_a p.gInitial_n p.gInitial_c) (by kernel_rfl) rfl (by kernel_rfl)) ?_
          refine J.run 4 K5_28 [(59, .bool (decide ((p.gInitial_n : Int) > 120))), (1, pv b1)] w1 (by kernel_rfl) ?_
          by_cases fk10 : (p.gInitial_n : Int) > 120
          ·skip
           refine J.head (.bool true) (congrArg Value.bool (decide_eq_true fk10)) ?_
           refine J.run 11 K5_29 [(2, .bool true)] w1 (by kernel_rfl) ?_
           refine J.ret Tryz.f5 [.bool true] Tryz.func5 ⟨by kernel_rfl, trivial⟩ ?_
           refine hR _ _ ?_
           exact ⟨_, rfl, S1.nil⟩
          ·skip
           refine J.head (.bool false) (congrArg Value.bool (decide_eq_false fk10)) ?_
           refine J.run 1 K5_30 [(60, .pointer (some ⟨b1, 3, none⟩)), (59, .bool false), (1, pv b1)] w1 (by kernel_rfl) ?_
           refine J.ok (OK.ldBox S1 0 61 25 3 (.slice p.gMaps_a p.gMaps_n p.gMaps_c) (by kernel_rfl) rfl (by kernel_rfl)) ?_
           refine J.callF 62 17 #[.slice p.gMaps_a p.gMaps_n p.gMaps_c, .func (.func 18) #[] #[]] hb17 (by kernel_rfl) (containsMP0 p.gMaps_a p.gMaps_n p.gMaps_c p.gMaps_l 18  bigM _ (q11.sep S1) (by first | omega | (simp; omega)) hb18 (fun i_ w_ hi_ S_ => great1_any _ w_)) ?_
           rintro _ w2 ⟨rfl, T1⟩
           have S2 : Sep w [box b1 (prgC p) 28] w2 := S1.trans T1
           clear T1 S1
           refine J.run 2 K5_31 [(64, .bool (List.any p.gMaps_l bigM)), (1, pv b1)] w2 (by kernel_rfl) ?_
           rcases Bool.eq_false_or_eq_true (List.any p.gMaps_l bigM) with fk11 | fk11
           ·skip
            refine J.head (.bool true) (congrArg Value.bool fk11) ?_
            refine J.run 6 K5_32 [(2, .bool true)] w2 (by kernel_rfl) ?_
            refine J.ret Tryz.f5 [.bool true] Tryz.func5 ⟨by kernel_rfl, trivial⟩ ?_
            refine hR _ _ ?_
            exact ⟨_, rfl, S2.nil⟩
           ·skip
            refine J.head (.bool false) (congrArg Value.bool fk11) ?_
            refine J.run 1 K5_33 [(65, .pointer (some ⟨b1, 2, none⟩)), (64, .bool false)] w2 (by kernel_rfl) ?_
            refine J.ok (OK.ldBox S2 0 66 24 2 (.slice p.gCurves_a p.gCurves_n p.gCurves_c) (by kernel_rfl) rfl (by kernel_rfl)) ?_
            refine J.callF 67 19 #[.slice p.gCurves_a p.gCurves_n p.gCurves_c, .func (.func 20) #[] #[]] hb19 (by kernel_rfl) (containsCV0 p.gCurves_a p.gCurves_n p.gCurves_c p.gCurves_l 20  bigC _ (q8.sep S2) (by first | omega | (simp; omega)) hb20 (fun i_ w_ hi_ S_ => great2_any _ w_)) ?_
            rintro _ w3 ⟨rfl, T2⟩
            have S3 : Sep w [box b1 (prgC p) 28] w3 := S2.trans T2
            clear T2 S2
            refine J.run 3 K5_34 [(2, .bool (List.any p.gCurves_l bigC))] w3 (by kernel_rfl) ?_
            refine J.ret Tryz.f5 [.bool (List.any p.gCurves_l bigC)] Tryz.func5 ⟨by kernel_rfl, trivial⟩ ?_
            refine hR _ _ ?_
            exact ⟨_, rfl, S3.nil⟩
     ·skip
      refine J.head (.bool false) (congrArg Value.bool (decide_eq_false fk5)) ?_
      refine J.run 7 K5_35 [(36, .pointer (some ⟨b1, 5, none⟩)), (35, .bool false), (1, pv b1)] w1 (by kernel_rfl) ?_
      refine J.ok (OK.ldBox S1 0 37 26 5 (.slice p.gInputs_a p.gInputs_n p.gInputs_c) (by kernel_rfl) rfl (by kernel_rfl)) ?_
      refine J.run 4 K5_36 [(41, .bool (decide ((p.gInputs_n : Int) > 120))), (1, pv b1)] w1 (by kernel_rfl) ?_
      by_cases fk12 : (p.gInputs_n : Int) > 120
      ·skip
       refine J.head (.bool true) (congrArg Value.bool (decide_eq_true fk12)) ?_
       refine J.run 29 K5_37 [(2, .bool true)] w1 (by kernel_rfl) ?_
       refine J.ret Tryz.f5 [.bool true] Tryz.func5 ⟨by kernel_rfl, trivial⟩ ?_
       refine hR _ _ ?_
       exact ⟨_, rfl, S1.nil⟩
      ·skip
       refine J.head (.bool false) (congrArg Value.bool (decide_eq_false fk12)) ?_
       refine J.run 1 K5_38 [(42, .pointer (some ⟨b1, 7, none⟩)), (41, .bool false), (1, pv b1)] w1 (by kernel_rfl) ?_
       refine J.ok (OK.ldBox S1 0 43 26 7 (.slice p.gOutputs_a p.gOutputs_n p.gOutputs_c) (by kernel_rfl) rfl (by kernel_rfl)) ?_
       refine J.run 4 K5_39 [(47, .bool (decide ((p.gOutputs_n : Int) > 120))), (1, pv b1)] w1 (by kernel_rfl) ?_
       by_cases fk13 : (p.gOutputs_n : Int) > 120
       ·skip
        refine J.head (.bool true) (congrArg Value.bool (decide_eq_true fk13)) ?_
        refine J.run 23 K5_40 [(2, .bool true)] w1 (by kernel_rfl) ?_
        refine J.ret Tryz.f5 [.bool true] Tryz.func5 ⟨by kernel_rfl, trivial⟩ ?_
        refine hR _ _ ?_
        exact ⟨_, rfl, S1.nil⟩
       ·skip
        refine J.head (.bool false) (congrArg Value.bool (decide_eq_false fk13)) ?_
        refine J.run 1 K5_41 [(48, .pointer (some ⟨b1, 6, none⟩)), (47, .bool false), (1, pv b1)] w1 (by kernel_rfl) ?_
        refine J.ok (OK.ldBox S1 0 49 26 6 (.slice p.gStates_a p.gStates_n p.gStates_c) (by kernel_rfl) rfl (by kernel_rfl)) ?_
        refine J.run 4 K5_42 [(53, .bool (decide ((p.gStates_n : Int) > 120))), (1, pv b1)] w1 (by kernel_rfl) ?_
        by_cases fk14 : (p.gStates_n : Int) > 120
        ·skip
         refine J.head (.bool true) (congrArg Value.bool (decide_eq_true fk14)) ?_
         refine J.run 17 K5_43 [(2, .bool true)] w1 (by kernel_rfl) ?_
         refine J.ret Tryz.f5 [.bool true] Tryz.func5 ⟨by kernel_rfl, trivial⟩ ?_
         refine hR _ _ ?_
         exact ⟨_, rfl, S1.nil⟩
        ·skip
         refine J.head (.bool false) (congrArg Value.bool (decide_eq_false fk14)) ?_
         refine J.run 1 K5_44 [(54, .pointer (some ⟨b1, 8, none⟩)), (53, .bool false), (1, pv b1)] w1 (by kernel_rfl) ?_
         refine J.ok (OK.ldBox S1 0 55 26 8 (.slice p.gInitial_a p.gInitial_n p.gInitial_c) (by kernel_rfl) rfl (by kernel_rfl)) ?_
         refine J.run 4 K5_45 [(59, .bool (decide ((p.gInitial_n : Int) > 120))), (1, pv b1)] w1 (by kernel_rfl) ?_
         by_cases fk15 : (p.gInitial_n : Int) > 120
         ·skip
          refine J.head (.bool true) (congrArg Value.bool (decide_eq_true fk15)) ?_
          refine J.run 11 K5_46 [(2, .bool true)] w1 (by kernel_rfl) ?_
          refine J.ret Tryz.f5 [.bool true] Tryz.func5 ⟨by kernel_rfl, trivial⟩ ?_
          refine hR _ _ ?_
          exact ⟨_, rfl, S1.nil⟩
         ·skip
          refine J.head (.bool false) (congrArg Value.bool (decide_eq_false fk15)) ?_
          refine J.run 1 K5_47 [(60, .pointer (some ⟨b1, 3, none⟩)), (59, .bool false), (1, pv b1)] w1 (by kernel_rfl) ?_
          refine J.ok (OK.ldBox S1 0 61 25 3 (.slice p.gMaps_a p.gMaps_n p.gMaps_c) (by kernel_rfl) rfl (by kernel_rfl)) ?_
          refine J.callF 62 17 #[.slice p.gMaps_a p.gMaps_n p.gMaps_c, .func (.func 18) #[] #[]] hb17 (by kernel_rfl) (containsMP0 p.gMaps_a p.gMaps_n p.gMaps_c p.gMaps_l 18  bigM _ (q11.sep S1) (by first | omega | (simp; omega)) hb18 (fun i_ w_ hi_ S_ => great1_any _ w_)) ?_
          rintro _ w4 ⟨rfl, T3⟩
          have S4 : Sep w [box b1 (prgC p) 28] w4 := S1.trans T3
          clear T3 S1
          refine J.run 2 K5_48 [(64, .bool (List.any p.gMaps_l bigM)), (1, pv b1)] w4 (by kernel_rfl) ?_
          rcases Bool.eq_false_or_eq_true (List.any p.gMaps_l bigM) with fk16 | fk16
          ·skip
           refine J.head (.bool true) (congrArg Value.bool fk16) ?_
           refine J.run 6 K5_49 [(2, .bool true)] w4 (by kernel_rfl) ?_
           refine J.ret Tryz.f5 [.bool true] Tryz.func5 ⟨by kernel_rfl, trivial⟩ ?_
           refine hR _ _ ?_
           exact ⟨_, rfl, S4.nil⟩
          ·skip
           refine J.head (.bool false) (congrArg Value.bool fk16) ?_
           refine J.run 1 K5_50 [(65, .pointer (some ⟨b1, 2, none⟩)), (64, .bool false)] w4 (by kernel_rfl) ?_
           refine J.ok (OK.ldBox S4 0 66 24 2 (.slice p.gCurves_a p.gCurves_n p.gCurves_c) (by kernel_rfl) rfl (by kernel_rfl)) ?_
           refine J.callF 67 19 #[.slice p.gCurves_a p.gCurves_n p.gCurves_c, .func (.func 20) #[] #[]] hb19 (by kernel_rfl) (containsCV0 p.gCurves_a p.gCurves_n p.gCurves_c p.gCurves_l 20  bigC _ (q8.sep S4) (by first | omega | (simp; omega)) hb20 (fun i_ w_ hi_ S_ => great2_any _ w_)) ?_
           rintro _ w5 ⟨rfl, T4⟩
           have S5 : Sep w [box b1 (prgC p) 28] w5 := S4.trans T4
           clear T4 S4
           refine J.run 3 K5_51 [(2, .bool (List.any p.gCurves_l bigC))] w5 (by kernel_rfl) ?_
           refine J.ret Tryz.f5 [.bool (List.any p.gCurves_l bigC)] Tryz.func5 ⟨by kernel_rfl, trivial⟩ ?_
           refine hR _ _ ?_
           exact ⟨_, rfl, S5.nil⟩

end Go.Proofs.YthfpejhonhaggaaGreatDoor

