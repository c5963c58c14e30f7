/- Walks of functions of this seat, printed by a program over the engine. Conditions: as each theorem says. -/
import Derived.Test.YthfpejhonhaggaaGreatDoorZV4
namespace Go.Proofs.YthfpejhonhaggaaGreatDoor
open Go.Eng Go.RowKit
set_option linter.unusedSimpArgs false
set_option linter.unusedVariables false
theorem hb85 : HasBody Tryz.prog 85 := fun _ _ => by kernel_rfl
noncomputable def K85_0 : List Item := adv 9 [] (bodyOf Tryz.f85)
noncomputable def K85_1 : List Item := adv 5 [] K85_0
noncomputable def K85_2 : List Item := adv 5 [] K85_0
set_option maxRecDepth 20000 in
set_option maxHeartbeats 20000000 in
theorem in9_any (n : Int) (w : World) : Ret Tryz.prog 85 #[iv n] w (fun v w' => v = .bool (decide (-9 ≤ n ∧ n ≤ 9)) ∧ Sep w [] w') := by
 have S0 := Sep.refl w
 refine Ret.named fun R hR => ?_
 refine Ret.of_J (N := 9) [(0, iv n)] Tryz.func85 rfl rfl (Nat.le_of_ble_eq_true (by kernel_rfl)) (by kernel_rfl) ?_
 refine J.run 9 K85_0 [(5, .bool (decide (n ≥ (-9)))), (0, iv n)] w (by kernel_rfl) ?_
 by_cases fk1 : n ≥ (-9)
 ·skip
  refine J.head (.bool true) (congrArg Value.bool (decide_eq_true fk1)) ?_
  refine J.run 5 K85_1 [(2, .bool (decide (n ≤ 9)))] w (by kernel_rfl) ?_
  refine J.ret Tryz.f85 [.bool (decide (n ≤ 9))] Tryz.func85 ⟨by kernel_rfl, trivial⟩ ?_
  refine hR _ _ ?_
  exact ⟨congrArg Value.bool (by show (decide (n ≤ 9)) = decide (-9 ≤ n ∧ n ≤ 9); by_cases hz_ : n ≤ 9; (rw [(decide_eq_true hz_)]; first | exact (decide_eq_true (by omega)).symm | exact (decide_eq_false (by omega)).symm); (rw [(decide_eq_false hz_)]; first | exact (decide_eq_false (by omega)).symm | exact (decide_eq_true (by omega)).symm)), S0.nil⟩
 ·skip
  refine J.head (.bool false) (congrArg Value.bool (decide_eq_false fk1)) ?_
  refine J.run 5 K85_2 [(2, .bool false)] w (by kernel_rfl) ?_
  refine J.ret Tryz.f85 [.bool false] Tryz.func85 ⟨by kernel_rfl, trivial⟩ ?_
  refine hR _ _ ?_
  exact ⟨congrArg Value.bool (decide_eq_false (show ¬ (-9 ≤ n ∧ n ≤ 9) by omega)).symm, S0.nil⟩

theorem hb54 : HasBody Tryz.prog 54 := fun _ _ => by kernel_rfl
noncomputable def K54_0 : List Item := adv 2 [] (bodyOf Tryz.f54)
noncomputable def K54_1 : List Item := adv 5 [] (popK K54_0)
noncomputable def K54_2 : List Item := adv 1 [] (popK (popK K54_1))
noncomputable def K54_3 : List Item := adv 1 [] K54_2
noncomputable def K54_4 : List Item := adv 2 [] (popK (popK K54_3))
noncomputable def K54_5 : List Item := adv 1 [] K54_4
noncomputable def K54_6 : List Item := adv 2 [] (popK (popK K54_5))
noncomputable def K54_7 : List Item := adv 1 [] K54_6
noncomputable def K54_8 : List Item := adv 2 [] (popK (popK K54_7))
noncomputable def K54_9 : List Item := adv 1 [] K54_8
noncomputable def K54_10 : List Item := adv 3 [] (popK (popK K54_9))
noncomputable def K54_11 : List Item := adv 6 [] K54_8
noncomputable def K54_12 : List Item := adv 11 [] K54_6
noncomputable def K54_13 : List Item := adv 16 [] K54_4
noncomputable def K54_14 : List Item := adv 21 [] K54_2
set_option maxRecDepth 20000 in
set_option maxHeartbeats 20000000 in
theorem r3unit_any (u : Unt) (w : World) : Ret Tryz.prog 54 #[.agg (untA u)] w (fun v w' => v = .bool (unB u) ∧ Sep w [] w') := by
 have S0 := Sep.refl w
 refine Ret.named fun R hR => ?_
 refine Ret.of_J (N := 26) [(0, .agg (untA u))] Tryz.func54 rfl rfl (Nat.le_of_ble_eq_true (by kernel_rfl)) (by kernel_rfl) ?_
 refine J.run 2 K54_0 [(0, .agg (untA u))] w (by kernel_rfl) ?_
 refine J.new S0 1 (untC u) 60 (by kernel_rfl) ?_
 intro b1 w1 S1
 refine J.run 5 K54_1 [(3, pv b1), (1, pv b1)] w1 (by kernel_rfl) ?_
 refine J.ok (OK.ldBox S1 0 4 3 0 (iv u.gM) (by kernel_rfl) rfl (by kernel_rfl)) ?_
 refine J.callF 5 85 #[iv u.gM] hb85 (by kernel_rfl) (in9_any u.gM _) ?_
 rintro _ w2 ⟨rfl, T1⟩
 have S2 : Sep w [box b1 (untC u) 60] w2 := S1.trans T1
 clear T1 S1
 refine J.run 1 K54_2 [(6, .bool (decide (-9 ≤ u.gM ∧ u.gM ≤ 9))), (1, pv b1)] w2 (by kernel_rfl) ?_
 rcases Bool.eq_false_or_eq_true (decide (-9 ≤ u.gM ∧ u.gM ≤ 9)) with fk1 | fk1
 ·skip
  refine J.head (.bool true) (congrArg Value.bool fk1) ?_
  have fb1 := of_decide_eq_true fk1
  refine J.run 1 K54_3 [(7, .pointer (some ⟨b1, 1, none⟩)), (6, .bool true), (1, pv b1)] w2 (by kernel_rfl) ?_
  refine J.ok (OK.ldBox S2 0 8 3 1 (iv u.gKg) (by kernel_rfl) rfl (by kernel_rfl)) ?_
  refine J.callF 9 85 #[iv u.gKg] hb85 (by kernel_rfl) (in9_any u.gKg _) ?_
  rintro _ w3 ⟨rfl, T2⟩
  have S3 : Sep w [box b1 (untC u) 60] w3 := S2.trans T2
  clear T2 S2
  refine J.run 2 K54_4 [(11, .bool (decide (-9 ≤ u.gKg ∧ u.gKg ≤ 9))), (1, pv b1)] w3 (by kernel_rfl) ?_
  rcases Bool.eq_false_or_eq_true (decide (-9 ≤ u.gKg ∧ u.gKg ≤ 9)) with fk2 | fk2
  ·skip
   refine J.head (.bool true) (congrArg Value.bool fk2) ?_
   have fb2 := of_decide_eq_true fk2
   refine J.run 1 K54_5 [(12, .pointer (some ⟨b1, 2, none⟩)), (11, .bool true), (1, pv b1)] w3 (by kernel_rfl) ?_
   refine J.ok (OK.ldBox S3 0 13 3 2 (iv u.gS) (by kernel_rfl) rfl (by kernel_rfl)) ?_
   refine J.callF 14 85 #[iv u.gS] hb85 (by kernel_rfl) (in9_any u.gS _) ?_
   rintro _ w4 ⟨rfl, T3⟩
   have S4 : Sep w [box b1 (untC u) 60] w4 := S3.trans T3
   clear T3 S3
   refine J.run 2 K54_6 [(16, .bool (decide (-9 ≤ u.gS ∧ u.gS ≤ 9))), (1, pv b1)] w4 (by kernel_rfl) ?_
   rcases Bool.eq_false_or_eq_true (decide (-9 ≤ u.gS ∧ u.gS ≤ 9)) with fk3 | fk3
   ·skip
    refine J.head (.bool true) (congrArg Value.bool fk3) ?_
    have fb3 := of_decide_eq_true fk3
    refine J.run 1 K54_7 [(17, .pointer (some ⟨b1, 3, none⟩)), (16, .bool true), (1, pv b1)] w4 (by kernel_rfl) ?_
    refine J.ok (OK.ldBox S4 0 18 3 3 (iv u.gA) (by kernel_rfl) rfl (by kernel_rfl)) ?_
    refine J.callF 19 85 #[iv u.gA] hb85 (by kernel_rfl) (in9_any u.gA _) ?_
    rintro _ w5 ⟨rfl, T4⟩
    have S5 : Sep w [box b1 (untC u) 60] w5 := S4.trans T4
    clear T4 S4
    refine J.run 2 K54_8 [(21, .bool (decide (-9 ≤ u.gA ∧ u.gA ≤ 9))), (1, pv b1)] w5 (by kernel_rfl) ?_
    rcases Bool.eq_false_or_eq_true (decide (-9 ≤ u.gA ∧ u.gA ≤ 9)) with fk4 | fk4
    ·skip
     refine J.head (.bool true) (congrArg Value.bool fk4) ?_
     have fb4 := of_decide_eq_true fk4
     refine J.run 1 K54_9 [(22, .pointer (some ⟨b1, 4, none⟩)), (21, .bool true)] w5 (by kernel_rfl) ?_
     refine J.ok (OK.ldBox S5 0 23 3 4 (iv u.gK) (by kernel_rfl) rfl (by kernel_rfl)) ?_
     refine J.callF 24 85 #[iv u.gK] hb85 (by kernel_rfl) (in9_any u.gK _) ?_
     rintro _ w6 ⟨rfl, T5⟩
     have S6 : Sep w [box b1 (untC u) 60] w6 := S5.trans T5
     clear T5 S5
     refine J.run 3 K54_10 [(2, .bool (decide (-9 ≤ u.gK ∧ u.gK ≤ 9)))] w6 (by kernel_rfl) ?_
     refine J.ret Tryz.f54 [.bool (decide (-9 ≤ u.gK ∧ u.gK ≤ 9))] Tryz.func54 ⟨by kernel_rfl, trivial⟩ ?_
     refine hR _ _ ?_
     exact ⟨congrArg Value.bool (by show _ = decide (unP u.gM u.gKg u.gS u.gA u.gK); cases hz_ : decide (-9 ≤ u.gK ∧ u.gK ≤ 9) with | true => (have h_ := of_decide_eq_true hz_; exact (decide_eq_true (by omega)).symm) | false => (have h_ := of_decide_eq_false hz_; exact (decide_eq_false (by omega)).symm)), S6.nil⟩
    ·skip
     refine J.head (.bool false) (congrArg Value.bool fk4) ?_
     have fb5 := of_decide_eq_false fk4
     refine J.run 6 K54_11 [(2, .bool false)] w5 (by kernel_rfl) ?_
     refine J.ret Tryz.f54 [.bool false] Tryz.func54 ⟨by kernel_rfl, trivial⟩ ?_
     refine hR _ _ ?_
     exact ⟨congrArg Value.bool (decide_eq_false (show ¬ (unP u.gM u.gKg u.gS u.gA u.gK) by omega)).symm, S5.nil⟩
   ·skip
    refine J.head (.bool false) (congrArg Value.bool fk3) ?_
    have fb6 := of_decide_eq_false fk3
    refine J.run 11 K54_12 [(2, .bool false)] w4 (by kernel_rfl) ?_
    refine J.ret Tryz.f54 [.bool false] Tryz.func54 ⟨by kernel_rfl, trivial⟩ ?_
    refine hR _ _ ?_
    exact ⟨congrArg Value.bool (decide_eq_false (show ¬ (unP u.gM u.gKg u.gS u.gA u.gK) by omega)).symm, S4.nil⟩
  ·skip
   refine J.head (.bool false) (congrArg Value.bool fk2) ?_
   have fb7 := of_decide_eq_false fk2
   refine J.run 16 K54_13 [(2, .bool false)] w3 (by kernel_rfl) ?_
   refine J.ret Tryz.f54 [.bool false] Tryz.func54 ⟨by kernel_rfl, trivial⟩ ?_
   refine hR _ _ ?_
   exact ⟨congrArg Value.bool (decide_eq_false (show ¬ (unP u.gM u.gKg u.gS u.gA u.gK) by omega)).symm, S3.nil⟩
 ·skip
  refine J.head (.bool false) (congrArg Value.bool fk1) ?_
  have fb8 := of_decide_eq_false fk1
  refine J.run 21 K54_14 [(2, .bool false)] w2 (by kernel_rfl) ?_
  refine J.ret Tryz.f54 [.bool false] Tryz.func54 ⟨by kernel_rfl, trivial⟩ ?_
  refine hR _ _ ?_
  exact ⟨congrArg Value.bool (decide_eq_false (show ¬ (unP u.gM u.gKg u.gS u.gA u.gK) by omega)).symm, S2.nil⟩

theorem hb30 : HasBody Tryz.prog 30 := fun _ _ => by kernel_rfl
noncomputable def K30_0 : List Item := adv 2 [] (bodyOf Tryz.f30)
noncomputable def K30_1 : List Item := adv 5 [] (popK K30_0)
noncomputable def K30_2 : List Item := adv 2 [] (popK K30_1)
noncomputable def K30_3 : List Item := adv 11 [] K30_2
noncomputable def K30_4 : List Item := adv 3 [] (popK K30_3)
noncomputable def K30_5 : List Item := adv 1 [] K30_4
noncomputable def K30_6 : List Item := adv 3 [] (popK K30_5)
noncomputable def K30_7 : List Item := adv 1 [] K30_6
noncomputable def K30_8 : List Item := adv 3 [] (popK K30_7)
noncomputable def K30_9 : List Item := adv 1 [] K30_8
noncomputable def K30_10 : List Item := adv 3 [] (popK K30_9)
noncomputable def K30_11 : List Item := adv 1 [] K30_10
noncomputable def K30_12 : List Item := adv 3 [] (popK K30_11)
noncomputable def K30_13 : List Item := adv 1 [] K30_12
noncomputable def K30_14 : List Item := adv 3 [] (popK K30_13)
noncomputable def K30_15 : List Item := adv 1 [] K30_14
noncomputable def K30_16 : List Item := adv 3 [] (popK (popK K30_15))
noncomputable def K30_17 : List Item := adv 6 [] K30_14
noncomputable def K30_18 : List Item := adv 11 [] K30_12
noncomputable def K30_19 : List Item := adv 16 [] K30_10
noncomputable def K30_20 : List Item := adv 21 [] K30_8
noncomputable def K30_21 : List Item := adv 26 [] K30_6
noncomputable def K30_22 : List Item := adv 31 [] K30_4
noncomputable def K30_23 : List Item := adv 1 [] K30_2
noncomputable def K30_24 : List Item := adv 3 [] (popK K30_23)
noncomputable def K30_25 : List Item := adv 6 [] K30_24
noncomputable def K30_26 : List Item := adv 3 [] (popK K30_25)
noncomputable def K30_27 : List Item := adv 1 [] K30_26
noncomputable def K30_28 : List Item := adv 3 [] (popK K30_27)
noncomputable def K30_29 : List Item := adv 1 [] K30_28
noncomputable def K30_30 : List Item := adv 3 [] (popK K30_29)
noncomputable def K30_31 : List Item := adv 1 [] K30_30
noncomputable def K30_32 : List Item := adv 3 [] (popK K30_31)
noncomputable def K30_33 : List Item := adv 1 [] K30_32
noncomputable def K30_34 : List Item := adv 3 [] (popK K30_33)
noncomputable def K30_35 : List Item := adv 1 [] K30_34
noncomputable def K30_36 : List Item := adv 3 [] (popK K30_35)
noncomputable def K30_37 : List Item := adv 1 [] K30_36
noncomputable def K30_38 : List Item := adv 3 [] (popK (popK K30_37))
noncomputable def K30_39 : List Item := adv 6 [] K30_36
noncomputable def K30_40 : List Item := adv 11 [] K30_34
noncomputable def K30_41 : List Item := adv 16 [] K30_32
noncomputable def K30_42 : List Item := adv 21 [] K30_30
noncomputable def K30_43 : List Item := adv 26 [] K30_28
noncomputable def K30_44 : List Item := adv 31 [] K30_26
noncomputable def K30_45 : List Item := adv 1 [] K30_24
noncomputable def K30_46 : List Item := adv 3 [] (popK K30_45)
noncomputable def K30_47 : List Item := adv 1 [] K30_46
noncomputable def K30_48 : List Item := adv 3 [] (popK K30_47)
noncomputable def K30_49 : List Item := adv 1 [] K30_48
noncomputable def K30_50 : List Item := adv 3 [] (popK K30_49)
noncomputable def K30_51 : List Item := adv 1 [] K30_50
noncomputable def K30_52 : List Item := adv 3 [] (popK K30_51)
noncomputable def K30_53 : List Item := adv 1 [] K30_52
noncomputable def K30_54 : List Item := adv 3 [] (popK K30_53)
noncomputable def K30_55 : List Item := adv 1 [] K30_54
noncomputable def K30_56 : List Item := adv 3 [] (popK K30_55)
noncomputable def K30_57 : List Item := adv 1 [] K30_56
noncomputable def K30_58 : List Item := adv 3 [] (popK K30_57)
noncomputable def K30_59 : List Item := adv 1 [] K30_58
noncomputable def K30_60 : List Item := adv 3 [] (popK (popK K30_59))
noncomputable def K30_61 : List Item := adv 6 [] K30_58
noncomputable def K30_62 : List Item := adv 11 [] K30_56
noncomputable def K30_63 : List Item := adv 16 [] K30_54
noncomputable def K30_64 : List Item := adv 21 [] K30_52
noncomputable def K30_65 : List Item := adv 26 [] K30_50
noncomputable def K30_66 : List Item := adv 31 [] K30_48
noncomputable def K30_67 : List Item := adv 36 [] K30_46
set_option maxRecDepth 20000 in
set_option maxHeartbeats 20000000 in
theorem fxvalid_any (t : Fxd) (w : World) (ht : fxdQ w t) : Ret Tryz.prog 30 #[.agg (fxdA t)] w (fun v w' => v = .bool (fixB t) ∧ Sep w [] w') := by
 have S0 := Sep.refl w
 refine Ret.named fun R hR => ?_
 refine Ret.of_J (N := 51) [(0, .agg (fxdA t))] Tryz.func30 rfl rfl (Nat.le_of_ble_eq_true (by kernel_rfl)) (by kernel_rfl) ?_
 obtain ⟨q1, q2, q3, q4, q5, q6, q7, q8, q9, _⟩ := id ht
 refine J.run 2 K30_0 [(0, .agg (fxdA t))] w (by kernel_rfl) ?_
 refine J.new S0 1 (fxdC t) 62 (by kernel_rfl) ?_
 intro b1 w1 S1
 refine J.run 5 K30_1 [(3, pv b1), (1, pv b1)] w1 (by kernel_rfl) ?_
 refine J.ok (OK.ldBox S1 0 4 3 0 (iv t.gBits) (by kernel_rfl) rfl (by kernel_rfl)) ?_
 refine J.run 2 K30_2 [(6, .bool (t.gBits == 8)), (1, pv b1)] w1 (by kernel_rfl) ?_
 by_cases fk1 : t.gBits = 8
 ·skip
  refine J.head (.bool true) (congrArg Value.bool (beq_iff_eq.2 fk1)) ?_
  refine J.run 11 K30_3 [(17, .pointer (some ⟨b1, 2, none⟩)), (16, .bool true), (1, pv b1)] w1 (by kernel_rfl) ?_
  refine J.ok (OK.ldBox S1 0 18 3 2 (iv t.gNum) (by kernel_rfl) rfl (by kernel_rfl)) ?_
  refine J.run 3 K30_4 [(21, .bool (decide (t.gNum ≥ 1))), (1, pv b1)] w1 (by kernel_rfl) ?_
  by_cases fk2 : t.gNum ≥ 1
  ·skip
   refine J.head (.bool true) (congrArg Value.bool (decide_eq_true fk2)) ?_
   refine J.run 1 K30_5 [(22, .pointer (some ⟨b1, 2, none⟩)), (21, .bool true), (1, pv b1)] w1 (by kernel_rfl) ?_
   refine J.ok (OK.ldBox S1 0 23 3 2 (iv t.gNum) (by kernel_rfl) rfl (by kernel_rfl)) ?_
   refine J.run 3 K30_6 [(26, .bool (decide (t.gNum ≤ 1048576))), (1, pv b1)] w1 (by kernel_rfl) ?_
   by_cases fk3 : t.gNum ≤ 1048576
   ·skip
    refine J.head (.bool true) (congrArg Value.bool (decide_eq_true fk3)) ?_
    refine J.run 1 K30_7 [(27, .pointer (some ⟨b1, 4, none⟩)), (26, .bool true), (1, pv b1)] w1 (by kernel_rfl) ?_
    refine J.ok (OK.ldBox S1 0 28 3 4 (iv t.gDen) (by kernel_rfl) rfl (by kernel_rfl)) ?_
    refine J.run 3 K30_8 [(31, .bool (decide (t.gDen ≥ 1))), (1, pv b1)] w1 (by kernel_rfl) ?_
    by_cases fk4 : t.gDen ≥ 1
    ·skip
     refine J.head (.bool true) (congrArg Value.bool (decide_eq_true fk4)) ?_
     refine J.run 1 K30_9 [(32, .pointer (some ⟨b1, 4, none⟩)), (31, .bool true), (1, pv b1)] w1 (by kernel_rfl) ?_
     refine J.ok (OK.ldBox S1 0 33 3 4 (iv t.gDen) (by kernel_rfl) rfl (by kernel_rfl)) ?_
     refine J.run 3 K30_10 [(36, .bool (decide (t.gDen ≤ 1048576))), (1, pv b1)] w1 (by kernel_rfl) ?_
     by_cases fk5 : t.gDen ≤ 1048576
     ·skip
      refine J.head (.bool true) (congrArg Value.bool (decide_eq_true fk5)) ?_
      refine J.run 1 K30_11 [(37, .pointer (some ⟨b1, 3, none⟩)), (36, .bool true), (1, pv b1)] w1 (by kernel_rfl) ?_
      refine J.ok (OK.ldBox S1 0 38 3 3 (iv t.gOff) (by kernel_rfl) rfl (by kernel_rfl)) ?_
      refine J.run 3 K30_12 [(41, .bool (decide (t.gOff ≥ (-1073741824)))), (1, pv b1)] w1 (by kernel_rfl) ?_
      by_cases fk6 : t.gOff ≥ (-1073741824)
      ·skip
       refine J.head (.bool true) (congrArg Value.bool (decide_eq_true fk6)) ?_
       refine J.run 1 K30_13 [(42, .pointer (some ⟨b1, 3, none⟩)), (41, .bool true), (1, pv b1)] w1 (by kernel_rfl) ?_
       refine J.ok (OK.ldBox S1 0 43 3 3 (iv t.gOff) (by kernel_rfl) rfl (by kernel_rfl)) ?_
       refine J.run 3 K30_14 [(46, .bool (decide (t.gOff ≤ 1073741824))), (1, pv b1)] w1 (by kernel_rfl) ?_
       by_cases fk7 : t.gOff ≤ 1073741824
       ·skip
        refine J.head (.bool true) (congrArg Value.bool (decide_eq_true fk7)) ?_
        refine J.run 1 K30_15 [(47, .pointer (some ⟨b1, 5, none⟩)), (46, .bool true)] w1 (by kernel_rfl) ?_
        refine J.ok (OK.ldBox S1 0 48 60 5 (.agg #[iv t.gUnit_M, iv t.gUnit_Kg, iv t.gUnit_S, iv t.gUnit_A, iv t.gUnit_K]) (by kernel_rfl) rfl (by kernel_rfl)) ?_
        refine J.callF 49 64 #[.agg #[iv t.gUnit_M, iv t.gUnit_Kg, iv t.gUnit_S, iv t.gUnit_A, iv t.gUnit_K]] hb64 (by kernel_rfl) (uvalid_any (⟨t.gUnit_M, t.gUnit_Kg, t.gUnit_S, t.gUnit_A, t.gUnit_K⟩ : Unt) _) ?_
        rintro _ w2 ⟨rfl, T1⟩
        have S2 : Sep w [box b1 (fxdC t) 62] w2 := S1.trans T1
        clear T1 S1
        refine J.run 3 K30_16 [(2, .bool (unB (⟨t.gUnit_M, t.gUnit_Kg, t.gUnit_S, t.gUnit_A, t.gUnit_K⟩ : Unt)))] w2 (by kernel_rfl) ?_
        refine J.ret Tryz.f30 [.bool (unB (⟨t.gUnit_M, t.gUnit_Kg, t.gUnit_S, t.gUnit_A, t.gUnit_K⟩ : Unt))] Tryz.func30 ⟨by kernel_rfl, trivial⟩ ?_
        refine hR _ _ ?_
        exact ⟨congrArg Value.bool (by show _ = decide (fixP t.gBits t.gNum t.gOff t.gDen t.gUnit_M t.gUnit_Kg t.gUnit_S t.gUnit_A t.gUnit_K); cases hz_ : unB (⟨t.gUnit_M, t.gUnit_Kg, t.gUnit_S, t.gUnit_A, t.gUnit_K⟩ : Unt) with | true => (have h_ := unB_iff.1 hz_; try dsimp only at h_; exact (decide_eq_true (by omega)).symm) | false => (have h_ := mt unB_iff.2 (by rw [hz_]; decide); try dsimp only at h_; exact (decide_eq_false (by omega)).symm)), S2.nil⟩
       ·skip
        refine J.head (.bool false) (congrArg Value.bool (decide_eq_false fk7)) ?_
        refine J.run 6 K30_17 [(2, .bool false)] w1 (by kernel_rfl) ?_
        refine J.ret Tryz.f30 [.bool false] Tryz.func30 ⟨by kernel_rfl, trivial⟩ ?_
        refine hR _ _ ?_
        exact ⟨congrArg Value.bool (decide_eq_false (show ¬ (fixP t.gBits t.gNum t.gOff t.gDen t.gUnit_M t.gUnit_Kg t.gUnit_S t.gUnit_A t.gUnit_K) by omega)).symm, S1.nil⟩
      ·skip
       refine J.head (.bool false) (congrArg Value.bool (decide_eq_false fk6)) ?_
       refine J.run 11 K30_18 [(2, .bool false)] w1 (by kernel_rfl) ?_
       refine J.ret Tryz.f30 [.bool false] Tryz.func30 ⟨by kernel_rfl, trivial⟩ ?_
       refine hR _ _ ?_
       exact ⟨congrArg Value.bool (decide_eq_false (show ¬ (fixP t.gBits t.gNum t.gOff t.gDen t.gUnit_M t.gUnit_Kg t.gUnit_S t.gUnit_A t.gUnit_K) by omega)).symm, S1.nil⟩
     ·skip
      refine J.head (.bool false) (congrArg Value.bool (decide_eq_false fk5)) ?_
      refine J.run 16 K30_19 [(2, .bool false)] w1 (by kernel_rfl) ?_
      refine J.ret Tryz.f30 [.bool false] Tryz.func30 ⟨by kernel_rfl, trivial⟩ ?_
      refine hR _ _ ?_
      exact ⟨congrArg Value.bool (decide_eq_false (show ¬ (fixP t.gBits t.gNum t.gOff t.gDen t.gUnit_M t.gUnit_Kg t.gUnit_S t.gUnit_A t.gUnit_K) by omega)).symm, S1.nil⟩
    ·skip
     refine J.head (.bool false) (congrArg Value.bool (decide_eq_false fk4)) ?_
     refine J.run 21 K30_20 [(2, .bool false)] w1 (by kernel_rfl) ?_
     refine J.ret Tryz.f30 [.bool false] Tryz.func30 ⟨by kernel_rfl, trivial⟩ ?_
     refine hR _ _ ?_
     exact ⟨congrArg Value.bool (decide_eq_false (show ¬ (fixP t.gBits t.gNum t.gOff t.gDen t.gUnit_M t.gUnit_Kg t.gUnit_S t.gUnit_A t.gUnit_K) by omega)).symm, S1.nil⟩
   ·skip
    refine J.head (.bool false) (congrArg Value.bool (decide_eq_false fk3)) ?_
    refine J.run 26 K30_21 [(2, .bool false)] w1 (by kernel_rfl) ?_
    refine J.ret Tryz.f30 [.bool false] Tryz.func30 ⟨by kernel_rfl, trivial⟩ ?_
    refine hR _ _ ?_
    exact ⟨congrArg Value.bool (decide_eq_false (show ¬ (fixP t.gBits t.gNum t.gOff t.gDen t.gUnit_M t.gUnit_Kg t.gUnit_S t.gUnit_A t.gUnit_K) by omega)).symm, S1.nil⟩
  ·skip
   refine J.head (.bool false) (congrArg Value.bool (decide_eq_false fk2)) ?_
   refine J.run 31 K30_22 [(2, .bool false)] w1 (by kernel_rfl) ?_
   refine J.ret Tryz.f30 [.bool false] Tryz.func30 ⟨by kernel_rfl, trivial⟩ ?_
   refine hR _ _ ?_
   exact ⟨congrArg Value.bool (decide_eq_false (show ¬ (fixP t.gBits t.gNum t.gOff t.gDen t.gUnit_M t.gUnit_Kg t.gUnit_S t.gUnit_A t.gUnit_K) by omega)).symm, S1.nil⟩
 ·skip
  refine J.head (.bool false) (congrArg Value.bool (beq_eq_false_iff_ne.2 fk1)) ?_
  refine J.run 1 K30_23 [(7, pv b1), (6, .bool false), (1, pv b1)] w1 (by kernel_rfl) ?_
  refine J.ok (OK.ldBox S1 0 8 3 0 (iv t.gBits) (by kernel_rfl) rfl (by kernel_rfl)) ?_
  refine J.run 3 K30_24 [(11, .bool (t.gBits == 16)), (1, pv b1)] w1 (by kernel_rfl) ?_
  by_cases fk8 : t.gBits = 16
  ·skip
   refine J.head (.bool true) (congrArg Value.bool (beq_iff_eq.2 fk8)) ?_
   refine J.run 6 K30_25 [(17, .pointer (some ⟨b1, 2, none⟩)), (16, .bool true), (1, pv b1)] w1 (by kernel_rfl) ?_
   refine J.ok (OK.ldBox S1 0 18 3 2 (iv t.gNum) (by kernel_rfl) rfl (by kernel_rfl)) ?_
   refine J.run 3 K30_26 [(21, .bool (decide (t.gNum ≥ 1))), (1, pv b1)] w1 (by kernel_rfl) ?_
   by_cases fk9 : t.gNum ≥ 1
   ·skip
    refine J.head (.bool true) (congrArg Value.bool (decide_eq_true fk9)) ?_
    refine J.run 1 K30_27 [(22, .pointer (some ⟨b1, 2, none⟩)), (21, .bool true), (1, pv b1)] w1 (by kernel_rfl) ?_
    refine J.ok (OK.ldBox S1 0 23 3 2 (iv t.gNum) (by kernel_rfl) rfl (by kernel_rfl)) ?_
    refine J.run 3 K30_28 [(26, .bool (decide (t.gNum ≤ 1048576))), (1, pv b1)] w1 (by kernel_rfl) ?_
    by_cases fk10 : t.gNum ≤ 1048576
    ·skip
     refine J.head (.bool true) (congrArg Value.bool (decide_eq_true fk10)) ?_
     refine J.run 1 K30_29 [(27, .pointer (some ⟨b1, 4, none⟩)), (26, .bool true), (1, pv b1)] w1 (by kernel_rfl) ?_
     refine J.ok (OK.ldBox S1 0 28 3 4 (iv t.gDen) (by kernel_rfl) rfl (by kernel_rfl)) ?_
     refine J.run 3 K30_30 [(31, .bool (decide (t.gDen ≥ 1))), (1, pv b1)] w1 (by kernel_rfl) ?_
     by_cases fk11 : t.gDen ≥ 1
     ·skip
      refine J.head (.bool true) (congrArg Value.bool (decide_eq_true fk11)) ?_
      refine J.run 1 K30_31 [(32, .pointer (some ⟨b1, 4, none⟩)), (31, .bool true), (1, pv b1)] w1 (by kernel_rfl) ?_
      refine J.ok (OK.ldBox S1 0 33 3 4 (iv t.gDen) (by kernel_rfl) rfl (by kernel_rfl)) ?_
      refine J.run 3 K30_32 [(36, .bool (decide (t.gDen ≤ 1048576))), (1, pv b1)] w1 (by kernel_rfl) ?_
      by_cases fk12 : t.gDen ≤ 1048576
      ·skip
       refine J.head (.bool true) (congrArg Value.bool (decide_eq_true fk12)) ?_
       refine J.run 1 K30_33 [(37, .pointer (some ⟨b1, 3, none⟩)), (36, .bool true), (1, pv b1)] w1 (by kernel_rfl) ?_
       refine J.ok (OK.ldBox S1 0 38 3 3 (iv t.gOff) (by kernel_rfl) rfl (by kernel_rfl)) ?_
       refine J.run 3 K30_34 [(41, .bool (decide (t.gOff ≥ (-1073741824)))), (1, pv b1)] w1 (by kernel_rfl) ?_
       by_cases fk13 : t.gOff ≥ (-1073741824)
       ·skip
        refine J.head (.bool true) (congrArg Value.bool (decide_eq_true fk13)) ?_
        refine J.run 1 K30_35 [(42, .pointer (some ⟨b1, 3, none⟩)), (41, .bool true), (1, pv b1)] w1 (by kernel_rfl) ?_
        refine J.ok (OK.ldBox S1 0 43 3 3 (iv t.gOff) (by kernel_rfl) rfl (by kernel_rfl)) ?_
        refine J.run 3 K30_36 [(46, .bool (decide (t.gOff ≤ 1073741824))), (1, pv b1)] w1 (by kernel_rfl) ?_
        by_cases fk14 : t.gOff ≤ 1073741824
        ·skip
         refine J.head (.bool true) (congrArg Value.bool (decide_eq_true fk14)) ?_
         refine J.run 1 K30_37 [(47, .pointer (some ⟨b1, 5, none⟩)), (46, .bool true)] w1 (by kernel_rfl) ?_
         refine J.ok (OK.ldBox S1 0 48 60 5 (.agg #[iv t.gUnit_M, iv t.gUnit_Kg, iv t.gUnit_S, iv t.gUnit_A, iv t.gUnit_K]) (by kernel_rfl) rfl (by kernel_rfl)) ?_
         refine J.callF 49 64 #[.agg #[iv t.gUnit_M, iv t.gUnit_Kg, iv t.gUnit_S, iv t.gUnit_A, iv t.gUnit_K]] hb64 (by kernel_rfl) (uvalid_any (⟨t.gUnit_M, t.gUnit_Kg, t.gUnit_S, t.gUnit_A, t.gUnit_K⟩ : Unt) _) ?_
         rintro _ w3 ⟨rfl, T2⟩
         have S3 : Sep w [box b1 (fxdC t) 62] w3 := S1.trans T2
         clear T2 S1
         refine J.run 3 K30_38 [(2, .bool (unB (⟨t.gUnit_M, t.gUnit_Kg, t.gUnit_S, t.gUnit_A, t.gUnit_K⟩ : Unt)))] w3 (by kernel_rfl) ?_
         refine J.ret Tryz.f30 [.bool (unB (⟨t.gUnit_M, t.gUnit_Kg, t.gUnit_S, t.gUnit_A, t.gUnit_K⟩ : Unt))] Tryz.func30 ⟨by kernel_rfl, trivial⟩ ?_
         refine hR _ _ ?_
         exact ⟨congrArg Value.bool (by show _ = decide (fixP t.gBits t.gNum t.gOff t.gDen t.gUnit_M t.gUnit_Kg t.gUnit_S t.gUnit_A t.gUnit_K); cases hz_ : unB (⟨t.gUnit_M, t.gUnit_Kg, t.gUnit_S, t.gUnit_A, t.gUnit_K⟩ : Unt) with | true => (have h_ := unB_iff.1 hz_; try dsimp only at h_; exact (decide_eq_true (by omega)).symm) | false => (have h_ := mt unB_iff.2 (by rw [hz_]; decide); try dsimp only at h_; exact (decide_eq_false (by omega)).symm)), S3.nil⟩
        ·skip
         refine J.head (.bool false) (congrArg Value.bool (decide_eq_false fk14)) ?_
         refine J.run 6 K30_39 [(2, .bool false)] w1 (by kernel_rfl) ?_
         refine J.ret Tryz.f30 [.bool false] Tryz.func30 ⟨by kernel_rfl, trivial⟩ ?_
         refine hR _ _ ?_
         exact ⟨congrArg Value.bool (decide_eq_false (show ¬ (fixP t.gBits t.gNum t.gOff t.gDen t.gUnit_M t.gUnit_Kg t.gUnit_S t.gUnit_A t.gUnit_K) by omega)).symm, S1.nil⟩
       ·skip
        refine J.head (.bool false) (congrArg Value.bool (decide_eq_false fk13)) ?_
        refine J.run 11 K30_40 [(2, .bool false)] w1 (by kernel_rfl) ?_
        refine J.ret Tryz.f30 [.bool false] Tryz.func30 ⟨by kernel_rfl, trivial⟩ ?_
        refine hR _ _ ?_
        exact ⟨congrArg Value.bool (decide_eq_false (show ¬ (fixP t.gBits t.gNum t.gOff t.gDen t.gUnit_M t.gUnit_Kg t.gUnit_S t.gUnit_A t.gUnit_K) by omega)).symm, S1.nil⟩
      ·skip
       refine J.head (.bool false) (congrArg Value.bool (decide_eq_false fk12)) ?_
       refine J.run 16 K30_41 [(2, .bool false)] w1 (by kernel_rfl) ?_
       refine J.ret Tryz.f30 [.bool false] Tryz.func30 ⟨by kernel_rfl, trivial⟩ ?_
       refine hR _ _ ?_
       exact ⟨congrArg Value.bool (decide_eq_false (show ¬ (fixP t.gBits t.gNum t.gOff t.gDen t.gUnit_M t.gUnit_Kg t.gUnit_S t.gUnit_A t.gUnit_K) by omega)).symm, S1.nil⟩
     ·skip
      refine J.head (.bool false) (congrArg Value.bool (decide_eq_false fk11)) ?_
      refine J.run 21 K30_42 [(2, .bool false)] w1 (by kernel_rfl) ?_
      refine J.ret Tryz.f30 [.bool false] Tryz.func30 ⟨by kernel_rfl, trivial⟩ ?_
      refine hR _ _ ?_
      exact ⟨congrArg Value.bool (decide_eq_false (show ¬ (fixP t.gBits t.gNum t.gOff t.gDen t.gUnit_M t.gUnit_Kg t.gUnit_S t.gUnit_A t.gUnit_K) by omega)).symm, S1.nil⟩
    ·skip
     refine J.head (.bool false) (congrArg Value.bool (decide_eq_false fk10)) ?_
     refine J.run 26 K30_43 [(2, .bool false)] w1 (by kernel_rfl) ?_
     refine J.ret Tryz.f30 [.bool false] Tryz.func30 ⟨by kernel_rfl, trivial⟩ ?_
     refine hR _ _ ?_
     exact ⟨congrArg Value.bool (decide_eq_false (show ¬ (fixP t.gBits t.gNum t.gOff t.gDen t.gUnit_M t.gUnit_Kg t.gUnit_S t.gUnit_A t.gUnit_K) by omega)).symm, S1.nil⟩
   ·skip
    refine J.head (.bool false) (congrArg Value.bool (decide_eq_false fk9)) ?_
    refine J.run 31 K30_44 [(2, .bool false)] w1 (by kernel_rfl) ?_
    refine J.ret Tryz.f30 [.bool false] Tryz.func30 ⟨by kernel_rfl, trivial⟩ ?_
    refine hR _ _ ?_
    exact ⟨congrArg Value.bool (decide_eq_false (show ¬ (fixP t.gBits t.gNum t.gOff t.gDen t.gUnit_M t.gUnit_Kg t.gUnit_S t.gUnit_A t.gUnit_K) by omega)).symm, S1.nil⟩
  ·skip
   refine J.head (.bool false) (congrArg Value.bool (beq_eq_false_iff_ne.2 fk8)) ?_
   refine J.run 1 K30_45 [(12, pv b1), (11, .bool false), (1, pv b1)] w1 (by kernel_rfl) ?_
   refine J.ok (OK.ldBox S1 0 13 3 0 (iv t.gBits) (by kernel_rfl) rfl (by kernel_rfl)) ?_
   refine J.run 3 K30_46 [(16, .bool (t.gBits == 32)), (1, pv b1)] w1 (by kernel_rfl) ?_
   by_cases fk15 : t.gBits = 32
   ·skip
    refine J.head (.bool true) (congrArg Value.bool (beq_iff_eq.2 fk15)) ?_
    refine J.run 1 K30_47 [(17, .pointer (some ⟨b1, 2, none⟩)), (16, .bool true), (1, pv b1)] w1 (by kernel_rfl) ?_
    refine J.ok (OK.ldBox S1 0 18 3 2 (iv t.gNum) (by kernel_rfl) rfl (by kernel_rfl)) ?_
    refine J.run 3 K30_48 [(21, .bool (decide (t.gNum ≥ 1))), (1, pv b1)] w1 (by kernel_rfl) ?_
    by_cases fk16 : t.gNum ≥ 1
    ·skip
     refine J.head (.bool true) (congrArg Value.bool (decide_eq_true fk16)) ?_
     refine J.run 1 K30_49 [(22, .pointer (some ⟨b1, 2, none⟩)), (21, .bool true), (1, pv b1)] w1 (by kernel_rfl) ?_
     refine J.ok (OK.ldBox S1 0 23 3 2 (iv t.gNum) (by kernel_rfl) rfl (by kernel_rfl)) ?_
     refine J.run 3 K30_50 [(26, .bool (decide (t.gNum ≤ 1048576))), (1, pv b1)] w1 (by kernel_rfl) ?_
     by_cases fk17 : t.gNum ≤ 1048576
     ·skip
      refine J.head (.bool true) (congrArg Value.bool (decide_eq_true fk17)) ?_
      refine J.run 1 K30_51 [(27, .pointer (some ⟨b1, 4, none⟩)), (26, .bool true), (1, pv b1)] w1 (by kernel_rfl) ?_
      refine J.ok (OK.ldBox S1 0 28 3 4 (iv t.gDen) (by kernel_rfl) rfl (by kernel_rfl)) ?_
      refine J.run 3 K30_52 [(31, .bool (decide (t.gDen ≥ 1))), (1, pv b1)] w1 (by kernel_rfl) ?_
      by_cases fk18 : t.gDen ≥ 1
      ·skip
       refine J.head (.bool true) (congrArg Value.bool (decide_eq_true fk18)) ?_
       refine J.run 1 K30_53 [(32, .pointer (some ⟨b1, 4, none⟩)), (31, .bool true), (1, pv b1)] w1 (by kernel_rfl) ?_
       refine J.ok (OK.ldBox S1 0 33 3 4 (iv t.gDen) (by kernel_rfl) rfl (by kernel_rfl)) ?_
       refine J.run 3 K30_54 [(36, .bool (decide (t.gDen ≤ 1048576))), (1, pv b1)] w1 (by kernel_rfl) ?_
       by_cases fk19 : t.gDen ≤ 1048576
       ·skip
        refine J.head (.bool true) (congrArg Value.bool (decide_eq_true fk19)) ?_
        refine J.run 1 K30_55 [(37, .pointer (some ⟨b1, 3, none⟩)), (36, .bool true), (1, pv b1)] w1 (by kernel_rfl) ?_
        refine J.ok (OK.ldBox S1 0 38 3 3 (iv t.gOff) (by kernel_rfl) rfl (by kernel_rfl)) ?_
        refine J.run 3 K30_56 [(41, .bool (decide (t.gOff ≥ (-1073741824)))), (1, pv b1)] w1 (by kernel_rfl) ?_
        by_cases fk20 : t.gOff ≥ (-1073741824)
        ·skip
         refine J.head (.bool true) (congrArg Value.bool (decide_eq_true fk20)) ?_
         refine J.run 1 K30_57 [(42, .pointer (some ⟨b1, 3, none⟩)), (41, .bool true), (1, pv b1)] w1 (by kernel_rfl) ?_
         refine J.ok (OK.ldBox S1 0 43 3 3 (iv t.gOff) (by kernel_rfl) rfl (by kernel_rfl)) ?_
         refine J.run 3 K30_58 [(46, .bool (decide (t.gOff ≤ 1073741824))), (1, pv b1)] w1 (by kernel_rfl) ?_
         by_cases fk21 : t.gOff ≤ 1073741824
         ·skip
          refine J.head (.bool true) (congrArg Value.bool (decide_eq_true fk21)) ?_
          refine J.run 1 K30_59 [(47, .pointer (some ⟨b1, 5, none⟩)), (46, .bool true)] w1 (by kernel_rfl) ?_
          refine J.ok (OK.ldBox S1 0 48 60 5 (.agg #[iv t.gUnit_M, iv t.gUnit_Kg, iv t.gUnit_S, iv t.gUnit_A, iv t.gUnit_K]) (by kernel_rfl) rfl (by kernel_rfl)) ?_
          refine J.callF 49 64 #[.agg #[iv t.gUnit_M, iv t.gUnit_Kg, iv t.gUnit_S, iv t.gUnit_A, iv t.gUnit_K]] hb64 (by kernel_rfl) (uvalid_any (⟨t.gUnit_M, t.gUnit_Kg, t.gUnit_S, t.gUnit_A, t.gUnit_K⟩ : Unt) _) ?_
          rintro _ w4 ⟨rfl, T3⟩
          have S4 : Sep w [box b1 (fxdC t) 62] w4 := S1.trans T3
          clear T3 S1
          refine J.run 3 K30_60 [(2, .bool (unB (⟨t.gUnit_M, t.gUnit_Kg, t.gUnit_S, t.gUnit_A, t.gUnit_K⟩ : Unt)))] w4 (by kernel_rfl) ?_
          refine J.ret Tryz.f30 [.bool (unB (⟨t.gUnit_M, t.gUnit_Kg, t.gUnit_S, t.gUnit_A, t.gUnit_K⟩ : Unt))] Tryz.func30 ⟨by kernel_rfl, trivial⟩ ?_
          refine hR _ _ ?_
          exact ⟨congrArg Value.bool (by show _ = decide (fixP t.gBits t.gNum t.gOff t.gDen t.gUnit_M t.gUnit_Kg t.gUnit_S t.gUnit_A t.gUnit_K); cases hz_ : unB (⟨t.gUnit_M, t.gUnit_Kg, t.gUnit_S, t.gUnit_A, t.gUnit_K⟩ : Unt) with | true => (have h_ := unB_iff.1 hz_; try dsimp only at h_; exact (decide_eq_true (by omega)).symm) | false => (have h_ := mt unB_iff.2 (by rw [hz_]; decide); try dsimp only at h_; exact (decide_eq_false (by omega)).symm)), S4.nil⟩
         ·skip
          refine J.head (.bool false) (congrArg Value.bool (decide_eq_false fk21)) ?_
          refine J.run 6 K30_61 [(2, .bool false)] w1 (by kernel_rfl) ?_
          refine J.ret Tryz.f30 [.bool false] Tryz.func30 ⟨by kernel_rfl, trivial⟩ ?_
          refine hR _ _ ?_
          exact ⟨congrArg Value.bool (decide_eq_false (show ¬ (fixP t.gBits t.gNum t.gOff t.gDen t.gUnit_M t.gUnit_Kg t.gUnit_S t.gUnit_A t.gUnit_K) by omega)).symm, S1.nil⟩
        ·skip
         refine J.head (.bool false) (congrArg Value.bool (decide_eq_false fk20)) ?_
         refine J.run 11 K30_62 [(2, .bool false)] w1 (by kernel_rfl) ?_
         refine J.ret Tryz.f30 [.bool false] Tryz.func30 ⟨by kernel_rfl, trivial⟩ ?_
         refine hR _ _ ?_
         exact ⟨congrArg Value.bool (decide_eq_false (show ¬ (fixP t.gBits t.gNum t.gOff t.gDen t.gUnit_M t.gUnit_Kg t.gUnit_S t.gUnit_A t.gUnit_K) by omega)).symm, S1.nil⟩
       ·skip
        refine J.head (.bool false) (congrArg Value.bool (decide_eq_false fk19)) ?_
        refine J.run 16 K30_63 [(2, .bool false)] w1 (by kernel_rfl) ?_
        refine J.ret Tryz.f30 [.bool false] Tryz.func30 ⟨by kernel_rfl, trivial⟩ ?_
        refine hR _ _ ?_
        exact ⟨congrArg Value.bool (decide_eq_false (show ¬ (fixP t.gBits t.gNum t.gOff t.gDen t.gUnit_M t.gUnit_Kg t.gUnit_S t.gUnit_A t.gUnit_K) by omega)).symm, S1.nil⟩
      ·skip
       refine J.head (.bool false) (congrArg Value.bool (decide_eq_false fk18)) ?_
       refine J.run 21 K30_64 [(2, .bool false)] w1 (by kernel_rfl) ?_
       refine J.ret Tryz.f30 [.bool false] Tryz.func30 ⟨by kernel_rfl, trivial⟩ ?_
       refine hR _ _ ?_
       exact ⟨congrArg Value.bool (decide_eq_false (show ¬ (fixP t.gBits t.gNum t.gOff t.gDen t.gUnit_M t.gUnit_Kg t.gUnit_S t.gUnit_A t.gUnit_K) by omega)).symm, S1.nil⟩
     ·skip
      refine J.head (.bool false) (congrArg Value.bool (decide_eq_false fk17)) ?_
      refine J.run 26 K30_65 [(2, .bool false)] w1 (by kernel_rfl) ?_
      refine J.ret Tryz.f30 [.bool false] Tryz.func30 ⟨by kernel_rfl, trivial⟩ ?_
      refine hR _ _ ?_
      exact ⟨congrArg Value.bool (decide_eq_false (show ¬ (fixP t.gBits t.gNum t.gOff t.gDen t.gUnit_M t.gUnit_Kg t.gUnit_S t.gUnit_A t.gUnit_K) by omega)).symm, S1.nil⟩
    ·skip
     refine J.head (.bool false) (congrArg Value.bool (decide_eq_false fk16)) ?_
     refine J.run 31 K30_66 [(2, .bool false)] w1 (by kernel_rfl) ?_
     refine J.ret Tryz.f30 [.bool false] Tryz.func30 ⟨by kernel_rfl, trivial⟩ ?_
     refine hR _ _ ?_
     exact ⟨congrArg Value.bool (decide_eq_false (show ¬ (fixP t.gBits t.gNum t.gOff t.gDen t.gUnit_M t.gUnit_Kg t.gUnit_S t.gUnit_A t.gUnit_K) by omega)).symm, S1.nil⟩
   ·skip
    refine J.head (.bool false) (congrArg Value.bool (beq_eq_false_iff_ne.2 fk15)) ?_
    refine J.run 36 K30_67 [(2, .bool false)] w1 (by kernel_rfl) ?_
    refine J.ret Tryz.f30 [.bool false] Tryz.func30 ⟨by kernel_rfl, trivial⟩ ?_
    refine hR _ _ ?_
    exact ⟨congrArg Value.bool (decide_eq_false (show ¬ (fixP t.gBits t.gNum t.gOff t.gDen t.gUnit_M t.gUnit_Kg t.gUnit_S t.gUnit_A t.gUnit_K) by omega)).symm, S1.nil⟩

theorem hb21 : HasBody Tryz.prog 21 := fun _ _ => by kernel_rfl
noncomputable def K21_0 : List Item := adv 2 [] (bodyOf Tryz.f21)
noncomputable def K21_1 : List Item := adv 6 [] (popK K21_0)
noncomputable def K21_2 : List Item := adv 2 [] (popK K21_1)
noncomputable def K21_3 : List Item := adv 15 [false] K21_2
noncomputable def K21_4 : List Item := adv 2 [] (popK K21_3)
noncomputable def K21_5 : List Item := adv 1 [] K21_4
noncomputable def K21_6 : List Item := adv 3 [] (popK K21_5)
noncomputable def K21_7 : List Item := adv 1 [] K21_6
noncomputable def K21_8 : List Item := adv 3 [] (popK K21_7)
noncomputable def K21_9 : List Item := adv 1 [] K21_8
noncomputable def K21_10 : List Item := adv 3 [] (popK K21_9)
noncomputable def K21_11 : List Item := adv 1 [] K21_10
noncomputable def K21_12 : List Item := adv 3 [] (popK K21_11)
noncomputable def K21_13 : List Item := adv 1 [] K21_12
noncomputable def K21_14 : List Item := adv 3 [] (popK K21_13)
noncomputable def K21_15 : List Item := adv 1 [] K21_14
noncomputable def K21_16 : List Item := adv 3 [] (popK (popK K21_15))
noncomputable def K21_17 : List Item := adv 6 [] K21_14
noncomputable def K21_18 : List Item := adv 11 [] K21_12
noncomputable def K21_19 : List Item := adv 16 [] K21_10
noncomputable def K21_20 : List Item := adv 21 [] K21_8
noncomputable def K21_21 : List Item := adv 26 [] K21_6
noncomputable def K21_22 : List Item := adv 31 [] K21_4
noncomputable def K21_23 : List Item := adv 1 [] K21_2
noncomputable def K21_24 : List Item := adv 3 [] (popK K21_23)
noncomputable def K21_25 : List Item := adv 10 [false] K21_24
noncomputable def K21_26 : List Item := adv 2 [] (popK K21_25)
noncomputable def K21_27 : List Item := adv 1 [] K21_26
noncomputable def K21_28 : List Item := adv 3 [] (popK K21_27)
noncomputable def K21_29 : List Item := adv 1 [] K21_28
noncomputable def K21_30 : List Item := adv 3 [] (popK K21_29)
noncomputable def K21_31 : List Item := adv 1 [] K21_30
noncomputable def K21_32 : List Item := adv 3 [] (popK K21_31)
noncomputable def K21_33 : List Item := adv 1 [] K21_32
noncomputable def K21_34 : List Item := adv 3 [] (popK K21_33)
noncomputable def K21_35 : List Item := adv 1 [] K21_34
noncomputable def K21_36 : List Item := adv 3 [] (popK K21_35)
noncomputable def K21_37 : List Item := adv 1 [] K21_36
noncomputable def K21_38 : List Item := adv 3 [] (popK (popK K21_37))
noncomputable def K21_39 : List Item := adv 6 [] K21_36
noncomputable def K21_40 : List Item := adv 11 [] K21_34
noncomputable def K21_41 : List Item := adv 16 [] K21_32
noncomputable def K21_42 : List Item := adv 21 [] K21_30
noncomputable def K21_43 : List Item := adv 26 [] K21_28
noncomputable def K21_44 : List Item := adv 31 [] K21_26
noncomputable def K21_45 : List Item := adv 1 [] K21_24
noncomputable def K21_46 : List Item := adv 3 [] (popK K21_45)
noncomputable def K21_47 : List Item := adv 5 [false] K21_46
noncomputable def K21_48 : List Item := adv 2 [] (popK K21_47)
noncomputable def K21_49 : List Item := adv 1 [] K21_48
noncomputable def K21_50 : List Item := adv 3 [] (popK K21_49)
noncomputable def K21_51 : List Item := adv 1 [] K21_50
noncomputable def K21_52 : List Item := adv 3 [] (popK K21_51)
noncomputable def K21_53 : List Item := adv 1 [] K21_52
noncomputable def K21_54 : List Item := adv 3 [] (popK K21_53)
noncomputable def K21_55 : List Item := adv 1 [] K21_54
noncomputable def K21_56 : List Item := adv 3 [] (popK K21_55)
noncomputable def K21_57 : List Item := adv 1 [] K21_56
noncomputable def K21_58 : List Item := adv 3 [] (popK K21_57)
noncomputable def K21_59 : List Item := adv 1 [] K21_58
noncomputable def K21_60 : List Item := adv 3 [] (popK (popK K21_59))
noncomputable def K21_61 : List Item := adv 6 [] K21_58
noncomputable def K21_62 : List Item := adv 11 [] K21_56
noncomputable def K21_63 : List Item := adv 16 [] K21_54
noncomputable def K21_64 : List Item := adv 21 [] K21_52
noncomputable def K21_65 : List Item := adv 26 [] K21_50
noncomputable def K21_66 : List Item := adv 31 [] K21_48
noncomputable def K21_67 : List Item := adv 5 [true] K21_46
set_option maxRecDepth 20000 in
set_option maxHeartbeats 20000000 in
theorem rfxvalid_any (t : Fxd) (w : World) (ht : fxdQ w t) : Ret Tryz.prog 21 #[.agg (fxdA t)] w (fun v w' => v = .bool (fixB t) ∧ Sep w [] w') := by
 have S0 := Sep.refl w
 refine Ret.named fun R hR => ?_
 refine Ret.of_J (N := 49) [(0, .agg (fxdA t))] Tryz.func21 rfl rfl (Nat.le_of_ble_eq_true (by kernel_rfl)) (by kernel_rfl) ?_
 obtain ⟨q1, q2, q3, q4, q5, q6, q7, q8, q9, _⟩ := id ht
 refine J.run 2 K21_0 [(0, .agg (fxdA t))] w (by kernel_rfl) ?_
 refine J.new S0 1 (fxdC t) 62 (by kernel_rfl) ?_
 intro b1 w1 S1
 refine J.run 6 K21_1 [(3, pv b1), (1, pv b1)] w1 (by kernel_rfl) ?_
 refine J.ok (OK.ldBox S1 0 4 3 0 (iv t.gBits) (by kernel_rfl) rfl (by kernel_rfl)) ?_
 refine J.run 2 K21_2 [(6, .bool (t.gBits != 8)), (1, pv b1)] w1 (by kernel_rfl) ?_
 by_cases fk1 : t.gBits = 8
 ·skip
  refine J.head (.bool false) (congrArg Value.bool (bne_eq_false_iff_eq.2 fk1)) ?_
  refine J.run 15 K21_3 [(16, .pointer (some ⟨b1, 2, none⟩)), (1, pv b1)] w1 (by kernel_rfl) ?_
  refine J.ok (OK.ldBox S1 0 17 3 2 (iv t.gNum) (by kernel_rfl) rfl (by kernel_rfl)) ?_
  refine J.run 2 K21_4 [(19, .bool (decide (t.gNum ≥ 1))), (1, pv b1)] w1 (by kernel_rfl) ?_
  by_cases fk2 : t.gNum ≥ 1
  ·skip
   refine J.head (.bool true) (congrArg Value.bool (decide_eq_true fk2)) ?_
   refine J.run 1 K21_5 [(20, .pointer (some ⟨b1, 2, none⟩)), (19, .bool true), (1, pv b1)] w1 (by kernel_rfl) ?_
   refine J.ok (OK.ldBox S1 0 21 3 2 (iv t.gNum) (by kernel_rfl) rfl (by kernel_rfl)) ?_
   refine J.run 3 K21_6 [(24, .bool (decide (t.gNum ≤ 1048576))), (1, pv b1)] w1 (by kernel_rfl) ?_
   by_cases fk3 : t.gNum ≤ 1048576
   ·skip
    refine J.head (.bool true) (congrArg Value.bool (decide_eq_true fk3)) ?_
    refine J.run 1 K21_7 [(25, .pointer (some ⟨b1, 4, none⟩)), (24, .bool true), (1, pv b1)] w1 (by kernel_rfl) ?_
    refine J.ok (OK.ldBox S1 0 26 3 4 (iv t.gDen) (by kernel_rfl) rfl (by kernel_rfl)) ?_
    refine J.run 3 K21_8 [(29, .bool (decide (t.gDen ≥ 1))), (1, pv b1)] w1 (by kernel_rfl) ?_
    by_cases fk4 : t.gDen ≥ 1
    ·skip
     refine J.head (.bool true) (congrArg Value.bool (decide_eq_true fk4)) ?_
     refine J.run 1 K21_9 [(30, .pointer (some ⟨b1, 4, none⟩)), (29, .bool true), (1, pv b1)] w1 (by kernel_rfl) ?_
     refine J.ok (OK.ldBox S1 0 31 3 4 (iv t.gDen) (by kernel_rfl) rfl (by kernel_rfl)) ?_
     refine J.run 3 K21_10 [(34, .bool (decide (t.gDen ≤ 1048576))), (1, pv b1)] w1 (by kernel_rfl) ?_
     by_cases fk5 : t.gDen ≤ 1048576
     ·skip
      refine J.head (.bool true) (congrArg Value.bool (decide_eq_true fk5)) ?_
      refine J.run 1 K21_11 [(35, .pointer (some ⟨b1, 3, none⟩)), (34, .bool true), (1, pv b1)] w1 (by kernel_rfl) ?_
      refine J.ok (OK.ldBox S1 0 36 3 3 (iv t.gOff) (by kernel_rfl) rfl (by kernel_rfl)) ?_
      refine J.run 3 K21_12 [(39, .bool (decide (t.gOff ≥ (-1073741824)))), (1, pv b1)] w1 (by kernel_rfl) ?_
      by_cases fk6 : t.gOff ≥ (-1073741824)
      ·skip
       refine J.head (.bool true) (congrArg Value.bool (decide_eq_true fk6)) ?_
       refine J.run 1 K21_13 [(40, .pointer (some ⟨b1, 3, none⟩)), (39, .bool true), (1, pv b1)] w1 (by kernel_rfl) ?_
       refine J.ok (OK.ldBox S1 0 41 3 3 (iv t.gOff) (by kernel_rfl) rfl (by kernel_rfl)) ?_
       refine J.run 3 K21_14 [(44, .bool (decide (t.gOff ≤ 1073741824))), (1, pv b1)] w1 (by kernel_rfl) ?_
       by_cases fk7 : t.gOff ≤ 1073741824
       ·skip
        refine J.head (.bool true) (congrArg Value.bool (decide_eq_true fk7)) ?_
        refine J.run 1 K21_15 [(45, .pointer (some ⟨b1, 5, none⟩)), (44, .bool true)] w1 (by kernel_rfl) ?_
        refine J.ok (OK.ldBox S1 0 46 60 5 (.agg #[iv t.gUnit_M, iv t.gUnit_Kg, iv t.gUnit_S, iv t.gUnit_A, iv t.gUnit_K]) (by kernel_rfl) rfl (by kernel_rfl)) ?_
        refine J.callF 47 54 #[.agg #[iv t.gUnit_M, iv t.gUnit_Kg, iv t.gUnit_S, iv t.gUnit_A, iv t.gUnit_K]] hb54 (by kernel_rfl) (r3unit_any (⟨t.gUnit_M, t.gUnit_Kg, t.gUnit_S, t.gUnit_A, t.gUnit_K⟩ : Unt) _) ?_
        rintro _ w2 ⟨rfl, T1⟩
        have S2 : Sep w [box b1 (fxdC t) 62] w2 := S1.trans T1
        clear T1 S1
        refine J.run 3 K21_16 [(2, .bool (unB (⟨t.gUnit_M, t.gUnit_Kg, t.gUnit_S, t.gUnit_A, t.gUnit_K⟩ : Unt)))] w2 (by kernel_rfl) ?_
        refine J.ret Tryz.f21 [.bool (unB (⟨t.gUnit_M, t.gUnit_Kg, t.gUnit_S, t.gUnit_A, t.gUnit_K⟩ : Unt))] Tryz.func21 ⟨by kernel_rfl, trivial⟩ ?_
        refine hR _ _ ?_
        exact ⟨congrArg Value.bool (by show _ = decide (fixP t.gBits t.gNum t.gOff t.gDen t.gUnit_M t.gUnit_Kg t.gUnit_S t.gUnit_A t.gUnit_K); cases hz_ : unB (⟨t.gUnit_M, t.gUnit_Kg, t.gUnit_S, t.gUnit_A, t.gUnit_K⟩ : Unt) with | true => (have h_ := unB_iff.1 hz_; try dsimp only at h_; exact (decide_eq_true (by omega)).symm) | false => (have h_ := mt unB_iff.2 (by rw [hz_]; decide); try dsimp only at h_; exact (decide_eq_false (by omega)).symm)), S2.nil⟩
       ·skip
        refine J.head (.bool false) (congrArg Value.bool (decide_eq_false fk7)) ?_
        refine J.run 6 K21_17 [(2, .bool false)] w1 (by kernel_rfl) ?_
        refine J.ret Tryz.f21 [.bool false] Tryz.func21 ⟨by kernel_rfl, trivial⟩ ?_
        refine hR _ _ ?_
        exact ⟨congrArg Value.bool (decide_eq_false (show ¬ (fixP t.gBits t.gNum t.gOff t.gDen t.gUnit_M t.gUnit_Kg t.gUnit_S t.gUnit_A t.gUnit_K) by omega)).symm, S1.nil⟩
      ·skip
       refine J.head (.bool false) (congrArg Value.bool (decide_eq_false fk6)) ?_
       refine J.run 11 K21_18 [(2, .bool false)] w1 (by kernel_rfl) ?_
       refine J.ret Tryz.f21 [.bool false] Tryz.func21 ⟨by kernel_rfl, trivial⟩ ?_
       refine hR _ _ ?_
       exact ⟨congrArg Value.bool (decide_eq_false (show ¬ (fixP t.gBits t.gNum t.gOff t.gDen t.gUnit_M t.gUnit_Kg t.gUnit_S t.gUnit_A t.gUnit_K) by omega)).symm, S1.nil⟩
     ·skip
      refine J.head (.bool false) (congrArg Value.bool (decide_eq_false fk5)) ?_
      refine J.run 16 K21_19 [(2, .bool false)] w1 (by kernel_rfl) ?_
      refine J.ret Tryz.f21 [.bool false] Tryz.func21 ⟨by kernel_rfl, trivial⟩ ?_
      refine hR _ _ ?_
      exact ⟨congrArg Value.bool (decide_eq_false (show ¬ (fixP t.gBits t.gNum t.gOff t.gDen t.gUnit_M t.gUnit_Kg t.gUnit_S t.gUnit_A t.gUnit_K) by omega)).symm, S1.nil⟩
    ·skip
     refine J.head (.bool false) (congrArg Value.bool (decide_eq_false fk4)) ?_
     refine J.run 21 K21_20 [(2, .bool false)] w1 (by kernel_rfl) ?_
     refine J.ret Tryz.f21 [.bool false] Tryz.func21 ⟨by kernel_rfl, trivial⟩ ?_
     refine hR _ _ ?_
     exact ⟨congrArg Value.bool (decide_eq_false (show ¬ (fixP t.gBits t.gNum t.gOff t.gDen t.gUnit_M t.gUnit_Kg t.gUnit_S t.gUnit_A t.gUnit_K) by omega)).symm, S1.nil⟩
   ·skip
    refine J.head (.bool false) (congrArg Value.bool (decide_eq_false fk3)) ?_
    refine J.run 26 K21_21 [(2, .bool false)] w1 (by kernel_rfl) ?_
    refine J.ret Tryz.f21 [.bool false] Tryz.func21 ⟨by kernel_rfl, trivial⟩ ?_
    refine hR _ _ ?_
    exact ⟨congrArg Value.bool (decide_eq_false (show ¬ (fixP t.gBits t.gNum t.gOff t.gDen t.gUnit_M t.gUnit_Kg t.gUnit_S t.gUnit_A t.gUnit_K) by omega)).symm, S1.nil⟩
  ·skip
   refine J.head (.bool false) (congrArg Value.bool (decide_eq_false fk2)) ?_
   refine J.run 31 K21_22 [(2, .bool false)] w1 (by kernel_rfl) ?_
   refine J.ret Tryz.f21 [.bool false] Tryz.func21 ⟨by kernel_rfl, trivial⟩ ?_
   refine hR _ _ ?_
   exact ⟨congrArg Value.bool (decide_eq_false (show ¬ (fixP t.gBits t.gNum t.gOff t.gDen t.gUnit_M t.gUnit_Kg t.gUnit_S t.gUnit_A t.gUnit_K) by omega)).symm, S1.nil⟩
 ·skip
  refine J.head (.bool true) (congrArg Value.bool (bne_iff_ne.2 fk1)) ?_
  refine J.run 1 K21_23 [(7, pv b1), (6, .bool true), (1, pv b1)] w1 (by kernel_rfl) ?_
  refine J.ok (OK.ldBox S1 0 8 3 0 (iv t.gBits) (by kernel_rfl) rfl (by kernel_rfl)) ?_
  refine J.run 3 K21_24 [(11, .bool (t.gBits != 16)), (1, pv b1)] w1 (by kernel_rfl) ?_
  by_cases fk8 : t.gBits = 16
  ·skip
   refine J.head (.bool false) (congrArg Value.bool (bne_eq_false_iff_eq.2 fk8)) ?_
   refine J.run 10 K21_25 [(16, .pointer (some ⟨b1, 2, none⟩)), (1, pv b1)] w1 (by kernel_rfl) ?_
   refine J.ok (OK.ldBox S1 0 17 3 2 (iv t.gNum) (by kernel_rfl) rfl (by kernel_rfl)) ?_
   refine J.run 2 K21_26 [(19, .bool (decide (t.gNum ≥ 1))), (1, pv b1)] w1 (by kernel_rfl) ?_
   by_cases fk9 : t.gNum ≥ 1
   ·skip
    refine J.head (.bool true) (congrArg Value.bool (decide_eq_true fk9)) ?_
    refine J.run 1 K21_27 [(20, .pointer (some ⟨b1, 2, none⟩)), (19, .bool true), (1, pv b1)] w1 (by kernel_rfl) ?_
    refine J.ok (OK.ldBox S1 0 21 3 2 (iv t.gNum) (by kernel_rfl) rfl (by kernel_rfl)) ?_
    refine J.run 3 K21_28 [(24, .bool (decide (t.gNum ≤ 1048576))), (1, pv b1)] w1 (by kernel_rfl) ?_
    by_cases fk10 : t.gNum ≤ 1048576
    ·skip
     refine J.head (.bool true) (congrArg Value.bool (decide_eq_true fk10)) ?_
     refine J.run 1 K21_29 [(25, .pointer (some ⟨b1, 4, none⟩)), (24, .bool true), (1, pv b1)] w1 (by kernel_rfl) ?_
     refine J.ok (OK.ldBox S1 0 26 3 4 (iv t.gDen) (by kernel_rfl) rfl (by kernel_rfl)) ?_
     refine J.run 3 K21_30 [(29, .bool (decide (t.gDen ≥ 1))), (1, pv b1)] w1 (by kernel_rfl) ?_
     by_cases fk11 : t.gDen ≥ 1
     ·skip
      refine J.head (.bool true) (congrArg Value.bool (decide_eq_true fk11)) ?_
      refine J.run 1 K21_31 [(30, .pointer (some ⟨b1, 4, none⟩)), (29, .bool true), (1, pv b1)] w1 (by kernel_rfl) ?_
      refine J.ok (OK.ldBox S1 0 31 3 4 (iv t.gDen) (by kernel_rfl) rfl (by kernel_rfl)) ?_
      refine J.run 3 K21_32 [(34, .bool (decide (t.gDen ≤ 1048576))), (1, pv b1)] w1 (by kernel_rfl) ?_
      by_cases fk12 : t.gDen ≤ 1048576
      ·skip
       refine J.head (.bool true) (congrArg Value.bool (decide_eq_true fk12)) ?_
       refine J.run 1 K21_33 [(35, .pointer (some ⟨b1, 3, none⟩)), (34, .bool true), (1, pv b1)] w1 (by kernel_rfl) ?_
       refine J.ok (OK.ldBox S1 0 36 3 3 (iv t.gOff) (by kernel_rfl) rfl (by kernel_rfl)) ?_
       refine J.run 3 K21_34 [(39, .bool (decide (t.gOff ≥ (-1073741824)))), (1, pv b1)] w1 (by kernel_rfl) ?_
       by_cases fk13 : t.gOff ≥ (-1073741824)
       ·skip
        refine J.head (.bool true) (congrArg Value.bool (decide_eq_true fk13)) ?_
        refine J.run 1 K21_35 [(40, .pointer (some ⟨b1, 3, none⟩)), (39, .bool true), (1, pv b1)] w1 (by kernel_rfl) ?_
        refine J.ok (OK.ldBox S1 0 41 3 3 (iv t.gOff) (by kernel_rfl) rfl (by kernel_rfl)) ?_
        refine J.run 3 K21_36 [(44, .bool (decide (t.gOff ≤ 1073741824))), (1, pv b1)] w1 (by kernel_rfl) ?_
        by_cases fk14 : t.gOff ≤ 1073741824
        ·skip
         refine J.head (.bool true) (congrArg Value.bool (decide_eq_true fk14)) ?_
         refine J.run 1 K21_37 [(45, .pointer (some ⟨b1, 5, none⟩)), (44, .bool true)] w1 (by kernel_rfl) ?_
         refine J.ok (OK.ldBox S1 0 46 60 5 (.agg #[iv t.gUnit_M, iv t.gUnit_Kg, iv t.gUnit_S, iv t.gUnit_A, iv t.gUnit_K]) (by kernel_rfl) rfl (by kernel_rfl)) ?_
         refine J.callF 47 54 #[.agg #[iv t.gUnit_M, iv t.gUnit_Kg, iv t.gUnit_S, iv t.gUnit_A, iv t.gUnit_K]] hb54 (by kernel_rfl) (r3unit_any (⟨t.gUnit_M, t.gUnit_Kg, t.gUnit_S, t.gUnit_A, t.gUnit_K⟩ : Unt) _) ?_
         rintro _ w3 ⟨rfl, T2⟩
         have S3 : Sep w [box b1 (fxdC t) 62] w3 := S1.trans T2
         clear T2 S1
         refine J.run 3 K21_38 [(2, .bool (unB (⟨t.gUnit_M, t.gUnit_Kg, t.gUnit_S, t.gUnit_A, t.gUnit_K⟩ : Unt)))] w3 (by kernel_rfl) ?_
         refine J.ret Tryz.f21 [.bool (unB (⟨t.gUnit_M, t.gUnit_Kg, t.gUnit_S, t.gUnit_A, t.gUnit_K⟩ : Unt))] Tryz.func21 ⟨by kernel_rfl, trivial⟩ ?_
         refine hR _ _ ?_
         exact ⟨congrArg Value.bool (by show _ = decide (fixP t.gBits t.gNum t.gOff t.gDen t.gUnit_M t.gUnit_Kg t.gUnit_S t.gUnit_A t.gUnit_K); cases hz_ : unB (⟨t.gUnit_M, t.gUnit_Kg, t.gUnit_S, t.gUnit_A, t.gUnit_K⟩ : Unt) with | true => (have h_ := unB_iff.1 hz_; try dsimp only at h_; exact (decide_eq_true (by omega)).symm) | false => (have h_ := mt unB_iff.2 (by rw [hz_]; decide); try dsimp only at h_; exact (decide_eq_false (by omega)).symm)), S3.nil⟩
        ·skip
         refine J.head (.bool false) (congrArg Value.bool (decide_eq_false fk14)) ?_
         refine J.run 6 K21_39 [(2, .bool false)] w1 (by kernel_rfl) ?_
         refine J.ret Tryz.f21 [.bool false] Tryz.func21 ⟨by kernel_rfl, trivial⟩ ?_
         refine hR _ _ ?_
         exact ⟨congrArg Value.bool (decide_eq_false (show ¬ (fixP t.gBits t.gNum t.gOff t.gDen t.gUnit_M t.gUnit_Kg t.gUnit_S t.gUnit_A t.gUnit_K) by omega)).symm, S1.nil⟩
       ·skip
        refine J.head (.bool false) (congrArg Value.bool (decide_eq_false fk13)) ?_
        refine J.run 11 K21_40 [(2, .bool false)] w1 (by kernel_rfl) ?_
        refine J.ret Tryz.f21 [.bool false] Tryz.func21 ⟨by kernel_rfl, trivial⟩ ?_
        refine hR _ _ ?_
        exact ⟨congrArg Value.bool (decide_eq_false (show ¬ (fixP t.gBits t.gNum t.gOff t.gDen t.gUnit_M t.gUnit_Kg t.gUnit_S t.gUnit_A t.gUnit_K) by omega)).symm, S1.nil⟩
      ·skip
       refine J.head (.bool false) (congrArg Value.bool (decide_eq_false fk12)) ?_
       refine J.run 16 K21_41 [(2, .bool false)] w1 (by kernel_rfl) ?_
       refine J.ret Tryz.f21 [.bool false] Tryz.func21 ⟨by kernel_rfl, trivial⟩ ?_
       refine hR _ _ ?_
       exact ⟨congrArg Value.bool (decide_eq_false (show ¬ (fixP t.gBits t.gNum t.gOff t.gDen t.gUnit_M t.gUnit_Kg t.gUnit_S t.gUnit_A t.gUnit_K) by omega)).symm, S1.nil⟩
     ·skip
      refine J.head (.bool false) (congrArg Value.bool (decide_eq_false fk11)) ?_
      refine J.run 21 K21_42 [(2, .bool false)] w1 (by kernel_rfl) ?_
      refine J.ret Tryz.f21 [.bool false] Tryz.func21 ⟨by kernel_rfl, trivial⟩ ?_
      refine hR _ _ ?_
      exact ⟨congrArg Value.bool (decide_eq_false (show ¬ (fixP t.gBits t.gNum t.gOff t.gDen t.gUnit_M t.gUnit_Kg t.gUnit_S t.gUnit_A t.gUnit_K) by omega)).symm, S1.nil⟩
    ·skip
     refine J.head (.bool false) (congrArg Value.bool (decide_eq_false fk10)) ?_
     refine J.run 26 K21_43 [(2, .bool false)] w1 (by kernel_rfl) ?_
     refine J.ret Tryz.f21 [.bool false] Tryz.func21 ⟨by kernel_rfl, trivial⟩ ?_
     refine hR _ _ ?_
     exact ⟨congrArg Value.bool (decide_eq_false (show ¬ (fixP t.gBits t.gNum t.gOff t.gDen t.gUnit_M t.gUnit_Kg t.gUnit_S t.gUnit_A t.gUnit_K) by omega)).symm, S1.nil⟩
   ·skip
    refine J.head (.bool false) (congrArg Value.bool (decide_eq_false fk9)) ?_
    refine J.run 31 K21_44 [(2, .bool false)] w1 (by kernel_rfl) ?_
    refine J.ret Tryz.f21 [.bool false] Tryz.func21 ⟨by kernel_rfl, trivial⟩ ?_
    refine hR _ _ ?_
    exact ⟨congrArg Value.bool (decide_eq_false (show ¬ (fixP t.gBits t.gNum t.gOff t.gDen t.gUnit_M t.gUnit_Kg t.gUnit_S t.gUnit_A t.gUnit_K) by omega)).symm, S1.nil⟩
  ·skip
   refine J.head (.bool true) (congrArg Value.bool (bne_iff_ne.2 fk8)) ?_
   refine J.run 1 K21_45 [(12, pv b1), (11, .bool true), (1, pv b1)] w1 (by kernel_rfl) ?_
   refine J.ok (OK.ldBox S1 0 13 3 0 (iv t.gBits) (by kernel_rfl) rfl (by kernel_rfl)) ?_
   refine J.run 3 K21_46 [(15, .bool (t.gBits != 32)), (1, pv b1)] w1 (by kernel_rfl) ?_
   by_cases fk15 : t.gBits = 32
   ·skip
    refine J.head (.bool false) (congrArg Value.bool (bne_eq_false_iff_eq.2 fk15)) ?_
    refine J.run 5 K21_47 [(16, .pointer (some ⟨b1, 2, none⟩)), (1, pv b1)] w1 (by kernel_rfl) ?_
    refine J.ok (OK.ldBox S1 0 17 3 2 (iv t.gNum) (by kernel_rfl) rfl (by kernel_rfl)) ?_
    refine J.run 2 K21_48 [(19, .bool (decide (t.gNum ≥ 1))), (1, pv b1)] w1 (by kernel_rfl) ?_
    by_cases fk16 : t.gNum ≥ 1
    ·skip
     refine J.head (.bool true) (congrArg Value.bool (decide_eq_true fk16)) ?_
     refine J.run 1 K21_49 [(20, .pointer (some ⟨b1, 2, none⟩)), (19, .bool true), (1, pv b1)] w1 (by kernel_rfl) ?_
     refine J.ok (OK.ldBox S1 0 21 3 2 (iv t.gNum) (by kernel_rfl) rfl (by kernel_rfl)) ?_
     refine J.run 3 K21_50 [(24, .bool (decide (t.gNum ≤ 1048576))), (1, pv b1)] w1 (by kernel_rfl) ?_
     by_cases fk17 : t.gNum ≤ 1048576
     ·skip
      refine J.head (.bool true) (congrArg Value.bool (decide_eq_true fk17)) ?_
      refine J.run 1 K21_51 [(25, .pointer (some ⟨b1, 4, none⟩)), (24, .bool true), (1, pv b1)] w1 (by kernel_rfl) ?_
      refine J.ok (OK.ldBox S1 0 26 3 4 (iv t.gDen) (by kernel_rfl) rfl (by kernel_rfl)) ?_
      refine J.run 3 K21_52 [(29, .bool (decide (t.gDen ≥ 1))), (1, pv b1)] w1 (by kernel_rfl) ?_
      by_cases fk18 : t.gDen ≥ 1
      ·skip
       refine J.head (.bool true) (congrArg Value.bool (decide_eq_true fk18)) ?_
       refine J.run 1 K21_53 [(30, .pointer (some ⟨b1, 4, none⟩)), (29, .bool true), (1, pv b1)] w1 (by kernel_rfl) ?_
       refine J.ok (OK.ldBox S1 0 31 3 4 (iv t.gDen) (by kernel_rfl) rfl (by kernel_rfl)) ?_
       refine J.run 3 K21_54 [(34, .bool (decide (t.gDen ≤ 1048576))), (1, pv b1)] w1 (by kernel_rfl) ?_
       by_cases fk19 : t.gDen ≤ 1048576
       ·skip
        refine J.head (.bool true) (congrArg Value.bool (decide_eq_true fk19)) ?_
        refine J.run 1 K21_55 [(35, .pointer (some ⟨b1, 3, none⟩)), (34, .bool true), (1, pv b1)] w1 (by kernel_rfl) ?_
        refine J.ok (OK.ldBox S1 0 36 3 3 (iv t.gOff) (by kernel_rfl) rfl (by kernel_rfl)) ?_
        refine J.run 3 K21_56 [(39, .bool (decide (t.gOff ≥ (-1073741824)))), (1, pv b1)] w1 (by kernel_rfl) ?_
        by_cases fk20 : t.gOff ≥ (-1073741824)
        ·skip
         refine J.head (.bool true) (congrArg Value.bool (decide_eq_true fk20)) ?_
         refine J.run 1 K21_57 [(40, .pointer (some ⟨b1, 3, none⟩)), (39, .bool true), (1, pv b1)] w1 (by kernel_rfl) ?_
         refine J.ok (OK.ldBox S1 0 41 3 3 (iv t.gOff) (by kernel_rfl) rfl (by kernel_rfl)) ?_
         refine J.run 3 K21_58 [(44, .bool (decide (t.gOff ≤ 1073741824))), (1, pv b1)] w1 (by kernel_rfl) ?_
         by_cases fk21 : t.gOff ≤ 1073741824
         ·skip
          refine J.head (.bool true) (congrArg Value.bool (decide_eq_true fk21)) ?_
          refine J.run 1 K21_59 [(45, .pointer (some ⟨b1, 5, none⟩)), (44, .bool true)] w1 (by kernel_rfl) ?_
          refine J.ok (OK.ldBox S1 0 46 60 5 (.agg #[iv t.gUnit_M, iv t.gUnit_Kg, iv t.gUnit_S, iv t.gUnit_A, iv t.gUnit_K]) (by kernel_rfl) rfl (by kernel_rfl)) ?_
          refine J.callF 47 54 #[.agg #[iv t.gUnit_M, iv t.gUnit_Kg, iv t.gUnit_S, iv t.gUnit_A, iv t.gUnit_K]] hb54 (by kernel_rfl) (r3unit_any (⟨t.gUnit_M, t.gUnit_Kg, t.gUnit_S, t.gUnit_A, t.gUnit_K⟩ : Unt) _) ?_
          rintro _ w4 ⟨rfl, T3⟩
          have S4 : Sep w [box b1 (fxdC t) 62] w4 := S1.trans T3
          clear T3 S1
          refine J.run 3 K21_60 [(2, .bool (unB (⟨t.gUnit_M, t.gUnit_Kg, t.gUnit_S, t.gUnit_A, t.gUnit_K⟩ : Unt)))] w4 (by kernel_rfl) ?_
          refine J.ret Tryz.f21 [.bool (unB (⟨t.gUnit_M, t.gUnit_Kg, t.gUnit_S, t.gUnit_A, t.gUnit_K⟩ : Unt))] Tryz.func21 ⟨by kernel_rfl, trivial⟩ ?_
          refine hR _ _ ?_
          exact ⟨congrArg Value.bool (by show _ = decide (fixP t.gBits t.gNum t.gOff t.gDen t.gUnit_M t.gUnit_Kg t.gUnit_S t.gUnit_A t.gUnit_K); cases hz_ : unB (⟨t.gUnit_M, t.gUnit_Kg, t.gUnit_S, t.gUnit_A, t.gUnit_K⟩ : Unt) with | true => (have h_ := unB_iff.1 hz_; try dsimp only at h_; exact (decide_eq_true (by omega)).symm) | false => (have h_ := mt unB_iff.2 (by rw [hz_]; decide); try dsimp only at h_; exact (decide_eq_false (by omega)).symm)), S4.nil⟩
         ·skip
          refine J.head (.bool false) (congrArg Value.bool (decide_eq_false fk21)) ?_
          refine J.run 6 K21_61 [(2, .bool false)] w1 (by kernel_rfl) ?_
          refine J.ret Tryz.f21 [.bool false] Tryz.func21 ⟨by kernel_rfl, trivial⟩ ?_
          refine hR _ _ ?_
          exact ⟨congrArg Value.bool (decide_eq_false (show ¬ (fixP t.gBits t.gNum t.gOff t.gDen t.gUnit_M t.gUnit_Kg t.gUnit_S t.gUnit_A t.gUnit_K) by omega)).symm, S1.nil⟩
        ·skip
         refine J.head (.bool false) (congrArg Value.bool (decide_eq_false fk20)) ?_
         refine J.run 11 K21_62 [(2, .bool false)] w1 (by kernel_rfl) ?_
         refine J.ret Tryz.f21 [.bool false] Tryz.func21 ⟨by kernel_rfl, trivial⟩ ?_
         refine hR _ _ ?_
         exact ⟨congrArg Value.bool (decide_eq_false (show ¬ (fixP t.gBits t.gNum t.gOff t.gDen t.gUnit_M t.gUnit_Kg t.gUnit_S t.gUnit_A t.gUnit_K) by omega)).symm, S1.nil⟩
       ·skip
        refine J.head (.bool false) (congrArg Value.bool (decide_eq_false fk19)) ?_
        refine J.run 16 K21_63 [(2, .bool false)] w1 (by kernel_rfl) ?_
        refine J.ret Tryz.f21 [.bool false] Tryz.func21 ⟨by kernel_rfl, trivial⟩ ?_
        refine hR _ _ ?_
        exact ⟨congrArg Value.bool (decide_eq_false (show ¬ (fixP t.gBits t.gNum t.gOff t.gDen t.gUnit_M t.gUnit_Kg t.gUnit_S t.gUnit_A t.gUnit_K) by omega)).symm, S1.nil⟩
      ·skip
       refine J.head (.bool false) (congrArg Value.bool (decide_eq_false fk18)) ?_
       refine J.run 21 K21_64 [(2, .bool false)] w1 (by kernel_rfl) ?_
       refine J.ret Tryz.f21 [.bool false] Tryz.func21 ⟨by kernel_rfl, trivial⟩ ?_
       refine hR _ _ ?_
       exact ⟨congrArg Value.bool (decide_eq_false (show ¬ (fixP t.gBits t.gNum t.gOff t.gDen t.gUnit_M t.gUnit_Kg t.gUnit_S t.gUnit_A t.gUnit_K) by omega)).symm, S1.nil⟩
     ·skip
      refine J.head (.bool false) (congrArg Value.bool (decide_eq_false fk17)) ?_
      refine J.run 26 K21_65 [(2, .bool false)] w1 (by kernel_rfl) ?_
      refine J.ret Tryz.f21 [.bool false] Tryz.func21 ⟨by kernel_rfl, trivial⟩ ?_
      refine hR _ _ ?_
      exact ⟨congrArg Value.bool (decide_eq_false (show ¬ (fixP t.gBits t.gNum t.gOff t.gDen t.gUnit_M t.gUnit_Kg t.gUnit_S t.gUnit_A t.gUnit_K) by omega)).symm, S1.nil⟩
    ·skip
     refine J.head (.bool false) (congrArg Value.bool (decide_eq_false fk16)) ?_
     refine J.run 31 K21_66 [(2, .bool false)] w1 (by kernel_rfl) ?_
     refine J.ret Tryz.f21 [.bool false] Tryz.func21 ⟨by kernel_rfl, trivial⟩ ?_
     refine hR _ _ ?_
     exact ⟨congrArg Value.bool (decide_eq_false (show ¬ (fixP t.gBits t.gNum t.gOff t.gDen t.gUnit_M t.gUnit_Kg t.gUnit_S t.gUnit_A t.gUnit_K) by omega)).symm, S1.nil⟩
   ·skip
    refine J.head (.bool true) (congrArg Value.bool (bne_iff_ne.2 fk15)) ?_
    refine J.run 5 K21_67 [(2, .bool false)] w1 (by kernel_rfl) ?_
    refine J.ret Tryz.f21 [.bool false] Tryz.func21 ⟨by kernel_rfl, trivial⟩ ?_
    refine hR _ _ ?_
    exact ⟨congrArg Value.bool (decide_eq_false (show ¬ (fixP t.gBits t.gNum t.gOff t.gDen t.gUnit_M t.gUnit_Kg t.gUnit_S t.gUnit_A t.gUnit_K) by omega)).symm, S1.nil⟩

end Go.Proofs.YthfpejhonhaggaaGreatDoor

