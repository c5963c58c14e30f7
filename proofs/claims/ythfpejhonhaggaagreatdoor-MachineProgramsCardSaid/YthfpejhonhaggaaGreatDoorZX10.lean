/- Walks of functions of this seat, printed by a program over the engine. Conditions: as each theorem says. -/
import Derived.Test.YthfpejhonhaggaaGreatDoorZX9
namespace Go.Proofs.YthfpejhonhaggaaGreatDoor
open Go.Eng Go.RowKit
set_option linter.unusedSimpArgs false
set_option linter.unusedVariables false
abbrev kvX10_1 : List Value := [iv 0, .bool false, iv 0, iv 0, iv 0, iv 0, iv 0, iv 0, iv 0, iv 0]
abbrev kvX10_2 : Array Value := #[iv 0, .bool false, iv 0, iv 0, iv 0, iv 0, iv 0, iv 0, iv 0, iv 0]
theorem hb72 : HasBody Tryz.prog 72 := fun _ _ => by kernel_rfl
noncomputable def K72_0 : List Item := adv 2 [] (bodyOf Tryz.f72)
noncomputable def K72_1 : List Item := adv 5 [] (popK (popK (popK (popK (popK K72_0)))))
noncomputable def K72_2 : List Item := adv 11 [] (popK (popK K72_1))
noncomputable def K72_3 : List Item := adv 4 [] (popK K72_2)
noncomputable def K72_4 : List Item := List.drop 1 K72_3
noncomputable def K72_5 : List Item := adv 1 [] K72_4
noncomputable def K72_6 : List Item := List.drop 1 K72_5
noncomputable def K72_7 : List Item := adv 2 [] K72_6
noncomputable def K72_8 : List Item := List.drop 1 K72_7
noncomputable def K72_9 : List Item := adv 2 [true] K72_8
noncomputable def K72_10 : List Item := adv 5 [false] K72_8
noncomputable def K72_11 : List Item := adv 1 [] (popK K72_10)
noncomputable def K72_12 : List Item := adv 7 [] (popK (popK (popK K72_11)))
noncomputable def K72_13 : List Item := adv 8 [false] K72_12
noncomputable def K72_14 : List Item := adv 3 [false] K72_13
noncomputable def K72_15 : List Item := adv 3 [true] K72_13
noncomputable def K72_16 : List Item := adv 1 [] (popK K72_15)
noncomputable def K72_17 : List Item := adv 2 [] (popK (popK (popK K72_16)))
noncomputable def K72_18 : List Item := adv 3 [true] K72_12
noncomputable def K72_19 : List Item := adv 1 [] (popK K72_18)
noncomputable def K72_20 : List Item := adv 7 [] (popK (popK (popK K72_19)))
noncomputable def K72_21 : List Item := adv 3 [false] K72_20
noncomputable def K72_22 : List Item := adv 3 [true] K72_20
noncomputable def K72_23 : List Item := adv 1 [] (popK K72_22)
noncomputable def K72_24 : List Item := adv 2 [] (popK (popK (popK K72_23)))
noncomputable def K72_25 : List Item := adv 5 [] K72_7
noncomputable def K72_26 : List Item := adv 3 [] K72_25
noncomputable def K72_27 : List Item := adv 9 [] K72_26
noncomputable def K72_28 : List Item := adv 6 [] K72_26
noncomputable def K72_29 : List Item := adv 3 [] K72_28
noncomputable def K72_30 : List Item := adv 2 [] K72_5
noncomputable def K72_31 : List Item := adv 2 [] (popK K72_30)
noncomputable def K72_32 : List Item := adv 1 [] K72_31
noncomputable def K72_33 : List Item := adv 2 [] K72_3
noncomputable def K72_34 : List Item := adv 2 [] (popK K72_33)
noncomputable def K72_35 : List Item := adv 1 [] K72_34
set_option maxRecDepth 20000 in
set_option maxHeartbeats 20000000 in
theorem types_any (p : Prg) (i : Ins) (w : World) (hp : prgQ w p) (hi : insQ w i) (hk : 0 ≤ i.gK ∧ i.gK < 2097152) : Ret Tryz.prog 72 #[.agg (prgA p), .agg (insA i)] w (fun v w' => v = .tuple #[.agg (fxdA (tyA p i.gOp i.gK)), .agg (fxdA (tyB p i.gOp i.gK)), .agg (fxdA (tyC p i.gOp i.gK)), .bool (tyOK p i.gOp i.gK)] ∧ Sep w [] w') := by
 have S0 := Sep.refl w
 refine Ret.named fun R hR => ?_
 refine Ret.of_J (N := 86) [(0, .agg (prgA p)), (1, .agg (insA i))] Tryz.func72 rfl rfl (Nat.le_of_ble_eq_true (by kernel_rfl)) (by kernel_rfl) ?_
 obtain ⟨q1, q2, q3, q4, q5, q6, q7, q8, q9, q10, q11, q12, q13, q14, q15, q16, q17, q18, q19, q20, q21, q22, q23, q24, q25, _⟩ := id hp
 have ql1 := q2.len_eq
 have ql2 := q5.len_eq
 have ql3 := q8.len_eq
 have ql4 := q11.len_eq
 have ql5 := q15.len_eq
 have ql6 := q18.len_eq
 have ql7 := q21.len_eq
 have ql8 := q24.len_eq
 obtain ⟨q26, q27, q28, q29, q30, _⟩ := id hi
 refine J.run 2 K72_0 [(0, .agg (prgA p)), (1, .agg (insA i))] w (by kernel_rfl) ?_
 refine J.new S0 2 (prgC p) 28 (by kernel_rfl) ?_
 intro b1 w1 S1
 refine J.new S1 3 (insC i) 44 (by kernel_rfl) ?_
 intro b2 w2 S2
 refine J.new S2 4 kvX10_1 62 (by kernel_rfl) ?_
 intro b3 w3 S3
 refine J.new S3 5 kvX10_1 62 (by kernel_rfl) ?_
 intro b4 w4 S4
 refine J.new S4 6 kvX10_1 62 (by kernel_rfl) ?_
 intro b5 w5 S5
 refine J.run 5 K72_1 [(15, .pointer (some ⟨b2, 4, none⟩)), (6, pv b5), (5, pv b4), (4, pv b3), (3, pv b2), (2, pv b1)] w5 (by kernel_rfl) ?_
 refine J.ok (OK.ldBox S5 3 16 3 4 (iv i.gK) (by kernel_rfl) rfl (by kernel_rfl)) ?_
 refine J.callF 17 88 #[iv i.gK] hb88 (by kernel_rfl) (split3_any i.gK _ (by omega)) ?_
 rintro _ w6 ⟨rfl, T1⟩
 have S6 : Sep w [box b5 kvX10_1 62, box b4 kvX10_1 62, box b3 kvX10_1 62, box b2 (insC i) 44, box b1 (prgC p) 28] w6 := S5.trans T1
 clear T1 S5
 refine J.run 11 K72_2 [(21, .pointer (some ⟨b1, 1, none⟩)), (10, iv (i.gK % 128)), (9, iv (i.gK / 128 % 128)), (8, iv (i.gK / 16384)), (6, pv b5), (5, pv b4), (4, pv b3), (3, pv b2), (2, pv b1)] w6 (by kernel_rfl) ?_
 refine J.ok (OK.ldBox S6 4 22 23 1 (.slice p.gTypes_a p.gTypes_n p.gTypes_c) (by kernel_rfl) rfl (by kernel_rfl)) ?_
 refine J.run 4 K72_3 [(11, iv (p.gTypes_n : Int)), (10, iv (i.gK % 128)), (9, iv (i.gK / 128 % 128)), (8, iv (i.gK / 16384)), (6, pv b5), (5, pv b4), (4, pv b3), (3, pv b2), (2, pv b1)] w6 (by kernel_rfl) ?_
 have X1 : ∀ (ton : Bool) (w7 : World), ((ton = true → i.gOp = 9 ∨ i.gOp = 10) ∧ (ton = false → ¬ (i.gOp = 9 ∨ i.gOp = 10))) → Sep w [box b5 kvX10_1 62, box b4 kvX10_1 62, box b3 kvX10_1 62, box b2 (insC i) 44, box b1 (prgC p) 28] w7 → J Tryz.prog 72 86 R K72_4 [(11, iv (p.gTypes_n : Int)), (10, iv (i.gK % 128)), (9, iv (i.gK / 128 % 128)), (8, iv (i.gK / 16384)), (6, pv b5), (5, pv b4), (4, pv b3), (3, pv b2), (2, pv b1), (12, .bool ton)] w7 := by
  intro ton w7 hton S7
  refine J.run 1 K72_5 [(11, iv (p.gTypes_n : Int)), (10, iv (i.gK % 128)), (9, iv (i.gK / 128 % 128)), (8, iv (i.gK / 16384)), (6, pv b5), (5, pv b4), (4, pv b3), (3, pv b2), (2, pv b1), (12, .bool ton)] w7 (by kernel_rfl) ?_
  have X2 : ∀ (tst : Bool) (w8 : World), ((tst = true → i.gOp = 13 ∨ i.gOp = 14) ∧ (tst = false → ¬ (i.gOp = 13 ∨ i.gOp = 14))) → Sep w [box b5 kvX10_1 62, box b4 kvX10_1 62, box b3 kvX10_1 62, box b2 (insC i) 44, box b1 (prgC p) 28] w8 → J Tryz.prog 72 86 R K72_6 [(11, iv (p.gTypes_n : Int)), (10, iv (i.gK % 128)), (9, iv (i.gK / 128 % 128)), (8, iv (i.gK / 16384)), (6, pv b5), (5, pv b4), (4, pv b3), (2, pv b1), (12, .bool ton), (13, .bool tst)] w8 := by
   intro tst w8 htst S8
   refine J.run 2 K72_7 [(11, iv (p.gTypes_n : Int)), (10, iv (i.gK % 128)), (9, iv (i.gK / 128 % 128)), (8, iv (i.gK / 16384)), (6, pv b5), (5, pv b4), (4, pv b3), (2, pv b1), (12, .bool ton), (13, .bool tst)] w8 (by kernel_rfl) ?_
   have X3 : ∀ (tb : Bool) (w9 : World), ((tb = true → ¬ (i.gK / 16384 < (p.gTypes_n : Int) ∧ (i.gOp = 9 ∨ i.gOp = 10 ∨ i.gK / 128 % 128 < (p.gTypes_n : Int)) ∧ (i.gOp = 13 ∨ i.gOp = 14 ∨ i.gK % 128 < (p.gTypes_n : Int)))) ∧ (tb = false → i.gK / 16384 < (p.gTypes_n : Int) ∧ (i.gOp = 9 ∨ i.gOp = 10 ∨ i.gK / 128 % 128 < (p.gTypes_n : Int)) ∧ (i.gOp = 13 ∨ i.gOp = 14 ∨ i.gK % 128 < (p.gTypes_n : Int)))) → Sep w [box b5 kvX10_1 62, box b4 kvX10_1 62, box b3 kvX10_1 62, box b2 (insC i) 44, box b1 (prgC p) 28] w9 → J Tryz.prog 72 86 R K72_8 [(10, iv (i.gK % 128)), (9, iv (i.gK / 128 % 128)), (8, iv (i.gK / 16384)), (6, pv b5), (5, pv b4), (4, pv b3), (2, pv b1), (12, .bool ton), (13, .bool tst), (60, .bool tb)] w9 := by
    intro tb w9 htb S9
    refine J.run 0 K72_8 [(60, .bool tb), (10, iv (i.gK % 128)), (9, iv (i.gK / 128 % 128)), (8, iv (i.gK / 16384)), (6, pv b5), (5, pv b4), (4, pv b3), (2, pv b1), (12, .bool ton), (13, .bool tst)] w9 (by kernel_rfl) ?_
    rcases Bool.eq_false_or_eq_true tb with fk1 | fk1
    ·skip
     refine J.head (.bool true) (congrArg Value.bool fk1) ?_
     have fb1 := htb.1 fk1
     refine J.run 2 K72_9 [(6, pv b5), (5, pv b4), (4, pv b3)] w9 (by kernel_rfl) ?_
     refine J.drawPlan (fun w_ => Sep w [box b5 kvX10_1 62, box b4 kvX10_1 62, box b3 kvX10_1 62, box b2 (insC i) 44, box b1 (prgC p) 28] w_) [(0, true), (1, true), (2, true), (3, false), (4, false), (5, false), (6, true)] S9 Tryz.mixed (by kernel_rfl) (planOK_of (T := [(0, some 61, 16), (0, some 62, 32), (0, some 63, 64), (1, none, 2305843009213693968), (11, none, 4611686018427387936), (31, none, 9223372036854775872), (63, some 7, 0)]) (by kernel_rfl) (by kernel_rfl)) ?_
     intro w10 S10
     refine PB.mk S10 ?_
     refine PL.takeOK 0 (fun w_ S_ => OK.ldBox S_ 2 61 62 0 (.agg kvX10_2) (by kernel_rfl) rfl (by kernel_rfl)) rfl ?_
     refine PL.takeOK 1 (fun w_ S_ => OK.ldBox S_ 1 62 62 0 (.agg kvX10_2) (by kernel_rfl) rfl (by kernel_rfl)) rfl ?_
     refine PL.takeOK 2 (fun w_ S_ => OK.ldBox S_ 0 63 62 0 (.agg kvX10_2) (by kernel_rfl) rfl (by kernel_rfl)) rfl ?_
     refine PL.stBox S10 2 62 0 (.agg kvX10_2) kvX10_1 [box b5 kvX10_1 62, box b4 kvX10_1 62, box b3 kvX10_1 62, box b2 (insC i) 44, box b1 (prgC p) 28] (by kernel_rfl) rfl (by kernel_rfl) (by kernel_rfl) rfl ?_
     intro w11 S11
     refine PB.mk S11 ?_
     refine PL.stBox S11 1 62 0 (.agg kvX10_2) kvX10_1 [box b5 kvX10_1 62, box b4 kvX10_1 62, box b3 kvX10_1 62, box b2 (insC i) 44, box b1 (prgC p) 28] (by kernel_rfl) rfl (by kernel_rfl) (by kernel_rfl) rfl ?_
     intro w12 S12
     refine PB.mk S12 ?_
     refine PL.stBox S12 0 62 0 (.agg kvX10_2) kvX10_1 [box b5 kvX10_1 62, box b4 kvX10_1 62, box b3 kvX10_1 62, box b2 (insC i) 44, box b1 (prgC p) 28] (by kernel_rfl) rfl (by kernel_rfl) (by kernel_rfl) rfl ?_
     intro w13 S13
     refine PB.mk S13 ?_
     refine PL.take 6 7 (.bool false) (fun _ _ => by kernel_rfl) ?_
     refine PL.done ?_
     refine J.run 0 (rRest K72_9) [(7, .bool false), (6, pv b5), (5, pv b4), (4, pv b3)] w13 (by kernel_rfl) ?_
     refine J.ret Tryz.f72 [.agg kvX10_2, .agg kvX10_2, .agg kvX10_2, .bool false] Tryz.func72 ⟨⟨⟨b3, 0, none⟩, by kernel_rfl, ldV_run (S13.nth 2 rfl) (by kernel_rfl)⟩, ⟨⟨b4, 0, none⟩, by kernel_rfl, ldV_run (S13.nth 1 rfl) (by kernel_rfl)⟩, ⟨⟨b5, 0, none⟩, by kernel_rfl, ldV_run (S13.nth 0 rfl) (by kernel_rfl)⟩, by kernel_rfl, trivial⟩ ?_
     refine hR _ _ ?_
     have e0 : tyOK p i.gOp i.gK = false := decide_eq_false (by omega)
     obtain ⟨e1, e2, e3⟩ := ty_no e0
     exact ⟨by rw [e1, e2, e3, e0]; rfl, S13.nil⟩
    ·skip
     refine J.head (.bool false) (congrArg Value.bool fk1) ?_
     have fb2 := htb.2 fk1
     refine J.run 5 K72_10 [(64, .pointer (some ⟨b1, 1, none⟩)), (10, iv (i.gK % 128)), (9, iv (i.gK / 128 % 128)), (8, iv (i.gK / 16384)), (6, pv b5), (5, pv b4), (4, pv b3), (2, pv b1), (12, .bool ton), (13, .bool tst)] w9 (by kernel_rfl) ?_
     refine J.ok (OK.ldBox S9 4 65 23 1 (.slice p.gTypes_a p.gTypes_n p.gTypes_c) (by kernel_rfl) rfl (by kernel_rfl)) ?_
     refine J.run 1 K72_11 [(66, iv (i.gK / 16384)), (65, .slice p.gTypes_a p.gTypes_n p.gTypes_c), (10, iv (i.gK % 128)), (9, iv (i.gK / 128 % 128)), (6, pv b5), (5, pv b4), (4, pv b3), (2, pv b1), (12, .bool ton), (13, .bool tst)] w9 (by kernel_rfl) ?_
     obtain ⟨p1, hp1, hc1⟩ := q5.at fx0 (i.gK / 16384).toNat (by omega)
     have hel1 := getD_Q q6 fx0 (n := (i.gK / 16384).toNat) (by have := q5.len_eq; omega)
     obtain ⟨q31, q32, q33, q34, q35, q36, q37, q38, q39, _⟩ := id hel1
     refine J.ok (OK.index 67 23 10 p.gTypes_a p1 p.gTypes_n (i.gK / 16384).toNat (i.gK / 16384) (p1.add ((i.gK / 16384).toNat * 10)) (by kernel_rfl) (by kernel_rfl) hp1 (by omega) (by omega) rfl) ?_
     refine J.ok (OK.ldCells 68 62 (p1.add ((i.gK / 16384).toNat * 10)) (fxdC (p.gTypes_l.getD (i.gK / 16384).toNat fx0)) (by kernel_rfl) (by kernel_rfl) (by kernel_rfl) (fun j_ v_ hj_ => S9.cell (hc1 j_ v_ hj_))) ?_
     refine J.stBox S9 2 62 0 (.agg (fxdA (p.gTypes_l.getD (i.gK / 16384).toNat fx0))) (fxdC (p.gTypes_l.getD (i.gK / 16384).toNat fx0)) [box b5 kvX10_1 62, box b4 kvX10_1 62, box b3 (fxdC (p.gTypes_l.getD (i.gK / 16384).toNat fx0)) 62, box b2 (insC i) 44, box b1 (prgC p) 28] (by kernel_rfl) rfl (by kernel_rfl) (by kernel_rfl) rfl ?_
     intro w14 S14
     refine J.run 7 K72_12 [(70, .bool (!ton)), (10, iv (i.gK % 128)), (9, iv (i.gK / 128 % 128)), (6, pv b5), (5, pv b4), (4, pv b3), (2, pv b1), (13, .bool tst)] w14 (by kernel_rfl) ?_
     rcases Bool.eq_false_or_eq_true ton with fk2 | fk2
     ·skip
      refine J.head (.bool false) (congrArg Value.bool (by rw [fk2]; rfl)) ?_
      have fb3 := hton.1 fk2
      refine J.run 8 K72_13 [(77, .bool (!tst)), (10, iv (i.gK % 128)), (6, pv b5), (5, pv b4), (4, pv b3), (2, pv b1)] w14 (by kernel_rfl) ?_
      rcases Bool.eq_false_or_eq_true tst with fk3 | fk3
      ·skip
       refine J.head (.bool false) (congrArg Value.bool (by rw [fk3]; rfl)) ?_
       have fb4 := htst.1 fk3
       refine J.run 3 K72_14 [(6, pv b5), (5, pv b4), (4, pv b3)] w14 (by kernel_rfl) ?_
       refine J.drawPlan (fun w_ => Sep w [box b5 kvX10_1 62, box b4 kvX10_1 62, box b3 (fxdC (p.gTypes_l.getD (i.gK / 16384).toNat fx0)) 62, box b2 (insC i) 44, box b1 (prgC p) 28] w_) [(0, true), (1, true), (2, true), (3, false), (4, false), (5, false), (6, true)] S14 Tryz.mixed (by kernel_rfl) (planOK_of (T := [(0, some 83, 16), (0, some 84, 32), (0, some 85, 64), (1, none, 9671406556917033397649424), (11, none, 19342813113834066795298848), (31, none, 38685626227668133590597696), (63, some 7, 0)]) (by kernel_rfl) (by kernel_rfl)) ?_
       intro w15 S15
       refine PB.mk S15 ?_
       refine PL.takeOK 0 (fun w_ S_ => OK.ldBox S_ 2 83 62 0 (.agg (fxdA (p.gTypes_l.getD (i.gK / 16384).toNat fx0))) (by kernel_rfl) rfl (by kernel_rfl)) rfl ?_
       refine PL.takeOK 1 (fun w_ S_ => OK.ldBox S_ 1 84 62 0 (.agg kvX10_2) (by kernel_rfl) rfl (by kernel_rfl)) rfl ?_
       refine PL.takeOK 2 (fun w_ S_ => OK.ldBox S_ 0 85 62 0 (.agg kvX10_2) (by kernel_rfl) rfl (by kernel_rfl)) rfl ?_
       refine PL.stBox S15 2 62 0 (.agg (fxdA (p.gTypes_l.getD (i.gK / 16384).toNat fx0))) (fxdC (p.gTypes_l.getD (i.gK / 16384).toNat fx0)) [box b5 kvX10_1 62, box b4 kvX10_1 62, box b3 (fxdC (p.gTypes_l.getD (i.gK / 16384).toNat fx0)) 62, box b2 (insC i) 44, box b1 (prgC p) 28] (by kernel_rfl) rfl (by kernel_rfl) (by kernel_rfl) rfl ?_
       intro w16 S16
       refine PB.mk S16 ?_
       refine PL.stBox S16 1 62 0 (.agg kvX10_2) kvX10_1 [box b5 kvX10_1 62, box b4 kvX10_1 62, box b3 (fxdC (p.gTypes_l.getD (i.gK / 16384).toNat fx0)) 62, box b2 (insC i) 44, box b1 (prgC p) 28] (by kernel_rfl) rfl (by kernel_rfl) (by kernel_rfl) rfl ?_
       intro w17 S17
       refine PB.mk S17 ?_
       refine PL.stBox S17 0 62 0 (.agg kvX10_2) kvX10_1 [box b5 kvX10_1 62, box b4 kvX10_1 62, box b3 (fxdC (p.gTypes_l.getD (i.gK / 16384).toNat fx0)) 62, box b2 (insC i) 44, box b1 (prgC p) 28] (by kernel_rfl) rfl (by kernel_rfl) (by kernel_rfl) rfl ?_
       intro w18 S18
       refine PB.mk S18 ?_
       refine PL.take 6 7 (.bool true) (fun _ _ => by kernel_rfl) ?_
       refine PL.done ?_
       refine J.run 0 (rRest K72_14) [(7, .bool true), (6, pv b5), (5, pv b4), (4, pv b3)] w18 (by kernel_rfl) ?_
       refine J.ret Tryz.f72 [.agg (fxdA (p.gTypes_l.getD (i.gK / 16384).toNat fx0)), .agg kvX10_2, .agg kvX10_2, .bool true] Tryz.func72 ⟨⟨⟨b3, 0, none⟩, by kernel_rfl, ldV_run (S18.nth 2 rfl) (by kernel_rfl)⟩, ⟨⟨b4, 0, none⟩, by kernel_rfl, ldV_run (S18.nth 1 rfl) (by kernel_rfl)⟩, ⟨⟨b5, 0, none⟩, by kernel_rfl, ldV_run (S18.nth 0 rfl) (by kernel_rfl)⟩, by kernel_rfl, trivial⟩ ?_
       refine hR _ _ ?_
       obtain ⟨e1, e2, e3⟩ := ty_yes (p := p) (op := i.gOp) (k := i.gK) ((tyOK_iff (p := p) (op := i.gOp) (k := i.gK)).2 (by omega))
       rw [if_neg (by omega)] at e2
       rw [if_neg (by omega)] at e3
       exact ⟨by rw [e1, e2, e3, (tyOK_iff (p := p) (op := i.gOp) (k := i.gK)).2 (by omega)]; rfl, S18.nil⟩
      ·skip
       refine J.head (.bool true) (congrArg Value.bool (by rw [fk3]; rfl)) ?_
       have fb5 := htst.2 fk3
       refine J.run 3 K72_15 [(78, .pointer (some ⟨b1, 1, none⟩)), (10, iv (i.gK % 128)), (6, pv b5), (5, pv b4), (4, pv b3)] w14 (by kernel_rfl) ?_
       refine J.ok (OK.ldBox S14 4 79 23 1 (.slice p.gTypes_a p.gTypes_n p.gTypes_c) (by kernel_rfl) rfl (by kernel_rfl)) ?_
       refine J.run 1 K72_16 [(80, iv (i.gK % 128)), (79, .slice p.gTypes_a p.gTypes_n p.gTypes_c), (6, pv b5), (5, pv b4), (4, pv b3)] w14 (by kernel_rfl) ?_
       obtain ⟨p2, hp2, hc2⟩ := q5.at fx0 (i.gK % 128).toNat (by omega)
       have hel2 := getD_Q q6 fx0 (n := (i.gK % 128).toNat) (by have := q5.len_eq; omega)
       obtain ⟨q40, q41, q42, q43, q44, q45, q46, q47, q48, _⟩ := id hel2
       refine J.ok (OK.index 81 23 10 p.gTypes_a p2 p.gTypes_n (i.gK % 128).toNat (i.gK % 128) (p2.add ((i.gK % 128).toNat * 10)) (by kernel_rfl) (by kernel_rfl) hp2 (by omega) (by omega) rfl) ?_
       refine J.ok (OK.ldCells 82 62 (p2.add ((i.gK % 128).toNat * 10)) (fxdC (p.gTypes_l.getD (i.gK % 128).toNat fx0)) (by kernel_rfl) (by kernel_rfl) (by kernel_rfl) (fun j_ v_ hj_ => S14.cell (hc2 j_ v_ hj_))) ?_
       refine J.stBox S14 0 62 0 (.agg (fxdA (p.gTypes_l.getD (i.gK % 128).toNat fx0))) (fxdC (p.gTypes_l.getD (i.gK % 128).toNat fx0)) [box b5 (fxdC (p.gTypes_l.getD (i.gK % 128).toNat fx0)) 62, box b4 kvX10_1 62, box b3 (fxdC (p.gTypes_l.getD (i.gK / 16384).toNat fx0)) 62, box b2 (insC i) 44, box b1 (prgC p) 28] (by kernel_rfl) rfl (by kernel_rfl) (by kernel_rfl) rfl ?_
       intro w19 S19
       refine J.run 2 K72_17 [(6, pv b5), (5, pv b4), (4, pv b3)] w19 (by kernel_rfl) ?_
       refine J.drawPlan (fun w_ => Sep w [box b5 (fxdC (p.gTypes_l.getD (i.gK % 128).toNat fx0)) 62, box b4 kvX10_1 62, box b3 (fxdC (p.gTypes_l.getD (i.gK / 16384).toNat fx0)) 62, box b2 (insC i) 44, box b1 (prgC p) 28] w_) [(0, true), (1, true), (2, true), (3, false), (4, false), (5, false), (6, true)] S19 Tryz.mixed (by kernel_rfl) (planOK_of (T := [(0, some 83, 16), (0, some 84, 32), (0, some 85, 64), (1, none, 9671406556917033397649424), (11, none, 19342813113834066795298848), (31, none, 38685626227668133590597696), (63, some 7, 0)]) (by kernel_rfl) (by kernel_rfl)) ?_
       intro w20 S20
       refine PB.mk S20 ?_
       refine PL.takeOK 0 (fun w_ S_ => OK.ldBox S_ 2 83 62 0 (.agg (fxdA (p.gTypes_l.getD (i.gK / 16384).toNat fx0))) (by kernel_rfl) rfl (by kernel_rfl)) rfl ?_
       refine PL.takeOK 1 (fun w_ S_ => OK.ldBox S_ 1 84 62 0 (.agg kvX10_2) (by kernel_rfl) rfl (by kernel_rfl)) rfl ?_
       refine PL.takeOK 2 (fun w_ S_ => OK.ldBox S_ 0 85 62 0 (.agg (fxdA (p.gTypes_l.getD (i.gK % 128).toNat fx0))) (by kernel_rfl) rfl (by kernel_rfl)) rfl ?_
       refine PL.stBox S20 2 62 0 (.agg (fxdA (p.gTypes_l.getD (i.gK / 16384).toNat fx0))) (fxdC (p.gTypes_l.getD (i.gK / 16384).toNat fx0)) [box b5 (fxdC (p.gTypes_l.getD (i.gK % 128).toNat fx0)) 62, box b4 kvX10_1 62, box b3 (fxdC (p.gTypes_l.getD (i.gK / 16384).toNat fx0)) 62, box b2 (insC i) 44, box b1 (prgC p) 28] (by kernel_rfl) rfl (by kernel_rfl) (by kernel_rfl) rfl ?_
       intro w21 S21
       refine PB.mk S21 ?_
       refine PL.stBox S21 1 62 0 (.agg kvX10_2) kvX10_1 [box b5 (fxdC (p.gTypes_l.getD (i.gK % 128).toNat fx0)) 62, box b4 kvX10_1 62, box b3 (fxdC (p.gTypes_l.getD (i.gK / 16384).toNat fx0)) 62, box b2 (insC i) 44, box b1 (prgC p) 28] (by kernel_rfl) rfl (by kernel_rfl) (by kernel_rfl) rfl ?_
       intro w22 S22
       refine PB.mk S22 ?_
       refine PL.stBox S22 0 62 0 (.agg (fxdA (p.gTypes_l.getD (i.gK % 128).toNat fx0))) (fxdC (p.gTypes_l.getD (i.gK % 128).toNat fx0)) [box b5 (fxdC (p.gTypes_l.getD (i.gK % 128).toNat fx0)) 62, box b4 kvX10_1 62, box b3 (fxdC (p.gTypes_l.getD (i.gK / 16384).toNat fx0)) 62, box b2 (insC i) 44, box b1 (prgC p) 28] (by kernel_rfl) rfl (by kernel_rfl) (by kernel_rfl) rfl ?_
       intro w23 S23
       refine PB.mk S23 ?_
       refine PL.take 6 7 (.bool true) (fun _ _ => by kernel_rfl) ?_
       refine PL.done ?_
       refine J.run 0 (rRest K72_17) [(7, .bool true), (6, pv b5), (5, pv b4), (4, pv b3)] w23 (by kernel_rfl) ?_
       refine J.ret Tryz.f72 [.agg (fxdA (p.gTypes_l.getD (i.gK / 16384).toNat fx0)), .agg kvX10_2, .agg (fxdA (p.gTypes_l.getD (i.gK % 128).toNat fx0)), .bool true] Tryz.func72 ⟨⟨⟨b3, 0, none⟩, by kernel_rfl, ldV_run (S23.nth 2 rfl) (by kernel_rfl)⟩, ⟨⟨b4, 0, none⟩, by kernel_rfl, ldV_run (S23.nth 1 rfl) (by kernel_rfl)⟩, ⟨⟨b5, 0, none⟩, by kernel_rfl, ldV_run (S23.nth 0 rfl) (by kernel_rfl)⟩, by kernel_rfl, trivial⟩ ?_
       refine hR _ _ ?_
       obtain ⟨e1, e2, e3⟩ := ty_yes (p := p) (op := i.gOp) (k := i.gK) ((tyOK_iff (p := p) (op := i.gOp) (k := i.gK)).2 (by omega))
       rw [if_neg (by omega)] at e2
       rw [if_pos (by omega)] at e3
       exact ⟨by rw [e1, e2, e3, (tyOK_iff (p := p) (op := i.gOp) (k := i.gK)).2 (by omega)]; rfl, S23.nil⟩
     ·skip
      refine J.head (.bool true) (congrArg Value.bool (by rw [fk2]; rfl)) ?_
      have fb6 := hton.2 fk2
      refine J.run 3 K72_18 [(71, .pointer (some ⟨b1, 1, none⟩)), (10, iv (i.gK % 128)), (9, iv (i.gK / 128 % 128)), (6, pv b5), (5, pv b4), (4, pv b3), (2, pv b1), (13, .bool tst)] w14 (by kernel_rfl) ?_
      refine J.ok (OK.ldBox S14 4 72 23 1 (.slice p.gTypes_a p.gTypes_n p.gTypes_c) (by kernel_rfl) rfl (by kernel_rfl)) ?_
      refine J.run 1 K72_19 [(73, iv (i.gK / 128 % 128)), (72, .slice p.gTypes_a p.gTypes_n p.gTypes_c), (10, iv (i.gK % 128)), (6, pv b5), (5, pv b4), (4, pv b3), (2, pv b1), (13, .bool tst)] w14 (by kernel_rfl) ?_
      obtain ⟨p3, hp3, hc3⟩ := q5.at fx0 (i.gK / 128 % 128).toNat (by omega)
      have hel3 := getD_Q q6 fx0 (n := (i.gK / 128 % 128).toNat) (by have := q5.len_eq; omega)
      obtain ⟨q49, q50, q51, q52, q53, q54, q55, q56, q57, _⟩ := id hel3
      refine J.ok (OK.index 74 23 10 p.gTypes_a p3 p.gTypes_n (i.gK / 128 % 128).toNat (i.gK / 128 % 128) (p3.add ((i.gK / 128 % 128).toNat * 10)) (by kernel_rfl) (by kernel_rfl) hp3 (by omega) (by omega) rfl) ?_
      refine J.ok (OK.ldCells 75 62 (p3.add ((i.gK / 128 % 128).toNat * 10)) (fxdC (p.gTypes_l.getD (i.gK / 128 % 128).toNat fx0)) (by kernel_rfl) (by kernel_rfl) (by kernel_rfl) (fun j_ v_ hj_ => S14.cell (hc3 j_ v_ hj_))) ?_
      refine J.stBox S14 1 62 0 (.agg (fxdA (p.gTypes_l.getD (i.gK / 128 % 128).toNat fx0))) (fxdC (p.gTypes_l.getD (i.gK / 128 % 128).toNat fx0)) [box b5 kvX10_1 62, box b4 (fxdC (p.gTypes_l.getD (i.gK / 128 % 128).toNat fx0)) 62, box b3 (fxdC (p.gTypes_l.getD (i.gK / 16384).toNat fx0)) 62, box b2 (insC i) 44, box b1 (prgC p) 28] (by kernel_rfl) rfl (by kernel_rfl) (by kernel_rfl) rfl ?_
      intro w24 S24
      refine J.run 7 K72_20 [(77, .bool (!tst)), (10, iv (i.gK % 128)), (6, pv b5), (5, pv b4), (4, pv b3), (2, pv b1)] w24 (by kernel_rfl) ?_
      rcases Bool.eq_false_or_eq_true tst with fk4 | fk4
      ·skip
       refine J.head (.bool false) (congrArg Value.bool (by rw [fk4]; rfl)) ?_
       have fb7 := htst.1 fk4
       refine J.run 3 K72_21 [(6, pv b5), (5, pv b4), (4, pv b3)] w24 (by kernel_rfl) ?_
       refine J.drawPlan (fun w_ => Sep w [box b5 kvX10_1 62, box b4 (fxdC (p.gTypes_l.getD (i.gK / 128 % 128).toNat fx0)) 62, box b3 (fxdC (p.gTypes_l.getD (i.gK / 16384).toNat fx0)) 62, box b2 (insC i) 44, box b1 (prgC p) 28] w_) [(0, true), (1, true), (2, true), (3, false), (4, false), (5, false), (6, true)] S24 Tryz.mixed (by kernel_rfl) (planOK_of (T := [(0, some 83, 16), (0, some 84, 32), (0, some 85, 64), (1, none, 9671406556917033397649424), (11, none, 19342813113834066795298848), (31, none, 38685626227668133590597696), (63, some 7, 0)]) (by kernel_rfl) (by kernel_rfl)) ?_
       intro w25 S25
       refine PB.mk S25 ?_
       refine PL.takeOK 0 (fun w_ S_ => OK.ldBox S_ 2 83 62 0 (.agg (fxdA (p.gTypes_l.getD (i.gK / 16384).toNat fx0))) (by kernel_rfl) rfl (by kernel_rfl)) rfl ?_
       refine PL.takeOK 1 (fun w_ S_ => OK.ldBox S_ 1 84 62 0 (.agg (fxdA (p.gTypes_l.getD (i.gK / 128 % 128).toNat fx0))) (by kernel_rfl) rfl (by kernel_rfl)) rfl ?_
       refine PL.takeOK 2 (fun w_ S_ => OK.ldBox S_ 0 85 62 0 (.agg kvX10_2) (by kernel_rfl) rfl (by kernel_rfl)) rfl ?_
       refine PL.stBox S25 2 62 0 (.agg (fxdA (p.gTypes_l.getD (i.gK / 16384).toNat fx0))) (fxdC (p.gTypes_l.getD (i.gK / 16384).toNat fx0)) [box b5 kvX10_1 62, box b4 (fxdC (p.gTypes_l.getD (i.gK / 128 % 128).toNat fx0)) 62, box b3 (fxdC (p.gTypes_l.getD (i.gK / 16384).toNat fx0)) 62, box b2 (insC i) 44, box b1 (prgC p) 28] (by kernel_rfl) rfl (by kernel_rfl) (by kernel_rfl) rfl ?_
       intro w26 S26
       refine PB.mk S26 ?_
       refine PL.stBox S26 1 62 0 (.agg (fxdA (p.gTypes_l.getD (i.gK / 128 % 128).toNat fx0))) (fxdC (p.gTypes_l.getD (i.gK / 128 % 128).toNat fx0)) [box b5 kvX10_1 62, box b4 (fxdC (p.gTypes_l.getD (i.gK / 128 % 128).toNat fx0)) 62, box b3 (fxdC (p.gTypes_l.getD (i.gK / 16384).toNat fx0)) 62, box b2 (insC i) 44, box b1 (prgC p) 28] (by kernel_rfl) rfl (by kernel_rfl) (by kernel_rfl) rfl ?_
       intro w27 S27
       refine PB.mk S27 ?_
       refine PL.stBox S27 0 62 0 (.agg kvX10_2) kvX10_1 [box b5 kvX10_1 62, box b4 (fxdC (p.gTypes_l.getD (i.gK / 128 % 128).toNat fx0)) 62, box b3 (fxdC (p.gTypes_l.getD (i.gK / 16384).toNat fx0)) 62, box b2 (insC i) 44, box b1 (prgC p) 28] (by kernel_rfl) rfl (by kernel_rfl) (by kernel_rfl) rfl ?_
       intro w28 S28
       refine PB.mk S28 ?_
       refine PL.take 6 7 (.bool true) (fun _ _ => by kernel_rfl) ?_
       refine PL.done ?_
       refine J.run 0 (rRest K72_21) [(7, .bool true), (6, pv b5), (5, pv b4), (4, pv b3)] w28 (by kernel_rfl) ?_
       refine J.ret Tryz.f72 [.agg (fxdA (p.gTypes_l.getD (i.gK / 16384).toNat fx0)), .agg (fxdA (p.gTypes_l.getD (i.gK / 128 % 128).toNat fx0)), .agg kvX10_2, .bool true] Tryz.func72 ⟨⟨⟨b3, 0, none⟩, by kernel_rfl, ldV_run (S28.nth 2 rfl) (by kernel_rfl)⟩, ⟨⟨b4, 0, none⟩, by kernel_rfl, ldV_run (S28.nth 1 rfl) (by kernel_rfl)⟩, ⟨⟨b5, 0, none⟩, by kernel_rfl, ldV_run (S28.nth 0 rfl) (by kernel_rfl)⟩, by kernel_rfl, trivial⟩ ?_
       refine hR _ _ ?_
       obtain ⟨e1, e2, e3⟩ := ty_yes (p := p) (op := i.gOp) (k := i.gK) ((tyOK_iff (p := p) (op := i.gOp) (k := i.gK)).2 (by omega))
       rw [if_pos (by omega)] at e2
       rw [if_neg (by omega)] at e3
       exact ⟨by rw [e1, e2, e3, (tyOK_iff (p := p) (op := i.gOp) (k := i.gK)).2 (by omega)]; rfl, S28.nil⟩
      ·skip
       refine J.head (.bool true) (congrArg Value.bool (by rw [fk4]; rfl)) ?_
       have fb8 := htst.2 fk4
       refine J.run 3 K72_22 [(78, .pointer (some ⟨b1, 1, none⟩)), (10, iv (i.gK % 128)), (6, pv b5), (5, pv b4), (4, pv b3)] w24 (by kernel_rfl) ?_
       refine J.ok (OK.ldBox S24 4 79 23 1 (.slice p.gTypes_a p.gTypes_n p.gTypes_c) (by kernel_rfl) rfl (by kernel_rfl)) ?_
       refine J.run 1 K72_23 [(80, iv (i.gK % 128)), (79, .slice p.gTypes_a p.gTypes_n p.gTypes_c), (6, pv b5), (5, pv b4), (4, pv b3)] w24 (by kernel_rfl) ?_
       obtain ⟨p4, hp4, hc4⟩ := q5.at fx0 (i.gK % 128).toNat (by omega)
       have hel4 := getD_Q q6 fx0 (n := (i.gK % 128).toNat) (by have := q5.len_eq; omega)
       obtain ⟨q58, q59, q60, q61, q62, q63, q64, q65, q66, _⟩ := id hel4
       refine J.ok (OK.index 81 23 10 p.gTypes_a p4 p.gTypes_n (i.gK % 128).toNat (i.gK % 128) (p4.add ((i.gK % 128).toNat * 10)) (by kernel_rfl) (by kernel_rfl) hp4 (by omega) (by omega) rfl) ?_
       refine J.ok (OK.ldCells 82 62 (p4.add ((i.gK % 128).toNat * 10)) (fxdC (p.gTypes_l.getD (i.gK % 128).toNat fx0)) (by kernel_rfl) (by kernel_rfl) (by kernel_rfl) (fun j_ v_ hj_ => S24.cell (hc4 j_ v_ hj_))) ?_
       refine J.stBox S24 0 62 0 (.agg (fxdA (p.gTypes_l.getD (i.gK % 128).toNat fx0))) (fxdC (p.gTypes_l.getD (i.gK % 128).toNat fx0)) [box b5 (fxdC (p.gTypes_l.getD (i.gK % 128).toNat fx0)) 62, box b4 (fxdC (p.gTypes_l.getD (i.gK / 128 % 128).toNat fx0)) 62, box b3 (fxdC (p.gTypes_l.getD (i.gK / 16384).toNat fx0)) 62, box b2 (insC i) 44, box b1 (prgC p) 28] (by kernel_rfl) rfl (by kernel_rfl) (by kernel_rfl) rfl ?_
       intro w29 S29
       refine J.run 2 K72_24 [(6, pv b5), (5, pv b4), (4, pv b3)] w29 (by kernel_rfl) ?_
       refine J.drawPlan (fun w_ => Sep w [box b5 (fxdC (p.gTypes_l.getD (i.gK % 128).toNat fx0)) 62, box b4 (fxdC (p.gTypes_l.getD (i.gK / 128 % 128).toNat fx0)) 62, box b3 (fxdC (p.gTypes_l.getD (i.gK / 16384).toNat fx0)) 62, box b2 (insC i) 44, box b1 (prgC p) 28] w_) [(0, true), (1, true), (2, true), (3, false), (4, false), (5, false), (6, true)] S29 Tryz.mixed (by kernel_rfl) (planOK_of (T := [(0, some 83, 16), (0, some 84, 32), (0, some 85, 64), (1, none, 9671406556917033397649424), (11, none, 19342813113834066795298848), (31, none, 38685626227668133590597696), (63, some 7, 0)]) (by kernel_rfl) (by kernel_rfl)) ?_
       intro w30 S30
       refine PB.mk S30 ?_
       refine PL.takeOK 0 (fun w_ S_ => OK.ldBox S_ 2 83 62 0 (.agg (fxdA (p.gTypes_l.getD (i.gK / 16384).toNat fx0))) (by kernel_rfl) rfl (by kernel_rfl)) rfl ?_
       refine PL.takeOK 1 (fun w_ S_ => OK.ldBox S_ 1 84 62 0 (.agg (fxdA (p.gTypes_l.getD (i.gK / 128 % 128).toNat fx0))) (by kernel_rfl) rfl (by kernel_rfl)) rfl ?_
       refine PL.takeOK 2 (fun w_ S_ => OK.ldBox S_ 0 85 62 0 (.agg (fxdA (p.gTypes_l.getD (i.gK % 128).toNat fx0))) (by kernel_rfl) rfl (by kernel_rfl)) rfl ?_
       refine PL.stBox S30 2 62 0 (.agg (fxdA (p.gTypes_l.getD (i.gK / 16384).toNat fx0))) (fxdC (p.gTypes_l.getD (i.gK / 16384).toNat fx0)) [box b5 (fxdC (p.gTypes_l.getD (i.gK % 128).toNat fx0)) 62, box b4 (fxdC (p.gTypes_l.getD (i.gK / 128 % 128).toNat fx0)) 62, box b3 (fxdC (p.gTypes_l.getD (i.gK / 16384).toNat fx0)) 62, box b2 (insC i) 44, box b1 (prgC p) 28] (by kernel_rfl) rfl (by kernel_rfl) (by kernel_rfl) rfl ?_
       intro w31 S31
       refine PB.mk S31 ?_
       refine PL.stBox S31 1 62 0 (.agg (fxdA (p.gTypes_l.getD (i.gK / 128 % 128).toNat fx0))) (fxdC (p.gTypes_l.getD (i.gK / 128 % 128).toNat fx0)) [box b5 (fxdC (p.gTypes_l.getD (i.gK % 128).toNat fx0)) 62, box b4 (fxdC (p.gTypes_l.getD (i.gK / 128 % 128).toNat fx0)) 62, box b3 (fxdC (p.gTypes_l.getD (i.gK / 16384).toNat fx0)) 62, box b2 (insC i) 44, box b1 (prgC p) 28] (by kernel_rfl) rfl (by kernel_rfl) (by kernel_rfl) rfl ?_
       intro w32 S32
       refine PB.mk S32 ?_
       refine PL.stBox S32 0 62 0 (.agg (fxdA (p.gTypes_l.getD (i.gK % 128).toNat fx0))) (fxdC (p.gTypes_l.getD (i.gK % 128).toNat fx0)) [box b5 (fxdC (p.gTypes_l.getD (i.gK % 128).toNat fx0)) 62, box b4 (fxdC (p.gTypes_l.getD (i.gK / 128 % 128).toNat fx0)) 62, box b3 (fxdC (p.gTypes_l.getD (i.gK / 16384).toNat fx0)) 62, box b2 (insC i) 44, box b1 (prgC p) 28] (by kernel_rfl) rfl (by kernel_rfl) (by kernel_rfl) rfl ?_
       intro w33 S33
       refine PB.mk S33 ?_
       refine PL.take 6 7 (.bool true) (fun _ _ => by kernel_rfl) ?_
       refine PL.done ?_
       refine J.run 0 (rRest K72_24) [(7, .bool true), (6, pv b5), (5, pv b4), (4, pv b3)] w33 (by kernel_rfl) ?_
       refine J.ret Tryz.f72 [.agg (fxdA (p.gTypes_l.getD (i.gK / 16384).toNat fx0)), .agg (fxdA (p.gTypes_l.getD (i.gK / 128 % 128).toNat fx0)), .agg (fxdA (p.gTypes_l.getD (i.gK % 128).toNat fx0)), .bool true] Tryz.func72 ⟨⟨⟨b3, 0, none⟩, by kernel_rfl, ldV_run (S33.nth 2 rfl) (by kernel_rfl)⟩, ⟨⟨b4, 0, none⟩, by kernel_rfl, ldV_run (S33.nth 1 rfl) (by kernel_rfl)⟩, ⟨⟨b5, 0, none⟩, by kernel_rfl, ldV_run (S33.nth 0 rfl) (by kernel_rfl)⟩, by kernel_rfl, trivial⟩ ?_
       refine hR _ _ ?_
       obtain ⟨e1, e2, e3⟩ := ty_yes (p := p) (op := i.gOp) (k := i.gK) ((tyOK_iff (p := p) (op := i.gOp) (k := i.gK)).2 (by omega))
       rw [if_pos (by omega)] at e2
       rw [if_pos (by omega)] at e3
       exact ⟨by rw [e1, e2, e3, (tyOK_iff (p := p) (op := i.gOp) (k := i.gK)).2 (by omega)]; rfl, S33.nil⟩
   refine J.run 5 K72_25 [(43, .bool (decide ((i.gK / 16384) ≥ (p.gTypes_n : Int)))), (11, iv (p.gTypes_n : Int)), (10, iv (i.gK % 128)), (9, iv (i.gK / 128 % 128)), (8, iv (i.gK / 16384)), (6, pv b5), (5, pv b4), (4, pv b3), (2, pv b1), (12, .bool ton), (13, .bool tst)] w8 (by kernel_rfl) ?_
   by_cases fk5 : (i.gK / 16384) ≥ (p.gTypes_n : Int)
   ·skip
    refine J.head (.bool true) (congrArg Value.bool (decide_eq_true fk5)) ?_
    refine J.run 18 K72_8 [(10, iv (i.gK % 128)), (9, iv (i.gK / 128 % 128)), (8, iv (i.gK / 16384)), (6, pv b5), (5, pv b4), (4, pv b3), (2, pv b1), (12, .bool ton), (13, .bool tst), (60, .bool true)] w8 (by kernel_rfl) ?_
    exact X3 true w8 (⟨fun h_ => by first | (cases h_; done) | (have h2_ := of_decide_eq_true h_; omega) | omega, fun h_ => by first | (cases h_; done) | (have h2_ := of_decide_eq_false h_; omega) | omega⟩) S8
   ·skip
    refine J.head (.bool false) (congrArg Value.bool (decide_eq_false fk5)) ?_
    refine J.run 3 K72_26 [(46, .bool (!ton)), (43, .bool false), (11, iv (p.gTypes_n : Int)), (10, iv (i.gK % 128)), (9, iv (i.gK / 128 % 128)), (8, iv (i.gK / 16384)), (6, pv b5), (5, pv b4), (4, pv b3), (2, pv b1), (12, .bool ton), (13, .bool tst)] w8 (by kernel_rfl) ?_
    rcases Bool.eq_false_or_eq_true ton with fk6 | fk6
    ·skip
     refine J.head (.bool false) (congrArg Value.bool (by rw [fk6]; rfl)) ?_
     have fb9 := hton.1 fk6
     refine J.run 9 K72_27 [(55, .bool (!tst)), (52, .bool false), (11, iv (p.gTypes_n : Int)), (10, iv (i.gK % 128)), (9, iv (i.gK / 128 % 128)), (8, iv (i.gK / 16384)), (6, pv b5), (5, pv b4), (4, pv b3), (2, pv b1), (12, .bool ton), (13, .bool tst)] w8 (by kernel_rfl) ?_
     rcases Bool.eq_false_or_eq_true tst with fk7 | fk7
     ·skip
      refine J.head (.bool false) (congrArg Value.bool (by rw [fk7]; rfl)) ?_
      have fb10 := htst.1 fk7
      refine J.run 6 K72_8 [(10, iv (i.gK % 128)), (9, iv (i.gK / 128 % 128)), (8, iv (i.gK / 16384)), (6, pv b5), (5, pv b4), (4, pv b3), (2, pv b1), (12, .bool ton), (13, .bool tst), (60, .bool false)] w8 (by kernel_rfl) ?_
      exact X3 false w8 (⟨fun h_ => by first | (cases h_; done) | (have h2_ := of_decide_eq_true h_; omega) | omega, fun h_ => by first | (cases h_; done) | (have h2_ := of_decide_eq_false h_; omega) | omega⟩) S8
     ·skip
      refine J.head (.bool true) (congrArg Value.bool (by rw [fk7]; rfl)) ?_
      have fb11 := htst.2 fk7
      refine J.run 6 K72_8 [(10, iv (i.gK % 128)), (9, iv (i.gK / 128 % 128)), (8, iv (i.gK / 16384)), (6, pv b5), (5, pv b4), (4, pv b3), (2, pv b1), (12, .bool ton), (13, .bool tst), (60, .bool (decide ((i.gK % 128) ≥ (p.gTypes_n : Int))))] w8 (by kernel_rfl) ?_
      exact X3 (decide ((i.gK % 128) ≥ (p.gTypes_n : Int))) w8 (⟨fun h_ => by first | (cases h_; done) | (have h2_ := of_decide_eq_true h_; omega) | omega, fun h_ => by first | (cases h_; done) | (have h2_ := of_decide_eq_false h_; omega) | omega⟩) S8
    ·skip
     refine J.head (.bool true) (congrArg Value.bool (by rw [fk6]; rfl)) ?_
     have fb12 := hton.2 fk6
     refine J.run 6 K72_28 [(52, .bool (decide ((i.gK / 128 % 128) ≥ (p.gTypes_n : Int)))), (11, iv (p.gTypes_n : Int)), (10, iv (i.gK % 128)), (9, iv (i.gK / 128 % 128)), (8, iv (i.gK / 16384)), (6, pv b5), (5, pv b4), (4, pv b3), (2, pv b1), (12, .bool ton), (13, .bool tst)] w8 (by kernel_rfl) ?_
     by_cases fk8 : (i.gK / 128 % 128) ≥ (p.gTypes_n : Int)
     ·skip
      refine J.head (.bool true) (congrArg Value.bool (decide_eq_true fk8)) ?_
      refine J.run 9 K72_8 [(10, iv (i.gK % 128)), (9, iv (i.gK / 128 % 128)), (8, iv (i.gK / 16384)), (6, pv b5), (5, pv b4), (4, pv b3), (2, pv b1), (12, .bool ton), (13, .bool tst), (60, .bool true)] w8 (by kernel_rfl) ?_
      exact X3 true w8 (⟨fun h_ => by first | (cases h_; done) | (have h2_ := of_decide_eq_true h_; omega) | omega, fun h_ => by first | (cases h_; done) | (have h2_ := of_decide_eq_false h_; omega) | omega⟩) S8
     ·skip
      refine J.head (.bool false) (congrArg Value.bool (decide_eq_false fk8)) ?_
      refine J.run 3 K72_29 [(55, .bool (!tst)), (52, .bool false), (11, iv (p.gTypes_n : Int)), (10, iv (i.gK % 128)), (9, iv (i.gK / 128 % 128)), (8, iv (i.gK / 16384)), (6, pv b5), (5, pv b4), (4, pv b3), (2, pv b1), (12, .bool ton), (13, .bool tst)] w8 (by kernel_rfl) ?_
      rcases Bool.eq_false_or_eq_true tst with fk9 | fk9
      ·skip
       refine J.head (.bool false) (congrArg Value.bool (by rw [fk9]; rfl)) ?_
       have fb13 := htst.1 fk9
       refine J.run 6 K72_8 [(10, iv (i.gK % 128)), (9, iv (i.gK / 128 % 128)), (8, iv (i.gK / 16384)), (6, pv b5), (5, pv b4), (4, pv b3), (2, pv b1), (12, .bool ton), (13, .bool tst), (60, .bool false)] w8 (by kernel_rfl) ?_
       exact X3 false w8 (⟨fun h_ => by first | (cases h_; done) | (have h2_ := of_decide_eq_true h_; omega) | omega, fun h_ => by first | (cases h_; done) | (have h2_ := of_decide_eq_false h_; omega) | omega⟩) S8
      ·skip
       refine J.head (.bool true) (congrArg Value.bool (by rw [fk9]; rfl)) ?_
       have fb14 := htst.2 fk9
       refine J.run 6 K72_8 [(10, iv (i.gK % 128)), (9, iv (i.gK / 128 % 128)), (8, iv (i.gK / 16384)), (6, pv b5), (5, pv b4), (4, pv b3), (2, pv b1), (12, .bool ton), (13, .bool tst), (60, .bool (decide ((i.gK % 128) ≥ (p.gTypes_n : Int))))] w8 (by kernel_rfl) ?_
       exact X3 (decide ((i.gK % 128) ≥ (p.gTypes_n : Int))) w8 (⟨fun h_ => by first | (cases h_; done) | (have h2_ := of_decide_eq_true h_; omega) | omega, fun h_ => by first | (cases h_; done) | (have h2_ := of_decide_eq_false h_; omega) | omega⟩) S8
  refine J.run 2 K72_30 [(32, pv b2), (11, iv (p.gTypes_n : Int)), (10, iv (i.gK % 128)), (9, iv (i.gK / 128 % 128)), (8, iv (i.gK / 16384)), (6, pv b5), (5, pv b4), (4, pv b3), (3, pv b2), (2, pv b1), (12, .bool ton)] w7 (by kernel_rfl) ?_
  refine J.ok (OK.ldBox S7 3 33 3 0 (iv i.gOp) (by kernel_rfl) rfl (by kernel_rfl)) ?_
  refine J.run 2 K72_31 [(35, .bool (i.gOp == 13)), (11, iv (p.gTypes_n : Int)), (10, iv (i.gK % 128)), (9, iv (i.gK / 128 % 128)), (8, iv (i.gK / 16384)), (6, pv b5), (5, pv b4), (4, pv b3), (3, pv b2), (2, pv b1), (12, .bool ton)] w7 (by kernel_rfl) ?_
  by_cases fk10 : i.gOp = 13
  ·skip
   refine J.head (.bool true) (congrArg Value.bool (beq_iff_eq.2 fk10)) ?_
   refine J.run 6 K72_6 [(11, iv (p.gTypes_n : Int)), (10, iv (i.gK % 128)), (9, iv (i.gK / 128 % 128)), (8, iv (i.gK / 16384)), (6, pv b5), (5, pv b4), (4, pv b3), (2, pv b1), (12, .bool ton), (13, .bool true)] w7 (by kernel_rfl) ?_
   exact X2 true w7 (⟨fun h_ => by first | (cases h_; done) | (have h2_ := beq_iff_eq.1 h_; omega) | omega, fun h_ => by first | (cases h_; done) | (have h2_ := beq_eq_false_iff_ne.1 h_; omega) | omega⟩) S7
  ·skip
   refine J.head (.bool false) (congrArg Value.bool (beq_eq_false_iff_ne.2 fk10)) ?_
   refine J.run 1 K72_32 [(36, pv b2), (35, .bool false), (11, iv (p.gTypes_n : Int)), (10, iv (i.gK % 128)), (9, iv (i.gK / 128 % 128)), (8, iv (i.gK / 16384)), (6, pv b5), (5, pv b4), (4, pv b3), (2, pv b1), (12, .bool ton)] w7 (by kernel_rfl) ?_
   refine J.ok (OK.ldBox S7 3 37 3 0 (iv i.gOp) (by kernel_rfl) rfl (by kernel_rfl)) ?_
   refine J.run 4 K72_6 [(11, iv (p.gTypes_n : Int)), (10, iv (i.gK % 128)), (9, iv (i.gK / 128 % 128)), (8, iv (i.gK / 16384)), (6, pv b5), (5, pv b4), (4, pv b3), (2, pv b1), (12, .bool ton), (13, .bool (i.gOp == 14))] w7 (by kernel_rfl) ?_
   exact X2 (i.gOp == 14) w7 (⟨fun h_ => by first | (cases h_; done) | (have h2_ := beq_iff_eq.1 h_; omega) | omega, fun h_ => by first | (cases h_; done) | (have h2_ := beq_eq_false_iff_ne.1 h_; omega) | omega⟩) S7
 refine J.run 2 K72_33 [(24, pv b2), (11, iv (p.gTypes_n : Int)), (10, iv (i.gK % 128)), (9, iv (i.gK / 128 % 128)), (8, iv (i.gK / 16384)), (6, pv b5), (5, pv b4), (4, pv b3), (3, pv b2), (2, pv b1)] w6 (by kernel_rfl) ?_
 refine J.ok (OK.ldBox S6 3 25 3 0 (iv i.gOp) (by kernel_rfl) rfl (by kernel_rfl)) ?_
 refine J.run 2 K72_34 [(27, .bool (i.gOp == 9)), (11, iv (p.gTypes_n : Int)), (10, iv (i.gK % 128)), (9, iv (i.gK / 128 % 128)), (8, iv (i.gK / 16384)), (6, pv b5), (5, pv b4), (4, pv b3), (3, pv b2), (2, pv b1)] w6 (by kernel_rfl) ?_
 by_cases fk11 : i.gOp = 9
 ·skip
  refine J.head (.bool true) (congrArg Value.bool (beq_iff_eq.2 fk11)) ?_
  refine J.run 6 K72_4 [(11, iv (p.gTypes_n : Int)), (10, iv (i.gK % 128)), (9, iv (i.gK / 128 % 128)), (8, iv (i.gK / 16384)), (6, pv b5), (5, pv b4), (4, pv b3), (3, pv b2), (2, pv b1), (12, .bool true)] w6 (by kernel_rfl) ?_
  exact X1 true w6 (⟨fun h_ => by first | (cases h_; done) | (have h2_ := beq_iff_eq.1 h_; omega) | omega, fun h_ => by first | (cases h_; done) | (have h2_ := beq_eq_false_iff_ne.1 h_; omega) | omega⟩) S6
 ·skip
  refine J.head (.bool false) (congrArg Value.bool (beq_eq_false_iff_ne.2 fk11)) ?_
  refine J.run 1 K72_35 [(28, pv b2), (27, .bool false), (11, iv (p.gTypes_n : Int)), (10, iv (i.gK % 128)), (9, iv (i.gK / 128 % 128)), (8, iv (i.gK / 16384)), (6, pv b5), (5, pv b4), (4, pv b3), (3, pv b2), (2, pv b1)] w6 (by kernel_rfl) ?_
  refine J.ok (OK.ldBox S6 3 29 3 0 (iv i.gOp) (by kernel_rfl) rfl (by kernel_rfl)) ?_
  refine J.run 4 K72_4 [(11, iv (p.gTypes_n : Int)), (10, iv (i.gK % 128)), (9, iv (i.gK / 128 % 128)), (8, iv (i.gK / 16384)), (6, pv b5), (5, pv b4), (4, pv b3), (3, pv b2), (2, pv b1), (12, .bool (i.gOp == 10))] w6 (by kernel_rfl) ?_
  exact X1 (i.gOp == 10) w6 (⟨fun h_ => by first | (cases h_; done) | (have h2_ := beq_iff_eq.1 h_; omega) | omega, fun h_ => by first | (cases h_; done) | (have h2_ := beq_eq_false_iff_ne.1 h_; omega) | omega⟩) S6

end Go.Proofs.YthfpejhonhaggaaGreatDoor

