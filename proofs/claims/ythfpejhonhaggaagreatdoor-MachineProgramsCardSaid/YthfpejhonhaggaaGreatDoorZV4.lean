/- Walks of functions of this seat, printed by a program over the engine. Conditions: as each theorem says. -/
import Derived.Test.YthfpejhonhaggaaGreatDoorZV3
namespace Go.Proofs.YthfpejhonhaggaaGreatDoor
open Go.Eng Go.RowKit
set_option linter.unusedSimpArgs false
set_option linter.unusedVariables false
abbrev kvV4_1 : List Value := [iv 0, iv 0, iv 0, iv 0, iv 0]
noncomputable def K86a_0 : List Item := adv 2 [] (bodyOf Tryz.f86)
noncomputable def K86a_1 : List Item := adv 5 [] (popK (popK (popK K86a_0)))
noncomputable def K86a_2 : List Item := adv 2 [] (popK (popK K86a_1))
noncomputable def K86a_3 : List Item := adv 3 [] (popK (popK K86a_2))
noncomputable def K86a_4 : List Item := adv 3 [false] K86a_3
noncomputable def K86a_5 : List Item := adv 17 [true] (rRest K86a_4)
noncomputable def K86a_6 : List Item := adv 7 [] (rRest K86a_5)
noncomputable def K86a_7 : List Item := adv 10 [true] K86a_6
noncomputable def K86a_8 : List Item := adv 7 [] (rRest K86a_7)
noncomputable def K86a_9 : List Item := adv 10 [true] K86a_8
noncomputable def K86a_10 : List Item := adv 7 [] (rRest K86a_9)
noncomputable def K86a_11 : List Item := adv 10 [true] K86a_10
noncomputable def K86a_12 : List Item := adv 7 [] (rRest K86a_11)
noncomputable def K86a_13 : List Item := adv 10 [true] K86a_12
noncomputable def K86a_14 : List Item := adv 7 [] (rRest K86a_13)
noncomputable def K86a_15 : List Item := adv 11 [false] K86a_14
noncomputable def K86a_16 : List Item := adv 4 [] (popK (popK (popK K86a_15)))
noncomputable def K86a_17 : List Item := adv 2 [] (popK (popK K86a_16))
noncomputable def K86a_18 : List Item := adv 4 [false] K86a_17
noncomputable def K86a_19 : List Item := adv 2 [] (popK (popK K86a_18))
noncomputable def K86a_20 : List Item := adv 4 [true] K86a_17
noncomputable def K86a_21 : List Item := adv 2 [] (popK K86a_20)
noncomputable def K86a_22 : List Item := adv 4 [true] K86a_3
noncomputable def K86a_23 : List Item := adv 2 [] (popK K86a_22)
noncomputable def K86a_24 : List Item := adv 9 [true] K86a_2
noncomputable def K86a_25 : List Item := adv 2 [] (popK K86a_24)
set_option maxRecDepth 20000 in
set_option maxHeartbeats 20000000 in
theorem rucombm_any (a b : Unt) (w : World) : Ret Tryz.prog 86 #[.agg (untA a), .agg (untA b), iv (-1)] w (fun v w' => v = .tuple #[.agg #[iv (unX a b (-1)).gM, iv (unX a b (-1)).gKg, iv (unX a b (-1)).gS, iv (unX a b (-1)).gA, iv (unX a b (-1)).gK], iv (unE a b (-1))] ∧ Sep w [] w') := by
 have S0 := Sep.refl w
 refine Ret.named fun R hR => ?_
 refine Ret.of_J (N := 50) [(0, .agg (untA a)), (1, .agg (untA b)), (2, iv (-1))] Tryz.func86 rfl rfl (Nat.le_of_ble_eq_true (by kernel_rfl)) (by kernel_rfl) ?_
 refine J.run 2 K86a_0 [(0, .agg (untA a)), (1, .agg (untA b)), (2, iv (-1))] w (by kernel_rfl) ?_
 refine J.new S0 3 (untC a) 60 (by kernel_rfl) ?_
 intro b1 w1 S1
 refine J.new S1 4 (untC b) 60 (by kernel_rfl) ?_
 intro b2 w2 S2
 refine J.new S2 6 kvV4_1 60 (by kernel_rfl) ?_
 intro b3 w3 S3
 refine J.run 5 K86a_1 [(6, pv b3), (4, pv b2), (3, pv b1), (2, iv (-1))] w3 (by kernel_rfl) ?_
 refine J.ok (OK.ldBox S3 2 12 60 0 (.agg (untA a)) (by kernel_rfl) rfl (by kernel_rfl)) ?_
 refine J.callF 13 103 #[.agg (untA a)] hb103 (by kernel_rfl) (ruvalid_any a _) ?_
 rintro _ w4 ⟨rfl, T1⟩
 have S4 : Sep w [box b3 kvV4_1 60, box b2 (untC b) 60, box b1 (untC a) 60] w4 := S3.trans T1
 clear T1 S3
 refine J.run 2 K86a_2 [(15, .bool (!(unB a))), (6, pv b3), (4, pv b2), (3, pv b1), (2, iv (-1))] w4 (by kernel_rfl) ?_
 rcases Bool.eq_false_or_eq_true (unB a) with fk1 | fk1
 ·skip
  refine J.head (.bool false) (congrArg Value.bool (by rw [fk1]; rfl)) ?_
  have fb1 := unB_iff.1 fk1
  try dsimp only at fb1
  refine J.ok (OK.ldBox S4 1 16 60 0 (.agg (untA b)) (by kernel_rfl) rfl (by kernel_rfl)) ?_
  refine J.callF 17 103 #[.agg (untA b)] hb103 (by kernel_rfl) (ruvalid_any b _) ?_
  rintro _ w5 ⟨rfl, T2⟩
  have S5 : Sep w [box b3 kvV4_1 60, box b2 (untC b) 60, box b1 (untC a) 60] w5 := S4.trans T2
  clear T2 S4
  refine J.run 3 K86a_3 [(19, .bool (!(unB b))), (6, pv b3), (4, pv b2), (3, pv b1), (2, iv (-1))] w5 (by kernel_rfl) ?_
  rcases Bool.eq_false_or_eq_true (unB b) with fk2 | fk2
  ·skip
   refine J.head (.bool false) (congrArg Value.bool (by rw [fk2]; rfl)) ?_
   have fb2 := unB_iff.1 fk2
   try dsimp only at fb2
   refine J.run 3 K86a_4 [(6, pv b3), (4, pv b2), (3, pv b1), (2, iv (-1))] w5 (by kernel_rfl) ?_
   refine J.drawPlan (fun w_ => Sep w [box b3 kvV4_1 60, box b2 (untC b) 60, box b1 (untC a) 60] w_) [(0, true), (2, true), (1, false), (3, false), (4, true), (5, true)] S5 Tryz.mixed (by kernel_rfl) (planOK_of (T := [(0, some 21, 8), (1, some 22, 2097152), (0, some 23, 16), (6, some 24, 8388608), (11, some 8, 4194304), (31, some 9, 16777216)]) (by kernel_rfl) (by kernel_rfl)) ?_
   intro w6 S6
   refine PB.mk S6 ?_
   refine PL.takeOK 0 (fun w_ S_ => OK.ldBox S_ 2 21 60 0 (.agg (untA a)) (by kernel_rfl) rfl (by kernel_rfl)) rfl ?_
   refine PL.takeOK 2 (fun w_ S_ => OK.ldBox S_ 1 23 60 0 (.agg (untA b)) (by kernel_rfl) rfl (by kernel_rfl)) rfl ?_
   refine PL.callF 22 104 #[.agg (untA a)] hb104 (by kernel_rfl) (list_any a _) ?_
   rintro _ w7 ⟨bd1, rfl, T3⟩
   have S7 : Sep w [box bd1 (untC a) 3, box b3 kvV4_1 60, box b2 (untC b) 60, box b1 (untC a) 60] w7 := S6.trans T3
   clear T3 S6
   refine PB.mk (S7.erase 0) ?_
   refine PL.callF 24 104 #[.agg (untA b)] hb104 (by kernel_rfl) (list_any b _) ?_
   rintro _ w8 ⟨bd3, rfl, T4⟩
   have S8 : Sep w [box bd3 (untC b) 3, box bd1 (untC a) 3, box b3 kvV4_1 60, box b2 (untC b) 60, box b1 (untC a) 60] w8 := S7.trans T4
   clear T4 S7
   refine PB.mk ((S8.erase 1).erase 0) ?_
   refine PL.take 4 8 (.slice (some ⟨bd1, 0, none⟩) 5 5) (fun _ _ => by kernel_rfl) ?_
   refine PL.take 5 9 (.slice (some ⟨bd3, 0, none⟩) 5 5) (fun _ _ => by kernel_rfl) ?_
   refine PL.done ?_
   refine J.run 0 (rRest K86a_4) [(9, .slice (some ⟨bd3, 0, none⟩) 5 5), (8, .slice (some ⟨bd1, 0, none⟩) 5 5), (6, pv b3), (2, iv (-1))] w8 (by kernel_rfl) ?_
   refine J.run 17 K86a_5 [(10, iv 0), (9, .slice (some ⟨bd3, 0, none⟩) 5 5), (8, .slice (some ⟨bd1, 0, none⟩) 5 5), (6, pv b3), (2, iv (-1))] w8 (by kernel_rfl) ?_
   obtain ⟨p1, hp1, hc1⟩ := (box_ints [a.gM, a.gKg, a.gS, a.gA, a.gK] (S8.nth 1 rfl) rfl 5 rfl).at 0 0 (by omega)
   obtain ⟨p2, hp2, hc2⟩ := (box_ints [b.gM, b.gKg, b.gS, b.gA, b.gK] (S8.nth 0 rfl) rfl 5 rfl).at 0 0 (by omega)
   refine J.drawTail S8 14 Tryz.mixed (by kernel_rfl) (by kernel_rfl) ?_
   intro w9 S9
   refine SL.ok (by decide) (OK.run 29 (.slice (some ⟨bd1, 0, none⟩) 5 5) (by kernel_rfl)) ?_
   refine SL.ok (by decide) (OK.run 30 (iv 0) (by kernel_rfl)) ?_
   refine SL.ok (by decide) (OK.run 31 (.slice (some ⟨bd1, 0, none⟩) 5 5) (by kernel_rfl)) ?_
   refine SL.ok (by decide) (OK.run 32 (iv 0) (by kernel_rfl)) ?_
   refine SL.ok (by decide) (OK.index 33 26 1 (some ⟨bd1, 0, none⟩) ⟨bd1, 0, none⟩ 5 0 0 ⟨bd1, 0, none⟩ (by kernel_rfl) (by kernel_rfl) rfl (by omega) (by omega) (by rfl)) ?_
   refine SL.ok (by decide) (OK.ldBox S9 1 34 3 0 (iv a.gM) (by kernel_rfl) rfl (by kernel_rfl)) ?_
   refine SL.ok (by decide) (OK.run 35 (iv (-1)) (by kernel_rfl)) ?_
   refine SL.ok (by decide) (OK.run 36 (.slice (some ⟨bd3, 0, none⟩) 5 5) (by kernel_rfl)) ?_
   refine SL.ok (by decide) (OK.run 37 (iv 0) (by kernel_rfl)) ?_
   refine SL.ok (by decide) (OK.index 38 26 1 (some ⟨bd3, 0, none⟩) ⟨bd3, 0, none⟩ 5 0 0 ⟨bd3, 0, none⟩ (by kernel_rfl) (by kernel_rfl) rfl (by omega) (by omega) (by rfl)) ?_
   refine SL.ok (by decide) (OK.ldBox S9 0 39 3 0 (iv b.gM) (by kernel_rfl) rfl (by kernel_rfl)) ?_
   refine SL.ok (by decide) (OK.run 40 (iv (IntKind.wrap .i64 ((-1) * b.gM))) (by kernel_rfl)) ?_
   refine SL.head (iv ((-1) * b.gM)) (congrArg (Value.int .i64) (IntWalk.i64_in _ (by omega))) ?_
   refine SL.ok (by decide) (OK.run 41 (iv (IntKind.wrap .i64 (a.gM + ((-1) * b.gM)))) (by kernel_rfl)) ?_
   refine SL.head (iv (a.gM + ((-1) * b.gM))) (congrArg (Value.int .i64) (IntWalk.i64_in _ (by omega))) ?_
   refine SL.ok (by decide) (OK.index 42 26 1 (some ⟨bd1, 0, none⟩) ⟨bd1, 0, none⟩ 5 0 0 ⟨bd1, 0, none⟩ (by kernel_rfl) (by kernel_rfl) rfl (by omega) (by omega) (by rfl)) ?_
   refine SL.done ?_
   refine TL.stBox S9 1 3 0 (iv (a.gM + ((-1) * b.gM))) [iv (a.gM + ((-1) * b.gM)), iv a.gKg, iv a.gS, iv a.gA, iv a.gK] [box bd3 (untC b) 3, box bd1 [iv (a.gM + ((-1) * b.gM)), iv a.gKg, iv a.gS, iv a.gA, iv a.gK] 3, box b3 kvV4_1 60, box b2 (untC b) 60, box b1 (untC a) 60] (by kernel_rfl) rfl (by kernel_rfl) (by kernel_rfl) rfl ?_
   intro w10 S10
   refine TL.done (by kernel_rfl) ?_
   refine J.run 0 (rRest K86a_5) [(10, iv 0), (9, .slice (some ⟨bd3, 0, none⟩) 5 5), (8, .slice (some ⟨bd1, 0, none⟩) 5 5), (6, pv b3), (2, iv (-1))] w10 (by kernel_rfl) ?_
   refine J.run 7 K86a_6 [(10, iv 1), (9, .slice (some ⟨bd3, 0, none⟩) 5 5), (8, .slice (some ⟨bd1, 0, none⟩) 5 5), (6, pv b3), (2, iv (-1))] w10 (by kernel_rfl) ?_
   refine J.run 10 K86a_7 [(10, iv 1), (9, .slice (some ⟨bd3, 0, none⟩) 5 5), (8, .slice (some ⟨bd1, 0, none⟩) 5 5), (6, pv b3), (2, iv (-1))] w10 (by kernel_rfl) ?_
   obtain ⟨p3, hp3, hc3⟩ := (box_ints [(a.gM + ((-1) * b.gM)), a.gKg, a.gS, a.gA, a.gK] (S10.nth 1 rfl) rfl 5 rfl).at 0 1 (by omega)
   obtain ⟨p4, hp4, hc4⟩ := (box_ints [b.gM, b.gKg, b.gS, b.gA, b.gK] (S10.nth 0 rfl) rfl 5 rfl).at 0 1 (by omega)
   refine J.drawTail S10 14 Tryz.mixed (by kernel_rfl) (by kernel_rfl) ?_
   intro w11 S11
   refine SL.ok (by decide) (OK.run 29 (.slice (some ⟨bd1, 0, none⟩) 5 5) (by kernel_rfl)) ?_
   refine SL.ok (by decide) (OK.run 30 (iv 1) (by kernel_rfl)) ?_
   refine SL.ok (by decide) (OK.run 31 (.slice (some ⟨bd1, 0, none⟩) 5 5) (by kernel_rfl)) ?_
   refine SL.ok (by decide) (OK.run 32 (iv 1) (by kernel_rfl)) ?_
   refine SL.ok (by decide) (OK.index 33 26 1 (some ⟨bd1, 0, none⟩) ⟨bd1, 0, none⟩ 5 1 1 ⟨bd1, 1, none⟩ (by kernel_rfl) (by kernel_rfl) rfl (by omega) (by omega) (by rfl)) ?_
   refine SL.ok (by decide) (OK.ldBox S11 1 34 3 1 (iv a.gKg) (by kernel_rfl) rfl (by kernel_rfl)) ?_
   refine SL.ok (by decide) (OK.run 35 (iv (-1)) (by kernel_rfl)) ?_
   refine SL.ok (by decide) (OK.run 36 (.slice (some ⟨bd3, 0, none⟩) 5 5) (by kernel_rfl)) ?_
   refine SL.ok (by decide) (OK.run 37 (iv 1) (by kernel_rfl)) ?_
   refine SL.ok (by decide) (OK.index 38 26 1 (some ⟨bd3, 0, none⟩) ⟨bd3, 0, none⟩ 5 1 1 ⟨bd3, 1, none⟩ (by kernel_rfl) (by kernel_rfl) rfl (by omega) (by omega) (by rfl)) ?_
   refine SL.ok (by decide) (OK.ldBox S11 0 39 3 1 (iv b.gKg) (by kernel_rfl) rfl (by kernel_rfl)) ?_
   refine SL.ok (by decide) (OK.run 40 (iv (IntKind.wrap .i64 ((-1) * b.gKg))) (by kernel_rfl)) ?_
   refine SL.head (iv ((-1) * b.gKg)) (congrArg (Value.int .i64) (IntWalk.i64_in _ (by omega))) ?_
   refine SL.ok (by decide) (OK.run 41 (iv (IntKind.wrap .i64 (a.gKg + ((-1) * b.gKg)))) (by kernel_rfl)) ?_
   refine SL.head (iv (a.gKg + ((-1) * b.gKg))) (congrArg (Value.int .i64) (IntWalk.i64_in _ (by omega))) ?_
   refine SL.ok (by decide) (OK.index 42 26 1 (some ⟨bd1, 0, none⟩) ⟨bd1, 0, none⟩ 5 1 1 ⟨bd1, 1, none⟩ (by kernel_rfl) (by kernel_rfl) rfl (by omega) (by omega) (by rfl)) ?_
   refine SL.done ?_
   refine TL.stBox S11 1 3 1 (iv (a.gKg + ((-1) * b.gKg))) [iv (a.gM + ((-1) * b.gM)), iv (a.gKg + ((-1) * b.gKg)), iv a.gS, iv a.gA, iv a.gK] [box bd3 (untC b) 3, box bd1 [iv (a.gM + ((-1) * b.gM)), iv (a.gKg + ((-1) * b.gKg)), iv a.gS, iv a.gA, iv a.gK] 3, box b3 kvV4_1 60, box b2 (untC b) 60, box b1 (untC a) 60] (by kernel_rfl) rfl (by kernel_rfl) (by kernel_rfl) rfl ?_
   intro w12 S12
   refine TL.done (by kernel_rfl) ?_
   refine J.run 0 (rRest K86a_7) [(10, iv 1), (9, .slice (some ⟨bd3, 0, none⟩) 5 5), (8, .slice (some ⟨bd1, 0, none⟩) 5 5), (6, pv b3), (2, iv (-1))] w12 (by kernel_rfl) ?_
   refine J.run 7 K86a_8 [(10, iv 2), (9, .slice (some ⟨bd3, 0, none⟩) 5 5), (8, .slice (some ⟨bd1, 0, none⟩) 5 5), (6, pv b3), (2, iv (-1))] w12 (by kernel_rfl) ?_
   refine J.run 10 K86a_9 [(10, iv 2), (9, .slice (some ⟨bd3, 0, none⟩) 5 5), (8, .slice (some ⟨bd1, 0, none⟩) 5 5), (6, pv b3), (2, iv (-1))] w12 (by kernel_rfl) ?_
   obtain ⟨p5, hp5, hc5⟩ := (box_ints [(a.gM + ((-1) * b.gM)), (a.gKg + ((-1) * b.gKg)), a.gS, a.gA, a.gK] (S12.nth 1 rfl) rfl 5 rfl).at 0 2 (by omega)
   obtain ⟨p6, hp6, hc6⟩ := (box_ints [b.gM, b.gKg, b.gS, b.gA, b.gK] (S12.nth 0 rfl) rfl 5 rfl).at 0 2 (by omega)
   refine J.drawTail S12 14 Tryz.mixed (by kernel_rfl) (by kernel_rfl) ?_
   intro w13 S13
   refine SL.ok (by decide) (OK.run 29 (.slice (some ⟨bd1, 0, none⟩) 5 5) (by kernel_rfl)) ?_
   refine SL.ok (by decide) (OK.run 30 (iv 2) (by kernel_rfl)) ?_
   refine SL.ok (by decide) (OK.run 31 (.slice (some ⟨bd1, 0, none⟩) 5 5) (by kernel_rfl)) ?_
   refine SL.ok (by decide) (OK.run 32 (iv 2) (by kernel_rfl)) ?_
   refine SL.ok (by decide) (OK.index 33 26 1 (some ⟨bd1, 0, none⟩) ⟨bd1, 0, none⟩ 5 2 2 ⟨bd1, 2, none⟩ (by kernel_rfl) (by kernel_rfl) rfl (by omega) (by omega) (by rfl)) ?_
   refine SL.ok (by decide) (OK.ldBox S13 1 34 3 2 (iv a.gS) (by kernel_rfl) rfl (by kernel_rfl)) ?_
   refine SL.ok (by decide) (OK.run 35 (iv (-1)) (by kernel_rfl)) ?_
   refine SL.ok (by decide) (OK.run 36 (.slice (some ⟨bd3, 0, none⟩) 5 5) (by kernel_rfl)) ?_
   refine SL.ok (by decide) (OK.run 37 (iv 2) (by kernel_rfl)) ?_
   refine SL.ok (by decide) (OK.index 38 26 1 (some ⟨bd3, 0, none⟩) ⟨bd3, 0, none⟩ 5 2 2 ⟨bd3, 2, none⟩ (by kernel_rfl) (by kernel_rfl) rfl (by omega) (by omega) (by rfl)) ?_
   refine SL.ok (by decide) (OK.ldBox S13 0 39 3 2 (iv b.gS) (by kernel_rfl) rfl (by kernel_rfl)) ?_
   refine SL.ok (by decide) (OK.run 40 (iv (IntKind.wrap .i64 ((-1) * b.gS))) (by kernel_rfl)) ?_
   refine SL.head (iv ((-1) * b.gS)) (congrArg (Value.int .i64) (IntWalk.i64_in _ (by omega))) ?_
   refine SL.ok (by decide) (OK.run 41 (iv (IntKind.wrap .i64 (a.gS + ((-1) * b.gS)))) (by kernel_rfl)) ?_
   refine SL.head (iv (a.gS + ((-1) * b.gS))) (congrArg (Value.int .i64) (IntWalk.i64_in _ (by omega))) ?_
   refine SL.ok (by decide) (OK.index 42 26 1 (some ⟨bd1, 0, none⟩) ⟨bd1, 0, none⟩ 5 2 2 ⟨bd1, 2, none⟩ (by kernel_rfl) (by kernel_rfl) rfl (by omega) (by omega) (by rfl)) ?_
   refine SL.done ?_
   refine TL.stBox S13 1 3 2 (iv (a.gS + ((-1) * b.gS))) [iv (a.gM + ((-1) * b.gM)), iv (a.gKg + ((-1) * b.gKg)), iv (a.gS + ((-1) * b.gS)), iv a.gA, iv a.gK] [box bd3 (untC b) 3, box bd1 [iv (a.gM + ((-1) * b.gM)), iv (a.gKg + ((-1) * b.gKg)), iv (a.gS + ((-1) * b.gS)), iv a.gA, iv a.gK] 3, box b3 kvV4_1 60, box b2 (untC b) 60, box b1 (untC a) 60] (by kernel_rfl) rfl (by kernel_rfl) (by kernel_rfl) rfl ?_
   intro w14 S14
   refine TL.done (by kernel_rfl) ?_
   refine J.run 0 (rRest K86a_9) [(10, iv 2), (9, .slice (some ⟨bd3, 0, none⟩) 5 5), (8, .slice (some ⟨bd1, 0, none⟩) 5 5), (6, pv b3), (2, iv (-1))] w14 (by kernel_rfl) ?_
   refine J.run 7 K86a_10 [(10, iv 3), (9, .slice (some ⟨bd3, 0, none⟩) 5 5), (8, .slice (some ⟨bd1, 0, none⟩) 5 5), (6, pv b3), (2, iv (-1))] w14 (by kernel_rfl) ?_
   refine J.run 10 K86a_11 [(10, iv 3), (9, .slice (some ⟨bd3, 0, none⟩) 5 5), (8, .slice (some ⟨bd1, 0, none⟩) 5 5), (6, pv b3), (2, iv (-1))] w14 (by kernel_rfl) ?_
   obtain ⟨p7, hp7, hc7⟩ := (box_ints [(a.gM + ((-1) * b.gM)), (a.gKg + ((-1) * b.gKg)), (a.gS + ((-1) * b.gS)), a.gA, a.gK] (S14.nth 1 rfl) rfl 5 rfl).at 0 3 (by omega)
   obtain ⟨p8, hp8, hc8⟩ := (box_ints [b.gM, b.gKg, b.gS, b.gA, b.gK] (S14.nth 0 rfl) rfl 5 rfl).at 0 3 (by omega)
   refine J.drawTail S14 14 Tryz.mixed (by kernel_rfl) (by kernel_rfl) ?_
   intro w15 S15
   refine SL.ok (by decide) (OK.run 29 (.slice (some ⟨bd1, 0, none⟩) 5 5) (by kernel_rfl)) ?_
   refine SL.ok (by decide) (OK.run 30 (iv 3) (by kernel_rfl)) ?_
   refine SL.ok (by decide) (OK.run 31 (.slice (some ⟨bd1, 0, none⟩) 5 5) (by kernel_rfl)) ?_
   refine SL.ok (by decide) (OK.run 32 (iv 3) (by kernel_rfl)) ?_
   refine SL.ok (by decide) (OK.index 33 26 1 (some ⟨bd1, 0, none⟩) ⟨bd1, 0, none⟩ 5 3 3 ⟨bd1, 3, none⟩ (by kernel_rfl) (by kernel_rfl) rfl (by omega) (by omega) (by rfl)) ?_
   refine SL.ok (by decide) (OK.ldBox S15 1 34 3 3 (iv a.gA) (by kernel_rfl) rfl (by kernel_rfl)) ?_
   refine SL.ok (by decide) (OK.run 35 (iv (-1)) (by kernel_rfl)) ?_
   refine SL.ok (by decide) (OK.run 36 (.slice (some ⟨bd3, 0, none⟩) 5 5) (by kernel_rfl)) ?_
   refine SL.ok (by decide) (OK.run 37 (iv 3) (by kernel_rfl)) ?_
   refine SL.ok (by decide) (OK.index 38 26 1 (some ⟨bd3, 0, none⟩) ⟨bd3, 0, none⟩ 5 3 3 ⟨bd3, 3, none⟩ (by kernel_rfl) (by kernel_rfl) rfl (by omega) (by omega) (by rfl)) ?_
   refine SL.ok (by decide) (OK.ldBox S15 0 39 3 3 (iv b.gA) (by kernel_rfl) rfl (by kernel_rfl)) ?_
   refine SL.ok (by decide) (OK.run 40 (iv (IntKind.wrap .i64 ((-1) * b.gA))) (by kernel_rfl)) ?_
   refine SL.head (iv ((-1) * b.gA)) (congrArg (Value.int .i64) (IntWalk.i64_in _ (by omega))) ?_
   refine SL.ok (by decide) (OK.run 41 (iv (IntKind.wrap .i64 (a.gA + ((-1) * b.gA)))) (by kernel_rfl)) ?_
   refine SL.head (iv (a.gA + ((-1) * b.gA))) (congrArg (Value.int .i64) (IntWalk.i64_in _ (by omega))) ?_
   refine SL.ok (by decide) (OK.index 42 26 1 (some ⟨bd1, 0, none⟩) ⟨bd1, 0, none⟩ 5 3 3 ⟨bd1, 3, none⟩ (by kernel_rfl) (by kernel_rfl) rfl (by omega) (by omega) (by rfl)) ?_
   refine SL.done ?_
   refine TL.stBox S15 1 3 3 (iv (a.gA + ((-1) * b.gA))) [iv (a.gM + ((-1) * b.gM)), iv (a.gKg + ((-1) * b.gKg)), iv (a.gS + ((-1) * b.gS)), iv (a.gA + ((-1) * b.gA)), iv a.gK] [box bd3 (untC b) 3, box bd1 [iv (a.gM + ((-1) * b.gM)), iv (a.gKg + ((-1) * b.gKg)), iv (a.gS + ((-1) * b.gS)), iv (a.gA + ((-1) * b.gA)), iv a.gK] 3, box b3 kvV4_1 60, box b2 (untC b) 60, box b1 (untC a) 60] (by kernel_rfl) rfl (by kernel_rfl) (by kernel_rfl) rfl ?_
   intro w16 S16
   refine TL.done (by kernel_rfl) ?_
   refine J.run 0 (rRest K86a_11) [(10, iv 3), (9, .slice (some ⟨bd3, 0, none⟩) 5 5), (8, .slice (some ⟨bd1, 0, none⟩) 5 5), (6, pv b3), (2, iv (-1))] w16 (by kernel_rfl) ?_
   refine J.run 7 K86a_12 [(10, iv 4), (9, .slice (some ⟨bd3, 0, none⟩) 5 5), (8, .slice (some ⟨bd1, 0, none⟩) 5 5), (6, pv b3), (2, iv (-1))] w16 (by kernel_rfl) ?_
   refine J.run 10 K86a_13 [(10, iv 4), (9, .slice (some ⟨bd3, 0, none⟩) 5 5), (8, .slice (some ⟨bd1, 0, none⟩) 5 5), (6, pv b3), (2, iv (-1))] w16 (by kernel_rfl) ?_
   obtain ⟨p9, hp9, hc9⟩ := (box_ints [(a.gM + ((-1) * b.gM)), (a.gKg + ((-1) * b.gKg)), (a.gS + ((-1) * b.gS)), (a.gA + ((-1) * b.gA)), a.gK] (S16.nth 1 rfl) rfl 5 rfl).at 0 4 (by omega)
   obtain ⟨p10, hp10, hc10⟩ := (box_ints [b.gM, b.gKg, b.gS, b.gA, b.gK] (S16.nth 0 rfl) rfl 5 rfl).at 0 4 (by omega)
   refine J.drawTail S16 14 Tryz.mixed (by kernel_rfl) (by kernel_rfl) ?_
   intro w17 S17
   refine SL.ok (by decide) (OK.run 29 (.slice (some ⟨bd1, 0, none⟩) 5 5) (by kernel_rfl)) ?_
   refine SL.ok (by decide) (OK.run 30 (iv 4) (by kernel_rfl)) ?_
   refine SL.ok (by decide) (OK.run 31 (.slice (some ⟨bd1, 0, none⟩) 5 5) (by kernel_rfl)) ?_
   refine SL.ok (by decide) (OK.run 32 (iv 4) (by kernel_rfl)) ?_
   refine SL.ok (by decide) (OK.index 33 26 1 (some ⟨bd1, 0, none⟩) ⟨bd1, 0, none⟩ 5 4 4 ⟨bd1, 4, none⟩ (by kernel_rfl) (by kernel_rfl) rfl (by omega) (by omega) (by rfl)) ?_
   refine SL.ok (by decide) (OK.ldBox S17 1 34 3 4 (iv a.gK) (by kernel_rfl) rfl (by kernel_rfl)) ?_
   refine SL.ok (by decide) (OK.run 35 (iv (-1)) (by kernel_rfl)) ?_
   refine SL.ok (by decide) (OK.run 36 (.slice (some ⟨bd3, 0, none⟩) 5 5) (by kernel_rfl)) ?_
   refine SL.ok (by decide) (OK.run 37 (iv 4) (by kernel_rfl)) ?_
   refine SL.ok (by decide) (OK.index 38 26 1 (some ⟨bd3, 0, none⟩) ⟨bd3, 0, none⟩ 5 4 4 ⟨bd3, 4, none⟩ (by kernel_rfl) (by kernel_rfl) rfl (by omega) (by omega) (by rfl)) ?_
   refine SL.ok (by decide) (OK.ldBox S17 0 39 3 4 (iv b.gK) (by kernel_rfl) rfl (by kernel_rfl)) ?_
   refine SL.ok (by decide) (OK.run 40 (iv (IntKind.wrap .i64 ((-1) * b.gK))) (by kernel_rfl)) ?_
   refine SL.head (iv ((-1) * b.gK)) (congrArg (Value.int .i64) (IntWalk.i64_in _ (by omega))) ?_
   refine SL.ok (by decide) (OK.run 41 (iv (IntKind.wrap .i64 (a.gK + ((-1) * b.gK)))) (by kernel_rfl)) ?_
   refine SL.head (iv (a.gK + ((-1) * b.gK))) (congrArg (Value.int .i64) (IntWalk.i64_in _ (by omega))) ?_
   refine SL.ok (by decide) (OK.index 42 26 1 (some ⟨bd1, 0, none⟩) ⟨bd1, 0, none⟩ 5 4 4 ⟨bd1, 4, none⟩ (by kernel_rfl) (by kernel_rfl) rfl (by omega) (by omega) (by rfl)) ?_
   refine SL.done ?_
   refine TL.stBox S17 1 3 4 (iv (a.gK + ((-1) * b.gK))) [iv (a.gM + ((-1) * b.gM)), iv (a.gKg + ((-1) * b.gKg)), iv (a.gS + ((-1) * b.gS)), iv (a.gA + ((-1) * b.gA)), iv (a.gK + ((-1) * b.gK))] [box bd3 (untC b) 3, box bd1 [iv (a.gM + ((-1) * b.gM)), iv (a.gKg + ((-1) * b.gKg)), iv (a.gS + ((-1) * b.gS)), iv (a.gA + ((-1) * b.gA)), iv (a.gK + ((-1) * b.gK))] 3, box b3 kvV4_1 60, box b2 (untC b) 60, box b1 (untC a) 60] (by kernel_rfl) rfl (by kernel_rfl) (by kernel_rfl) rfl ?_
   intro w18 S18
   refine TL.done (by kernel_rfl) ?_
   refine J.run 0 (rRest K86a_13) [(10, iv 4), (9, .slice (some ⟨bd3, 0, none⟩) 5 5), (8, .slice (some ⟨bd1, 0, none⟩) 5 5), (6, pv b3), (2, iv (-1))] w18 (by kernel_rfl) ?_
   refine J.run 7 K86a_14 [(10, iv 5), (9, .slice (some ⟨bd3, 0, none⟩) 5 5), (8, .slice (some ⟨bd1, 0, none⟩) 5 5), (6, pv b3), (2, iv (-1))] w18 (by kernel_rfl) ?_
   refine J.run 11 K86a_15 [(43, .slice (some ⟨bd1, 0, none⟩) 5 5), (6, pv b3)] w18 (by kernel_rfl) ?_
   refine J.callF 44 105 #[.slice (some ⟨bd1, 0, none⟩) 5 5] hb105 (by kernel_rfl) (of_any (some ⟨bd1, 0, none⟩) 5 5 ([(a.gM + ((-1) * b.gM)), (a.gKg + ((-1) * b.gKg)), (a.gS + ((-1) * b.gS)), (a.gA + ((-1) * b.gA)), (a.gK + ((-1) * b.gK))]) _ ((box_ints [(a.gM + ((-1) * b.gM)), (a.gKg + ((-1) * b.gKg)), (a.gS + ((-1) * b.gS)), (a.gA + ((-1) * b.gA)), (a.gK + ((-1) * b.gK))] (S18.nth 1 rfl) rfl 5 rfl)) (by omega)) ?_
   rintro _ w19 ⟨rfl, T5⟩
   have S19 : Sep w [box bd3 (untC b) 3, box bd1 [iv (a.gM + ((-1) * b.gM)), iv (a.gKg + ((-1) * b.gKg)), iv (a.gS + ((-1) * b.gS)), iv (a.gA + ((-1) * b.gA)), iv (a.gK + ((-1) * b.gK))] 3, box b3 kvV4_1 60, box b2 (untC b) 60, box b1 (untC a) 60] w19 := S18.trans T5
   clear T5 S18
   refine J.head (.agg #[iv (a.gM + ((-1) * b.gM)), iv (a.gKg + ((-1) * b.gKg)), iv (a.gS + ((-1) * b.gS)), iv (a.gA + ((-1) * b.gA)), iv (a.gK + ((-1) * b.gK))]) rfl ?_
   refine J.new S19 11 kvV4_1 60 (by kernel_rfl) ?_
   intro b4 w20 S20
   refine J.stBox S20 0 60 0 (.agg #[iv (a.gM + ((-1) * b.gM)), iv (a.gKg + ((-1) * b.gKg)), iv (a.gS + ((-1) * b.gS)), iv (a.gA + ((-1) * b.gA)), iv (a.gK + ((-1) * b.gK))]) [iv (a.gM + ((-1) * b.gM)), iv (a.gKg + ((-1) * b.gKg)), iv (a.gS + ((-1) * b.gS)), iv (a.gA + ((-1) * b.gA)), iv (a.gK + ((-1) * b.gK))] [box b4 [iv (a.gM + ((-1) * b.gM)), iv (a.gKg + ((-1) * b.gKg)), iv (a.gS + ((-1) * b.gS)), iv (a.gA + ((-1) * b.gA)), iv (a.gK + ((-1) * b.gK))] 60, box bd3 (untC b) 3, box bd1 [iv (a.gM + ((-1) * b.gM)), iv (a.gKg + ((-1) * b.gKg)), iv (a.gS + ((-1) * b.gS)), iv (a.gA + ((-1) * b.gA)), iv (a.gK + ((-1) * b.gK))] 3, box b3 kvV4_1 60, box b2 (untC b) 60, box b1 (untC a) 60] (by kernel_rfl) rfl (by kernel_rfl) (by kernel_rfl) rfl ?_
   intro w21 S21
   refine J.run 4 K86a_16 [(11, pv b4), (6, pv b3)] w21 (by kernel_rfl) ?_
   refine J.ok (OK.ldBox S21 0 45 60 0 (.agg #[iv (a.gM + ((-1) * b.gM)), iv (a.gKg + ((-1) * b.gKg)), iv (a.gS + ((-1) * b.gS)), iv (a.gA + ((-1) * b.gA)), iv (a.gK + ((-1) * b.gK))]) (by kernel_rfl) rfl (by kernel_rfl)) ?_
   refine J.callF 46 103 #[.agg #[iv (a.gM + ((-1) * b.gM)), iv (a.gKg + ((-1) * b.gKg)), iv (a.gS + ((-1) * b.gS)), iv (a.gA + ((-1) * b.gA)), iv (a.gK + ((-1) * b.gK))]] hb103 (by kernel_rfl) (ruvalid_any (⟨a.gM + ((-1) * b.gM), a.gKg + ((-1) * b.gKg), a.gS + ((-1) * b.gS), a.gA + ((-1) * b.gA), a.gK + ((-1) * b.gK)⟩ : Unt) _) ?_
   rintro _ w22 ⟨rfl, T6⟩
   have S22 : Sep w [box b4 [iv (a.gM + ((-1) * b.gM)), iv (a.gKg + ((-1) * b.gKg)), iv (a.gS + ((-1) * b.gS)), iv (a.gA + ((-1) * b.gA)), iv (a.gK + ((-1) * b.gK))] 60, box bd3 (untC b) 3, box bd1 [iv (a.gM + ((-1) * b.gM)), iv (a.gKg + ((-1) * b.gKg)), iv (a.gS + ((-1) * b.gS)), iv (a.gA + ((-1) * b.gA)), iv (a.gK + ((-1) * b.gK))] 3, box b3 kvV4_1 60, box b2 (untC b) 60, box b1 (untC a) 60] w22 := S21.trans T6
   clear T6 S21
   refine J.run 2 K86a_17 [(47, .bool (!(unB (⟨a.gM + ((-1) * b.gM), a.gKg + ((-1) * b.gKg), a.gS + ((-1) * b.gS), a.gA + ((-1) * b.gA), a.gK + ((-1) * b.gK)⟩ : Unt)))), (11, pv b4), (6, pv b3)] w22 (by kernel_rfl) ?_
   rcases Bool.eq_false_or_eq_true (unB (⟨a.gM + ((-1) * b.gM), a.gKg + ((-1) * b.gKg), a.gS + ((-1) * b.gS), a.gA + ((-1) * b.gA), a.gK + ((-1) * b.gK)⟩ : Unt)) with fk3 | fk3
   ·skip
    refine J.head (.bool false) (congrArg Value.bool (by rw [fk3]; rfl)) ?_
    have fb3 := unB_iff.1 fk3
    try dsimp only at fb3
    refine J.run 4 K86a_18 [(11, pv b4), (6, pv b3)] w22 (by kernel_rfl) ?_
    refine J.ok (OK.ldBox S22 0 49 60 0 (.agg #[iv (a.gM + ((-1) * b.gM)), iv (a.gKg + ((-1) * b.gKg)), iv (a.gS + ((-1) * b.gS)), iv (a.gA + ((-1) * b.gA)), iv (a.gK + ((-1) * b.gK))]) (by kernel_rfl) rfl (by kernel_rfl)) ?_
    refine J.stBox S22 3 60 0 (.agg #[iv (a.gM + ((-1) * b.gM)), iv (a.gKg + ((-1) * b.gKg)), iv (a.gS + ((-1) * b.gS)), iv (a.gA + ((-1) * b.gA)), iv (a.gK + ((-1) * b.gK))]) [iv (a.gM + ((-1) * b.gM)), iv (a.gKg + ((-1) * b.gKg)), iv (a.gS + ((-1) * b.gS)), iv (a.gA + ((-1) * b.gA)), iv (a.gK + ((-1) * b.gK))] [box b4 [iv (a.gM + ((-1) * b.gM)), iv (a.gKg + ((-1) * b.gKg)), iv (a.gS + ((-1) * b.gS)), iv (a.gA + ((-1) * b.gA)), iv (a.gK + ((-1) * b.gK))] 60, box bd3 (untC b) 3, box bd1 [iv (a.gM + ((-1) * b.gM)), iv (a.gKg + ((-1) * b.gKg)), iv (a.gS + ((-1) * b.gS)), iv (a.gA + ((-1) * b.gA)), iv (a.gK + ((-1) * b.gK))] 3, box b3 [iv (a.gM + ((-1) * b.gM)), iv (a.gKg + ((-1) * b.gKg)), iv (a.gS + ((-1) * b.gS)), iv (a.gA + ((-1) * b.gA)), iv (a.gK + ((-1) * b.gK))] 60, box b2 (untC b) 60, box b1 (untC a) 60] (by kernel_rfl) rfl (by kernel_rfl) (by kernel_rfl) rfl ?_
    intro w23 S23
    refine J.run 2 K86a_19 [(7, iv 0), (6, pv b3)] w23 (by kernel_rfl) ?_
    refine J.ret Tryz.f86 [.agg #[iv (a.gM + ((-1) * b.gM)), iv (a.gKg + ((-1) * b.gKg)), iv (a.gS + ((-1) * b.gS)), iv (a.gA + ((-1) * b.gA)), iv (a.gK + ((-1) * b.gK))], iv 0] Tryz.func86 ⟨⟨⟨b3, 0, none⟩, by kernel_rfl, ldV_run (S23.nth 3 rfl) (by kernel_rfl)⟩, by kernel_rfl, trivial⟩ ?_
    refine hR _ _ ?_
    obtain ⟨e1, e2⟩ := un_in (a := a) (b := b) (s := (-1)) fk1 fk2 fk3
    exact ⟨by rw [e1, e2]; rfl, S23.nil⟩
   ·skip
    refine J.head (.bool true) (congrArg Value.bool (by rw [fk3]; rfl)) ?_
    have fb4 := mt unB_iff.2 (by rw [fk3]; decide)
    try dsimp only at fb4
    refine J.run 4 K86a_20 [(48, .agg #[iv 0, iv 0, iv 0, iv 0, iv 0]), (6, pv b3)] w22 (by kernel_rfl) ?_
    refine J.stBox S22 3 60 0 (.agg #[iv 0, iv 0, iv 0, iv 0, iv 0]) kvV4_1 [box b4 [iv (a.gM + ((-1) * b.gM)), iv (a.gKg + ((-1) * b.gKg)), iv (a.gS + ((-1) * b.gS)), iv (a.gA + ((-1) * b.gA)), iv (a.gK + ((-1) * b.gK))] 60, box bd3 (untC b) 3, box bd1 [iv (a.gM + ((-1) * b.gM)), iv (a.gKg + ((-1) * b.gKg)), iv (a.gS + ((-1) * b.gS)), iv (a.gA + ((-1) * b.gA)), iv (a.gK + ((-1) * b.gK))] 3, box b3 kvV4_1 60, box b2 (untC b) 60, box b1 (untC a) 60] (by kernel_rfl) rfl (by kernel_rfl) (by kernel_rfl) rfl ?_
    intro w24 S24
    refine J.run 2 K86a_21 [(7, iv 2), (6, pv b3)] w24 (by kernel_rfl) ?_
    refine J.ret Tryz.f86 [.agg #[iv 0, iv 0, iv 0, iv 0, iv 0], iv 2] Tryz.func86 ⟨⟨⟨b3, 0, none⟩, by kernel_rfl, ldV_run (S24.nth 3 rfl) (by kernel_rfl)⟩, by kernel_rfl, trivial⟩ ?_
    refine hR _ _ ?_
    obtain ⟨e1, e2⟩ := un_out (a := a) (b := b) (s := (-1)) fk1 fk2 fk3
    exact ⟨by rw [e1, e2]; rfl, S24.nil⟩
  ·skip
   refine J.head (.bool true) (congrArg Value.bool (by rw [fk2]; rfl)) ?_
   have fb5 := mt unB_iff.2 (by rw [fk2]; decide)
   try dsimp only at fb5
   refine J.run 4 K86a_22 [(20, .agg #[iv 0, iv 0, iv 0, iv 0, iv 0]), (6, pv b3)] w5 (by kernel_rfl) ?_
   refine J.stBox S5 0 60 0 (.agg #[iv 0, iv 0, iv 0, iv 0, iv 0]) kvV4_1 [box b3 kvV4_1 60, box b2 (untC b) 60, box b1 (untC a) 60] (by kernel_rfl) rfl (by kernel_rfl) (by kernel_rfl) rfl ?_
   intro w25 S25
   refine J.run 2 K86a_23 [(7, iv 1), (6, pv b3)] w25 (by kernel_rfl) ?_
   refine J.ret Tryz.f86 [.agg #[iv 0, iv 0, iv 0, iv 0, iv 0], iv 1] Tryz.func86 ⟨⟨⟨b3, 0, none⟩, by kernel_rfl, ldV_run (S25.nth 0 rfl) (by kernel_rfl)⟩, by kernel_rfl, trivial⟩ ?_
   refine hR _ _ ?_
   obtain ⟨e1, e2⟩ := un_bad (a := a) (b := b) (s := (-1)) (by first | exact .inl fk2 | exact .inr fk2)
   exact ⟨by rw [e1, e2]; rfl, S25.nil⟩
 ·skip
  refine J.head (.bool true) (congrArg Value.bool (by rw [fk1]; rfl)) ?_
  have fb6 := mt unB_iff.2 (by rw [fk1]; decide)
  try dsimp only at fb6
  refine J.run 9 K86a_24 [(20, .agg #[iv 0, iv 0, iv 0, iv 0, iv 0]), (6, pv b3)] w4 (by kernel_rfl) ?_
  refine J.stBox S4 0 60 0 (.agg #[iv 0, iv 0, iv 0, iv 0, iv 0]) kvV4_1 [box b3 kvV4_1 60, box b2 (untC b) 60, box b1 (untC a) 60] (by kernel_rfl) rfl (by kernel_rfl) (by kernel_rfl) rfl ?_
  intro w26 S26
  refine J.run 2 K86a_25 [(7, iv 1), (6, pv b3)] w26 (by kernel_rfl) ?_
  refine J.ret Tryz.f86 [.agg #[iv 0, iv 0, iv 0, iv 0, iv 0], iv 1] Tryz.func86 ⟨⟨⟨b3, 0, none⟩, by kernel_rfl, ldV_run (S26.nth 0 rfl) (by kernel_rfl)⟩, by kernel_rfl, trivial⟩ ?_
  refine hR _ _ ?_
  obtain ⟨e1, e2⟩ := un_bad (a := a) (b := b) (s := (-1)) (by first | exact .inl fk1 | exact .inr fk1)
  exact ⟨by rw [e1, e2]; rfl, S26.nil⟩

theorem hb89 : HasBody Tryz.prog 89 := fun _ _ => by kernel_rfl
noncomputable def K89_0 : List Item := adv 2 [] (bodyOf Tryz.f89)
noncomputable def K89_1 : List Item := adv 4 [] (popK (popK (popK K89_0)))
noncomputable def K89_2 : List Item := adv 2 [] (popK (popK (popK K89_1)))
noncomputable def K89_3 : List Item := adv 2 [] (popK K89_2)
set_option maxRecDepth 20000 in
set_option maxHeartbeats 20000000 in
theorem umul_any (a b : Unt) (w : World) : Ret Tryz.prog 89 #[.agg (untA a), .agg (untA b)] w (fun v w' => v = .tuple #[.agg #[iv (unX a b 1).gM, iv (unX a b 1).gKg, iv (unX a b 1).gS, iv (unX a b 1).gA, iv (unX a b 1).gK], iv (unE a b 1)] ∧ Sep w [] w') := by
 have S0 := Sep.refl w
 refine Ret.named fun R hR => ?_
 refine Ret.of_J (N := 11) [(0, .agg (untA a)), (1, .agg (untA b))] Tryz.func89 rfl rfl (Nat.le_of_ble_eq_true (by kernel_rfl)) (by kernel_rfl) ?_
 refine J.run 2 K89_0 [(0, .agg (untA a)), (1, .agg (untA b))] w (by kernel_rfl) ?_
 refine J.new S0 2 (untC a) 60 (by kernel_rfl) ?_
 intro b1 w1 S1
 refine J.new S1 3 (untC b) 60 (by kernel_rfl) ?_
 intro b2 w2 S2
 refine J.new S2 4 kvV4_1 60 (by kernel_rfl) ?_
 intro b3 w3 S3
 refine J.run 4 K89_1 [(4, pv b3), (3, pv b2), (2, pv b1)] w3 (by kernel_rfl) ?_
 refine J.ok (OK.ldBox S3 2 6 60 0 (.agg (untA a)) (by kernel_rfl) rfl (by kernel_rfl)) ?_
 refine J.ok (OK.ldBox S3 1 7 60 0 (.agg (untA b)) (by kernel_rfl) rfl (by kernel_rfl)) ?_
 refine J.callF 8 106 #[.agg (untA a), .agg (untA b), iv 1] hb106 (by kernel_rfl) (ucomb_any a b _) ?_
 rintro _ w4 ⟨rfl, T1⟩
 have S4 : Sep w [box b3 kvV4_1 60, box b2 (untC b) 60, box b1 (untC a) 60] w4 := S3.trans T1
 clear T1 S3
 refine J.run 2 K89_2 [(10, iv (unE a b 1)), (9, .agg (untA (unX a b 1))), (4, pv b3)] w4 (by kernel_rfl) ?_
 refine J.stBox S4 0 60 0 (.agg (untA (unX a b 1))) (untC (unX a b 1)) [box b3 (untC (unX a b 1)) 60, box b2 (untC b) 60, box b1 (untC a) 60] (by kernel_rfl) rfl (by kernel_rfl) (by kernel_rfl) rfl ?_
 intro w5 S5
 refine J.run 2 K89_3 [(5, iv (unE a b 1)), (4, pv b3)] w5 (by kernel_rfl) ?_
 refine J.ret Tryz.f89 [.agg (untA (unX a b 1)), iv (unE a b 1)] Tryz.func89 ⟨⟨⟨b3, 0, none⟩, by kernel_rfl, ldV_run (S5.nth 0 rfl) (by kernel_rfl)⟩, by kernel_rfl, trivial⟩ ?_
 refine hR _ _ ?_
 exact ⟨rfl, S5.nil⟩

theorem hb90 : HasBody Tryz.prog 90 := fun _ _ => by kernel_rfl
noncomputable def K90_0 : List Item := adv 2 [] (bodyOf Tryz.f90)
noncomputable def K90_1 : List Item := adv 4 [] (popK (popK (popK K90_0)))
noncomputable def K90_2 : List Item := adv 2 [] (popK (popK (popK K90_1)))
noncomputable def K90_3 : List Item := adv 2 [] (popK K90_2)
set_option maxRecDepth 20000 in
set_option maxHeartbeats 20000000 in
theorem udiv_any (a b : Unt) (w : World) : Ret Tryz.prog 90 #[.agg (untA a), .agg (untA b)] w (fun v w' => v = .tuple #[.agg #[iv (unX a b (-1)).gM, iv (unX a b (-1)).gKg, iv (unX a b (-1)).gS, iv (unX a b (-1)).gA, iv (unX a b (-1)).gK], iv (unE a b (-1))] ∧ Sep w [] w') := by
 have S0 := Sep.refl w
 refine Ret.named fun R hR => ?_
 refine Ret.of_J (N := 11) [(0, .agg (untA a)), (1, .agg (untA b))] Tryz.func90 rfl rfl (Nat.le_of_ble_eq_true (by kernel_rfl)) (by kernel_rfl) ?_
 refine J.run 2 K90_0 [(0, .agg (untA a)), (1, .agg (untA b))] w (by kernel_rfl) ?_
 refine J.new S0 2 (untC a) 60 (by kernel_rfl) ?_
 intro b1 w1 S1
 refine J.new S1 3 (untC b) 60 (by kernel_rfl) ?_
 intro b2 w2 S2
 refine J.new S2 4 kvV4_1 60 (by kernel_rfl) ?_
 intro b3 w3 S3
 refine J.run 4 K90_1 [(4, pv b3), (3, pv b2), (2, pv b1)] w3 (by kernel_rfl) ?_
 refine J.ok (OK.ldBox S3 2 6 60 0 (.agg (untA a)) (by kernel_rfl) rfl (by kernel_rfl)) ?_
 refine J.ok (OK.ldBox S3 1 7 60 0 (.agg (untA b)) (by kernel_rfl) rfl (by kernel_rfl)) ?_
 refine J.callF 8 106 #[.agg (untA a), .agg (untA b), iv (-1)] hb106 (by kernel_rfl) (ucombm_any a b _) ?_
 rintro _ w4 ⟨rfl, T1⟩
 have S4 : Sep w [box b3 kvV4_1 60, box b2 (untC b) 60, box b1 (untC a) 60] w4 := S3.trans T1
 clear T1 S3
 refine J.run 2 K90_2 [(10, iv (unE a b (-1))), (9, .agg (untA (unX a b (-1)))), (4, pv b3)] w4 (by kernel_rfl) ?_
 refine J.stBox S4 0 60 0 (.agg (untA (unX a b (-1)))) (untC (unX a b (-1))) [box b3 (untC (unX a b (-1))) 60, box b2 (untC b) 60, box b1 (untC a) 60] (by kernel_rfl) rfl (by kernel_rfl) (by kernel_rfl) rfl ?_
 intro w5 S5
 refine J.run 2 K90_3 [(5, iv (unE a b (-1))), (4, pv b3)] w5 (by kernel_rfl) ?_
 refine J.ret Tryz.f90 [.agg (untA (unX a b (-1))), iv (unE a b (-1))] Tryz.func90 ⟨⟨⟨b3, 0, none⟩, by kernel_rfl, ldV_run (S5.nth 0 rfl) (by kernel_rfl)⟩, by kernel_rfl, trivial⟩ ?_
 refine hR _ _ ?_
 exact ⟨rfl, S5.nil⟩

def unRX (op : Int) (a b : Unt) : Unt := if op = 3 then unX a b 1 else if op = 4 then unX a b (-1) else a
def unRB (op : Int) (a b : Unt) : Bool := if op = 3 then unE a b 1 == 0 else if op = 4 then unE a b (-1) == 0 else unEq a b
theorem hb62 : HasBody Tryz.prog 62 := fun _ _ => by kernel_rfl
noncomputable def K62_0 : List Item := adv 2 [] (bodyOf Tryz.f62)
noncomputable def K62_1 : List Item := adv 13 [] (popK (popK (popK K62_0)))
noncomputable def K62_2 : List Item := adv 3 [true] K62_1
noncomputable def K62_3 : List Item := adv 3 [] (popK (popK (popK K62_2)))
noncomputable def K62_4 : List Item := adv 4 [] (popK (popK K62_3))
noncomputable def K62_5 : List Item := adv 2 [] (popK K62_4)
noncomputable def K62_6 : List Item := adv 2 [] (popK K62_5)
noncomputable def K62_7 : List Item := adv 6 [false] K62_1
noncomputable def K62_8 : List Item := adv 3 [true] K62_7
noncomputable def K62_9 : List Item := adv 3 [] (popK (popK (popK K62_8)))
noncomputable def K62_10 : List Item := adv 4 [] (popK (popK K62_9))
noncomputable def K62_11 : List Item := adv 2 [] (popK K62_10)
noncomputable def K62_12 : List Item := adv 2 [] (popK K62_11)
noncomputable def K62_13 : List Item := adv 4 [false] K62_7
set_option maxRecDepth 20000 in
set_option maxHeartbeats 20000000 in
theorem runits_any (op : Int) (a b : Unt) (w : World) : Ret Tryz.prog 62 #[iv op, .agg (untA a), .agg (untA b)] w (fun v w' => v = .tuple #[.agg #[iv (unRX op a b).gM, iv (unRX op a b).gKg, iv (unRX op a b).gS, iv (unRX op a b).gA, iv (unRX op a b).gK], .bool (unRB op a b)] ∧ Sep w [] w') := by
 have S0 := Sep.refl w
 refine Ret.named fun R hR => ?_
 refine Ret.of_J (N := 39) [(0, iv op), (1, .agg (untA a)), (2, .agg (untA b))] Tryz.func62 rfl rfl (Nat.le_of_ble_eq_true (by kernel_rfl)) (by kernel_rfl) ?_
 refine J.run 2 K62_0 [(0, iv op), (1, .agg (untA a)), (2, .agg (untA b))] w (by kernel_rfl) ?_
 refine J.new S0 4 (untC a) 60 (by kernel_rfl) ?_
 intro b1 w1 S1
 refine J.new S1 5 (untC b) 60 (by kernel_rfl) ?_
 intro b2 w2 S2
 refine J.new S2 6 kvV4_1 60 (by kernel_rfl) ?_
 intro b3 w3 S3
 refine J.run 13 K62_1 [(13, .bool (op == 3)), (12, iv op), (6, pv b3), (5, pv b2), (4, pv b1)] w3 (by kernel_rfl) ?_
 by_cases fk1 : op = 3
 ·skip
  refine J.head (.bool true) (congrArg Value.bool (beq_iff_eq.2 fk1)) ?_
  refine J.run 3 K62_2 [(6, pv b3), (5, pv b2), (4, pv b1)] w3 (by kernel_rfl) ?_
  refine J.ok (OK.ldBox S3 2 16 60 0 (.agg (untA a)) (by kernel_rfl) rfl (by kernel_rfl)) ?_
  refine J.ok (OK.ldBox S3 1 17 60 0 (.agg (untA b)) (by kernel_rfl) rfl (by kernel_rfl)) ?_
  refine J.callF 18 86 #[.agg (untA a), .agg (untA b), iv 1] hb86 (by kernel_rfl) (rucomb_any a b _) ?_
  rintro _ w4 ⟨rfl, T1⟩
  have S4 : Sep w [box b3 kvV4_1 60, box b2 (untC b) 60, box b1 (untC a) 60] w4 := S3.trans T1
  clear T1 S3
  refine J.run 3 K62_3 [(20, iv (unE a b 1)), (19, .agg (untA (unX a b 1))), (6, pv b3)] w4 (by kernel_rfl) ?_
  refine J.new S4 8 kvV4_1 60 (by kernel_rfl) ?_
  intro b4 w5 S5
  refine J.stBox S5 0 60 0 (.agg (untA (unX a b 1))) (untC (unX a b 1)) [box b4 (untC (unX a b 1)) 60, box b3 kvV4_1 60, box b2 (untC b) 60, box b1 (untC a) 60] (by kernel_rfl) rfl (by kernel_rfl) (by kernel_rfl) rfl ?_
  intro w6 S6
  refine J.run 4 K62_4 [(9, iv (unE a b 1)), (8, pv b4), (6, pv b3)] w6 (by kernel_rfl) ?_
  refine J.ok (OK.ldBox S6 0 21 60 0 (.agg (untA (unX a b 1))) (by kernel_rfl) rfl (by kernel_rfl)) ?_
  refine J.run 2 K62_5 [(23, .bool ((unE a b 1) == 0)), (21, .agg (untA (unX a b 1))), (6, pv b3)] w6 (by kernel_rfl) ?_
  refine J.stBox S6 1 60 0 (.agg (untA (unX a b 1))) (untC (unX a b 1)) [box b4 (untC (unX a b 1)) 60, box b3 (untC (unX a b 1)) 60, box b2 (untC b) 60, box b1 (untC a) 60] (by kernel_rfl) rfl (by kernel_rfl) (by kernel_rfl) rfl ?_
  intro w7 S7
  refine J.run 2 K62_6 [(7, .bool ((unE a b 1) == 0)), (6, pv b3)] w7 (by kernel_rfl) ?_
  refine J.ret Tryz.f62 [.agg (untA (unX a b 1)), .bool ((unE a b 1) == 0)] Tryz.func62 ⟨⟨⟨b3, 0, none⟩, by kernel_rfl, ldV_run (S7.nth 1 rfl) (by kernel_rfl)⟩, by kernel_rfl, trivial⟩ ?_
  refine hR _ _ ?_
  have e1 : unRX op a b = unX a b 1 := by unfold unRX; (repeat first | rw [if_pos (by omega)] | rw [if_neg (by omega)])
  have e2 : unRB op a b = (unE a b 1 == 0) := by unfold unRB; (repeat first | rw [if_pos (by omega)] | rw [if_neg (by omega)]) <;> rfl
  exact ⟨by rw [e1, e2]; rfl, S7.nil⟩
 ·skip
  refine J.head (.bool false) (congrArg Value.bool (beq_eq_false_iff_ne.2 fk1)) ?_
  refine J.run 6 K62_7 [(24, .bool (op == 4)), (6, pv b3), (5, pv b2), (4, pv b1)] w3 (by kernel_rfl) ?_
  by_cases fk2 : op = 4
  ·skip
   refine J.head (.bool true) (congrArg Value.bool (beq_iff_eq.2 fk2)) ?_
   refine J.run 3 K62_8 [(6, pv b3), (5, pv b2), (4, pv b1)] w3 (by kernel_rfl) ?_
   refine J.ok (OK.ldBox S3 2 27 60 0 (.agg (untA a)) (by kernel_rfl) rfl (by kernel_rfl)) ?_
   refine J.ok (OK.ldBox S3 1 28 60 0 (.agg (untA b)) (by kernel_rfl) rfl (by kernel_rfl)) ?_
   refine J.callF 29 86 #[.agg (untA a), .agg (untA b), iv (-1)] hb86 (by kernel_rfl) (rucombm_any a b _) ?_
   rintro _ w8 ⟨rfl, T2⟩
   have S8 : Sep w [box b3 kvV4_1 60, box b2 (untC b) 60, box b1 (untC a) 60] w8 := S3.trans T2
   clear T2 S3
   refine J.run 3 K62_9 [(31, iv (unE a b (-1))), (30, .agg (untA (unX a b (-1)))), (6, pv b3)] w8 (by kernel_rfl) ?_
   refine J.new S8 10 kvV4_1 60 (by kernel_rfl) ?_
   intro b5 w9 S9
   refine J.stBox S9 0 60 0 (.agg (untA (unX a b (-1)))) (untC (unX a b (-1))) [box b5 (untC (unX a b (-1))) 60, box b3 kvV4_1 60, box b2 (untC b) 60, box b1 (untC a) 60] (by kernel_rfl) rfl (by kernel_rfl) (by kernel_rfl) rfl ?_
   intro w10 S10
   refine J.run 4 K62_10 [(11, iv (unE a b (-1))), (10, pv b5), (6, pv b3)] w10 (by kernel_rfl) ?_
   refine J.ok (OK.ldBox S10 0 32 60 0 (.agg (untA (unX a b (-1)))) (by kernel_rfl) rfl (by kernel_rfl)) ?_
   refine J.run 2 K62_11 [(34, .bool ((unE a b (-1)) == 0)), (32, .agg (untA (unX a b (-1)))), (6, pv b3)] w10 (by kernel_rfl) ?_
   refine J.stBox S10 1 60 0 (.agg (untA (unX a b (-1)))) (untC (unX a b (-1))) [box b5 (untC (unX a b (-1))) 60, box b3 (untC (unX a b (-1))) 60, box b2 (untC b) 60, box b1 (untC a) 60] (by kernel_rfl) rfl (by kernel_rfl) (by kernel_rfl) rfl ?_
   intro w11 S11
   refine J.run 2 K62_12 [(7, .bool ((unE a b (-1)) == 0)), (6, pv b3)] w11 (by kernel_rfl) ?_
   refine J.ret Tryz.f62 [.agg (untA (unX a b (-1))), .bool ((unE a b (-1)) == 0)] Tryz.func62 ⟨⟨⟨b3, 0, none⟩, by kernel_rfl, ldV_run (S11.nth 1 rfl) (by kernel_rfl)⟩, by kernel_rfl, trivial⟩ ?_
   refine hR _ _ ?_
   have e1 : unRX op a b = unX a b (-1) := by unfold unRX; (repeat first | rw [if_pos (by omega)] | rw [if_neg (by omega)])
   have e2 : unRB op a b = (unE a b (-1) == 0) := by unfold unRB; (repeat first | rw [if_pos (by omega)] | rw [if_neg (by omega)]) <;> rfl
   exact ⟨by rw [e1, e2]; rfl, S11.nil⟩
  ·skip
   refine J.head (.bool false) (congrArg Value.bool (beq_eq_false_iff_ne.2 fk2)) ?_
   refine J.run 4 K62_13 [(6, pv b3), (5, pv b2), (4, pv b1)] w3 (by kernel_rfl) ?_
   refine J.drawPlan (fun w_ => Sep w [box b2 (untC b) 60, box b1 (untC a) 60] w_) [(0, true), (1, true), (2, true), (3, true), (4, false), (5, true)] S3 Tryz.mixed (by kernel_rfl) (planOK_of (T := [(0, some 35, 16), (0, some 36, 16), (0, some 37, 32), (6, some 38, 206158430208), (1, none, 34359738432), (31, some 7, 274877906944)]) (by kernel_rfl) (by kernel_rfl)) ?_
   intro w12 S12
   refine PB.mk (S12.erase 0) ?_
   refine PL.takeOK 0 (fun w_ S_ => OK.ldBox S_ 1 35 60 0 (.agg (untA a)) (by kernel_rfl) rfl (by kernel_rfl)) rfl ?_
   refine PL.takeOK 1 (fun w_ S_ => OK.ldBox S_ 1 36 60 0 (.agg (untA a)) (by kernel_rfl) rfl (by kernel_rfl)) rfl ?_
   refine PL.takeOK 2 (fun w_ S_ => OK.ldBox S_ 0 37 60 0 (.agg (untA b)) (by kernel_rfl) rfl (by kernel_rfl)) rfl ?_
   refine PL.takeOK 3 (fun w_ S_ => OK.eqS 38 true 60 (untA a) (untA b) ((a.gM == b.gM) && ((a.gKg == b.gKg) && ((a.gS == b.gS) && ((a.gA == b.gA) && ((a.gK == b.gK) && true))))) (by kernel_rfl) (by kernel_rfl) (by kernel_rfl) ((a.gM == b.gM) && ((a.gKg == b.gKg) && ((a.gS == b.gS) && ((a.gA == b.gA) && (a.gK == b.gK))))) (by simp)) rfl ?_
   refine PL.stBox S12 0 60 0 (.agg (untA a)) (untC a) [box b3 (untC a) 60, box b2 (untC b) 60, box b1 (untC a) 60] (by kernel_rfl) rfl (by kernel_rfl) (by kernel_rfl) rfl ?_
   intro w13 S13
   refine PB.mk (S13.erase 0) ?_
   refine PL.take 5 7 (.bool ((a.gM == b.gM) && ((a.gKg == b.gKg) && ((a.gS == b.gS) && ((a.gA == b.gA) && (a.gK == b.gK)))))) (fun _ _ => by kernel_rfl) ?_
   refine PL.done ?_
   refine J.run 0 (rRest K62_13) [(7, .bool ((a.gM == b.gM) && ((a.gKg == b.gKg) && ((a.gS == b.gS) && ((a.gA == b.gA) && (a.gK == b.gK)))))), (6, pv b3)] w13 (by kernel_rfl) ?_
   refine J.ret Tryz.f62 [.agg (untA a), .bool ((a.gM == b.gM) && ((a.gKg == b.gKg) && ((a.gS == b.gS) && ((a.gA == b.gA) && (a.gK == b.gK)))))] Tryz.func62 ⟨⟨⟨b3, 0, none⟩, by kernel_rfl, ldV_run (S13.nth 0 rfl) (by kernel_rfl)⟩, by kernel_rfl, trivial⟩ ?_
   refine hR _ _ ?_
   have e1 : unRX op a b = a := by unfold unRX; (repeat first | rw [if_pos (by omega)] | rw [if_neg (by omega)])
   have e2 : unRB op a b = unEq a b := by unfold unRB; (repeat first | rw [if_pos (by omega)] | rw [if_neg (by omega)]) <;> rfl
   exact ⟨by rw [e1, e2]; rfl, S13.nil⟩

end Go.Proofs.YthfpejhonhaggaaGreatDoor

