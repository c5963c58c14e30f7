/- Walks of functions of this seat, printed by a program over the engine. Conditions: as each theorem says. -/
import Derived.Test.YthhdaackhfffiaaDoorZxD16
namespace Go.Proofs.YthhdaackhfffiaaDoor
open Go.Eng Go.RowKit
set_option linter.unusedSimpArgs false
set_option linter.unusedVariables false
abbrev kvD17_1 : List Value := [.string ⟨#[97, 116]⟩, .string ⟨#[112, 101, 100, 97, 108]⟩, .string ⟨#[98, 114, 97, 107, 101]⟩, .string ⟨#[103, 101, 97, 114]⟩, .string ⟨#[108, 111, 97, 100]⟩]
abbrev kvD17_2 : List Value := [iv 0, iv 0, iv 0, iv 0, iv 0]
abbrev kvD17_3 : List Value := [iv 1099511627776, iv 1000, iv 1000, iv 6, iv 2000]
abbrev kvD17_4 : List Value := [iv 0, iv 0, iv 0, iv 0, iv (-500)]
abbrev kvD17_5 : List Value := [iv 0, .string ByteArray.empty, iv 0, iv 0]
abbrev kvD17_6 : Array Value := #[iv 0, iv 0, iv 0, iv 0, iv 0]
theorem hb38 : HasBody Tryd.prog 38 := fun _ _ => by kernel_rfl
noncomputable def K38_0 : List Item := adv 2 [] (bodyOf Tryd.f38)
noncomputable def K38_1 : List Item := adv 4 [] (popK (popK K38_0))
noncomputable def K38_2 : List Item := adv 4 [] (popK K38_1)
noncomputable def K38_3 : List Item := adv 4 [] (popK K38_2)
noncomputable def K38_4 : List Item := adv 4 [] (popK K38_3)
noncomputable def K38_5 : List Item := adv 26 [true] (popK K38_4)
noncomputable def K38_6 : List Item := adv 2 [true] K38_5
noncomputable def K38_7 : List Item := adv 6 [false] K38_5
noncomputable def K38_8 : List Item := adv 11 [true] (popK (popK (popK (popK K38_7))))
noncomputable def K38_9 : List Item := adv 2 [true] (rRest K38_8)
noncomputable def K38_10 : List Item := adv 9 [false] (rRest K38_8)
noncomputable def K38_11 : List Item := adv 18 [true] K38_10
noncomputable def K38_12 : List Item := adv 2 [true] K38_11
noncomputable def K38_13 : List Item := adv 6 [false] K38_11
noncomputable def K38_14 : List Item := adv 13 [false] (popK (popK (popK (popK K38_13))))
noncomputable def K38_15 : List Item := adv 14 [] (popK (popK K38_14))
noncomputable def K38_16 : List Item := adv 8 [false] K38_15
noncomputable def K38_17 : List Item := adv 4 [] K38_16
noncomputable def K38_18 : List Item := adv 3 [] (popK (popK K38_17))
noncomputable def K38_19 : List Item := adv 11 [true] K38_18
noncomputable def K38_20 : List Item := adv 4 [] K38_18
noncomputable def K38_21 : List Item := adv 3 [] (popK (popK K38_20))
noncomputable def K38_22 : List Item := adv 2 [true] K38_21
noncomputable def K38_23 : List Item := adv 4 [false] K38_21
noncomputable def K38_24 : List Item := List.drop 1 K38_23
noncomputable def K38_25 : List Item := adv 2 [true] K38_24
noncomputable def K38_26 : List Item := adv 6 [false] K38_24
noncomputable def K38_27 : List Item := adv 8 [] (popK (popK K38_26))
noncomputable def K38_28 : List Item := adv 18 [true] K38_27
noncomputable def K38_29 : List Item := adv 2 [true] K38_28
noncomputable def K38_30 : List Item := adv 6 [false] K38_28
noncomputable def K38_31 : List Item := adv 11 [true] (popK (popK (popK (popK K38_30))))
noncomputable def K38_32 : List Item := adv 2 [true] (rRest K38_31)
noncomputable def K38_33 : List Item := adv 9 [false] (rRest K38_31)
noncomputable def K38_34 : List Item := adv 18 [true] K38_33
noncomputable def K38_35 : List Item := adv 2 [true] K38_34
noncomputable def K38_36 : List Item := adv 6 [false] K38_34
noncomputable def K38_37 : List Item := adv 13 [false] (popK (popK (popK (popK K38_36))))
noncomputable def K38_38 : List Item := adv 14 [] (popK (popK K38_37))
noncomputable def K38_39 : List Item := adv 8 [false] K38_38
noncomputable def K38_40 : List Item := adv 4 [] K38_39
noncomputable def K38_41 : List Item := adv 3 [] (popK (popK K38_40))
noncomputable def K38_42 : List Item := adv 11 [true] K38_41
noncomputable def K38_43 : List Item := adv 4 [] K38_41
noncomputable def K38_44 : List Item := adv 3 [] (popK (popK K38_43))
noncomputable def K38_45 : List Item := adv 2 [true] K38_44
noncomputable def K38_46 : List Item := adv 31 [false, false] K38_44
noncomputable def K38_47 : List Item := adv 8 [] (popK (popK K38_46))
noncomputable def K38_48 : List Item := adv 18 [true] K38_47
noncomputable def K38_49 : List Item := adv 2 [true] K38_48
noncomputable def K38_50 : List Item := adv 6 [false] K38_48
noncomputable def K38_51 : List Item := adv 11 [true] (popK (popK (popK (popK K38_50))))
noncomputable def K38_52 : List Item := adv 2 [true] (rRest K38_51)
noncomputable def K38_53 : List Item := adv 9 [false] (rRest K38_51)
noncomputable def K38_54 : List Item := adv 18 [true] K38_53
noncomputable def K38_55 : List Item := adv 2 [true] K38_54
noncomputable def K38_56 : List Item := adv 6 [false] K38_54
noncomputable def K38_57 : List Item := adv 13 [false] (popK (popK (popK (popK K38_56))))
noncomputable def K38_58 : List Item := adv 14 [] (popK (popK K38_57))
noncomputable def K38_59 : List Item := adv 8 [false] K38_58
noncomputable def K38_60 : List Item := adv 4 [] K38_59
noncomputable def K38_61 : List Item := adv 3 [] (popK (popK K38_60))
noncomputable def K38_62 : List Item := adv 11 [true] K38_61
noncomputable def K38_63 : List Item := adv 4 [] K38_61
noncomputable def K38_64 : List Item := adv 3 [] (popK (popK K38_63))
noncomputable def K38_65 : List Item := adv 2 [true] K38_64
noncomputable def K38_66 : List Item := adv 31 [false, false] K38_64
noncomputable def K38_67 : List Item := adv 8 [] (popK (popK K38_66))
noncomputable def K38_68 : List Item := adv 18 [true] K38_67
noncomputable def K38_69 : List Item := adv 2 [true] K38_68
noncomputable def K38_70 : List Item := adv 6 [false] K38_68
noncomputable def K38_71 : List Item := adv 11 [true] (popK (popK (popK (popK K38_70))))
noncomputable def K38_72 : List Item := adv 2 [true] (rRest K38_71)
noncomputable def K38_73 : List Item := adv 9 [false] (rRest K38_71)
noncomputable def K38_74 : List Item := adv 18 [true] K38_73
noncomputable def K38_75 : List Item := adv 2 [true] K38_74
noncomputable def K38_76 : List Item := adv 6 [false] K38_74
noncomputable def K38_77 : List Item := adv 13 [false] (popK (popK (popK (popK K38_76))))
noncomputable def K38_78 : List Item := adv 14 [] (popK (popK K38_77))
noncomputable def K38_79 : List Item := adv 8 [false] K38_78
noncomputable def K38_80 : List Item := adv 4 [] K38_79
noncomputable def K38_81 : List Item := adv 3 [] (popK (popK K38_80))
noncomputable def K38_82 : List Item := adv 11 [true] K38_81
noncomputable def K38_83 : List Item := adv 4 [] K38_81
noncomputable def K38_84 : List Item := adv 3 [] (popK (popK K38_83))
noncomputable def K38_85 : List Item := adv 2 [true] K38_84
noncomputable def K38_86 : List Item := adv 31 [false, false] K38_84
noncomputable def K38_87 : List Item := adv 8 [] (popK (popK K38_86))
noncomputable def K38_88 : List Item := adv 18 [true] K38_87
noncomputable def K38_89 : List Item := adv 2 [true] K38_88
noncomputable def K38_90 : List Item := adv 6 [false] K38_88
noncomputable def K38_91 : List Item := adv 11 [true] (popK (popK (popK (popK K38_90))))
noncomputable def K38_92 : List Item := adv 2 [true] (rRest K38_91)
noncomputable def K38_93 : List Item := adv 9 [false] (rRest K38_91)
noncomputable def K38_94 : List Item := adv 18 [true] K38_93
noncomputable def K38_95 : List Item := adv 2 [true] K38_94
noncomputable def K38_96 : List Item := adv 6 [false] K38_94
noncomputable def K38_97 : List Item := adv 13 [false] (popK (popK (popK (popK K38_96))))
noncomputable def K38_98 : List Item := adv 14 [] (popK (popK K38_97))
noncomputable def K38_99 : List Item := adv 8 [false] K38_98
noncomputable def K38_100 : List Item := adv 4 [] K38_99
noncomputable def K38_101 : List Item := adv 3 [] (popK (popK K38_100))
noncomputable def K38_102 : List Item := adv 11 [true] K38_101
noncomputable def K38_103 : List Item := adv 4 [] K38_101
noncomputable def K38_104 : List Item := adv 3 [] (popK (popK K38_103))
noncomputable def K38_105 : List Item := adv 2 [true] K38_104
noncomputable def K38_106 : List Item := adv 31 [false, false] K38_104
noncomputable def K38_107 : List Item := adv 8 [] (popK (popK K38_106))
noncomputable def K38_108 : List Item := adv 15 [false] K38_107
noncomputable def K38_109 : List Item := adv 2 [true] K38_108
noncomputable def K38_110 : List Item := adv 4 [false] K38_108
noncomputable def K38_111 : List Item := adv 2 [] (popK (popK (popK (popK (popK (popK (popK (popK (popK (popK K38_110))))))))))
noncomputable def K38_112 : List Item := adv 2 [] (popK (popK K38_111))
noncomputable def K38_113 : List Item := adv 20 [true] K38_99
noncomputable def K38_114 : List Item := adv 2 [true] K38_98
noncomputable def K38_115 : List Item := adv 20 [true] K38_79
noncomputable def K38_116 : List Item := adv 2 [true] K38_78
noncomputable def K38_117 : List Item := adv 20 [true] K38_59
noncomputable def K38_118 : List Item := adv 2 [true] K38_58
noncomputable def K38_119 : List Item := adv 20 [true] K38_39
noncomputable def K38_120 : List Item := adv 2 [true] K38_38
noncomputable def K38_121 : List Item := adv 7 [] K38_23
noncomputable def K38_122 : List Item := adv 4 [] K38_121
noncomputable def K38_123 : List Item := adv 3 [] K38_122
noncomputable def K38_124 : List Item := adv 7 [] K38_121
noncomputable def K38_125 : List Item := adv 20 [true] K38_16
noncomputable def K38_126 : List Item := adv 2 [true] K38_15
set_option maxRecDepth 20000 in
set_option maxHeartbeats 20000000 in
theorem rline_any (a : Option Addr) (n c : Nat) (L : List Tk) (bf : Int) (w : World) (hl : Recs tkE 4 w a n L) (hne : n ≠ 0) (hnL : n ≤ 1000000) (hts : ∀ k, (L.getD k tk0).gText.size ≤ 1000000) : Ret Tryd.prog 38 #[.slice a n c, iv bf] w (fun v w' => v = .tuple #[.agg #[iv (rlV L bf).gAt, iv (rlV L bf).gPedal, iv (rlV L bf).gBrake, iv (rlV L bf).gGear, iv (rlV L bf).gLoad], .agg #[iv (rlL L bf), iv (rlC L bf)], iv (errO (lineS L false bf))] ∧ Sep w [] w') := by
 have S0 := Sep.refl w
 refine Ret.named fun R hR => ?_
 refine Ret.of_J (N := 134) [(0, .slice a n c), (1, iv bf)] Tryd.func38 rfl rfl (Nat.le_of_ble_eq_true (by kernel_rfl)) (by kernel_rfl) ?_
 have hll := hl.len_eq
 refine J.run 2 K38_0 [(0, .slice a n c), (1, iv bf)] w (by kernel_rfl) ?_
 refine J.new S0 4 kvD17_2 27 (by kernel_rfl) ?_
 intro b1 w1 S1
 refine J.new S1 5 [iv 0, iv 0] 39 (by kernel_rfl) ?_
 intro b2 w2 S2
 refine J.run 4 K38_1 [(5, .pointer (some ⟨b2, 0, none⟩)), (4, .pointer (some ⟨b1, 0, none⟩)), (0, .slice a n c), (1, iv bf)] w2 (by kernel_rfl) ?_
 refine J.newSlice S2 16 5 kvD17_1 9 (by kernel_rfl) ?_
 intro b3 w3 S3
 refine J.run 4 K38_2 [(7, .slice (some ⟨b3, 0, none⟩) 5 5), (5, .pointer (some ⟨b2, 0, none⟩)), (4, .pointer (some ⟨b1, 0, none⟩)), (0, .slice a n c), (1, iv bf)] w3 (by kernel_rfl) ?_
 refine J.newSlice S3 17 5 kvD17_4 3 (by kernel_rfl) ?_
 intro b4 w4 S4
 refine J.run 4 K38_3 [(8, .slice (some ⟨b4, 0, none⟩) 5 5), (7, .slice (some ⟨b3, 0, none⟩) 5 5), (5, .pointer (some ⟨b2, 0, none⟩)), (4, .pointer (some ⟨b1, 0, none⟩)), (0, .slice a n c), (1, iv bf)] w4 (by kernel_rfl) ?_
 refine J.newSlice S4 18 5 kvD17_3 3 (by kernel_rfl) ?_
 intro b5 w5 S5
 refine J.run 4 K38_4 [(9, .slice (some ⟨b5, 0, none⟩) 5 5), (8, .slice (some ⟨b4, 0, none⟩) 5 5), (7, .slice (some ⟨b3, 0, none⟩) 5 5), (5, .pointer (some ⟨b2, 0, none⟩)), (4, .pointer (some ⟨b1, 0, none⟩)), (0, .slice a n c), (1, iv bf)] w5 (by kernel_rfl) ?_
 refine J.new S5 10 kvD17_2 48 (by kernel_rfl) ?_
 intro b6 w6 S6
 refine J.run 26 K38_5 [(26, .bool (decide (0 ≥ (n : Int)))), (11, iv 0), (10, .pointer (some ⟨b6, 0, none⟩)), (9, .slice (some ⟨b5, 0, none⟩) 5 5), (8, .slice (some ⟨b4, 0, none⟩) 5 5), (7, .slice (some ⟨b3, 0, none⟩) 5 5), (5, .pointer (some ⟨b2, 0, none⟩)), (4, .pointer (some ⟨b1, 0, none⟩)), (0, .slice a n c), (1, iv bf)] w6 (by kernel_rfl) ?_
 by_cases fk1 : 0 ≥ (n : Int)
 ·skip
  refine J.head (.bool true) (congrArg Value.bool (decide_eq_true fk1)) ?_
  refine J.run 2 K38_6 [(5, .pointer (some ⟨b2, 0, none⟩)), (4, .pointer (some ⟨b1, 0, none⟩)), (0, .slice a n c)] w6 (by kernel_rfl) ?_
  obtain ⟨p1, hp1, hc1⟩ := hl.at tk0 ((n : Int) - 1).toNat (by omega)
  refine J.drawPlan (fun w_ => Sep w [box b6 kvD17_2 48, box b5 kvD17_3 3, box b4 kvD17_4 3, box b3 kvD17_1 9, box b1 kvD17_2 27] w_) [(0, true), (1, true), (2, true), (3, true), (4, true), (5, true), (6, true), (7, true), (8, false), (9, false), (10, true)] S6 Tryd.mixed (by kernel_rfl) (planOK_of (T := [(0, some 27, 0), (0, some 28, 1), (0, some 29, 1), (4, some 30, 536870912), (8, some 31, 1073741824), (18, some 32, 2415919104), (32, some 33, 4294967296), (64, some 34, 8589934592), (1, none, 134217744), (511, none, 17179869216), (1023, some 6, 0)]) (by kernel_rfl) (by kernel_rfl)) ?_
  intro w7 S7
  refine PB.mk (S7.erase 4) ?_
  refine PL.take 0 27 (.agg kvD17_6) (fun _ _ => by kernel_rfl) ?_
  refine PL.take 1 28 (.slice a n c) (fun _ _ => by kernel_rfl) ?_
  refine PL.take 2 29 (.slice a n c) (fun _ _ => by kernel_rfl) ?_
  refine PL.take 3 30 (iv (n : Int)) (fun _ _ => by kernel_rfl) ?_
  refine PL.take 4 31 (iv (IntKind.wrap .i64 ((n : Int) - 1))) (fun _ _ => by kernel_rfl) ?_
  refine PL.head (iv ((n : Int) - 1)) (congrArg (Value.int .i64) (IntWalk.i64_in _ (by omega))) ?_
  refine PL.takeOK 5 (fun w_ S_ => OK.index 32 71 4 a p1 n ((n : Int) - 1).toNat ((n : Int) - 1) (p1.add (((n : Int) - 1).toNat * 4)) (by kernel_rfl) (by kernel_rfl) hp1 (by omega) (by omega) rfl) rfl ?_
  refine PL.take 6 33 (.pointer (some ((p1.add (((n : Int) - 1).toNat * 4)).add 2))) (fun _ _ => by kernel_rfl) ?_
  refine PL.takeOK 7 (fun w_ S_ => OK.ldCells 34 39 ((p1.add (((n : Int) - 1).toNat * 4)).add 2) [iv ((L.getD ((n : Int) - 1).toNat tk0).gPlace_Line), iv ((L.getD ((n : Int) - 1).toNat tk0).gPlace_Column)] (by kernel_rfl) (by kernel_rfl) (by kernel_rfl) (fun j_ v_ hj_ => by rw [addr_add_add]; exact ((fun j_ v_ hj_ => S_.cell (hc1 j_ v_ hj_))) (2 + j_) v_ (by rcases j_ with _ | _ | j_ <;> first | exact hj_ | (cases hj_; done) | (simp at hj_; done)))) rfl ?_
  refine PL.stBox S7 5 27 0 (.agg kvD17_6) kvD17_2 [box b6 kvD17_2 48, box b5 kvD17_3 3, box b4 kvD17_4 3, box b3 kvD17_1 9, box b2 [iv 0, iv 0] 39, box b1 kvD17_2 27] (by kernel_rfl) rfl (by kernel_rfl) (by kernel_rfl) rfl ?_
  intro w8 S8
  refine PB.mk (S8.erase 4) ?_
  refine PL.stBox S8 4 39 0 (.agg #[iv ((L.getD ((n : Int) - 1).toNat tk0).gPlace_Line), iv ((L.getD ((n : Int) - 1).toNat tk0).gPlace_Column)]) [iv ((L.getD ((n : Int) - 1).toNat tk0).gPlace_Line), iv ((L.getD ((n : Int) - 1).toNat tk0).gPlace_Column)] [box b6 kvD17_2 48, box b5 kvD17_3 3, box b4 kvD17_4 3, box b3 kvD17_1 9, box b2 [iv ((L.getD ((n : Int) - 1).toNat tk0).gPlace_Line), iv ((L.getD ((n : Int) - 1).toNat tk0).gPlace_Column)] 39, box b1 kvD17_2 27] (by kernel_rfl) rfl (by kernel_rfl) (by kernel_rfl) rfl ?_
  intro w9 S9
  refine PB.mk (S9.erase 4) ?_
  refine PL.take 10 6 (iv 4) (fun _ _ => by kernel_rfl) ?_
  refine PL.done ?_
  refine J.run 0 (rRest K38_6) [(6, iv 4), (5, .pointer (some ⟨b2, 0, none⟩)), (4, .pointer (some ⟨b1, 0, none⟩))] w9 (by kernel_rfl) ?_
  refine J.ret Tryd.f38 [.agg kvD17_6, .agg #[iv ((L.getD ((n : Int) - 1).toNat tk0).gPlace_Line), iv ((L.getD ((n : Int) - 1).toNat tk0).gPlace_Column)], iv 4] Tryd.func38 ⟨⟨⟨b1, 0, none⟩, by kernel_rfl, ldV_run (S9.nth 5 rfl) (by kernel_rfl)⟩, ⟨⟨b2, 0, none⟩, by kernel_rfl, ldV_run (S9.nth 4 rfl) (by kernel_rfl)⟩, by kernel_rfl, trivial⟩ ?_
  refine hR _ _ ?_
  exfalso
  omega
 ·skip
  refine J.head (.bool false) (congrArg Value.bool (decide_eq_false fk1)) ?_
  refine J.run 6 K38_7 [(36, iv 0), (35, .slice a n c), (11, iv 0), (10, .pointer (some ⟨b6, 0, none⟩)), (9, .slice (some ⟨b5, 0, none⟩) 5 5), (8, .slice (some ⟨b4, 0, none⟩) 5 5), (7, .slice (some ⟨b3, 0, none⟩) 5 5), (5, .pointer (some ⟨b2, 0, none⟩)), (4, .pointer (some ⟨b1, 0, none⟩)), (0, .slice a n c), (1, iv bf)] w6 (by kernel_rfl) ?_
  obtain ⟨p2, hp2, hc2⟩ := hl.at tk0 0 (by omega)
  refine J.ok (OK.index 37 71 4 a p2 n 0 0 (p2.add (0 * 4)) (by kernel_rfl) (by kernel_rfl) hp2 (by omega) (by omega) rfl) ?_
  refine J.ok (OK.ldCells 38 78 (p2.add (0 * 4)) (tkE (L.getD 0 tk0)) (by kernel_rfl) (by kernel_rfl) (by kernel_rfl) (fun j_ v_ hj_ => S6.cell (hc2 j_ v_ hj_))) ?_
  refine J.new S6 12 kvD17_5 78 (by kernel_rfl) ?_
  intro b7 w10 S10
  refine J.stBox S10 0 78 0 (.agg #[iv ((L.getD 0 tk0).gKind), .string ((L.getD 0 tk0).gText), iv ((L.getD 0 tk0).gPlace_Line), iv ((L.getD 0 tk0).gPlace_Column)]) (tkE (L.getD 0 tk0)) [box b7 (tkE (L.getD 0 tk0)) 78, box b6 kvD17_2 48, box b5 kvD17_3 3, box b4 kvD17_4 3, box b3 kvD17_1 9, box b2 [iv 0, iv 0] 39, box b1 kvD17_2 27] (by kernel_rfl) rfl (by kernel_rfl) (by kernel_rfl) rfl ?_
  intro w11 S11
  refine J.run 11 K38_8 [(12, .pointer (some ⟨b7, 0, none⟩)), (11, iv 0), (10, .pointer (some ⟨b6, 0, none⟩)), (9, .slice (some ⟨b5, 0, none⟩) 5 5), (8, .slice (some ⟨b4, 0, none⟩) 5 5), (7, .slice (some ⟨b3, 0, none⟩) 5 5), (5, .pointer (some ⟨b2, 0, none⟩)), (4, .pointer (some ⟨b1, 0, none⟩)), (0, .slice a n c), (1, iv bf)] w11 (by kernel_rfl) ?_
  obtain ⟨p3, hp3, hc3⟩ := (show Ones Value.string w11 (some ⟨b3, 0, none⟩) 5 [⟨#[97, 116]⟩, ⟨#[112, 101, 100, 97, 108]⟩, ⟨#[98, 114, 97, 107, 101]⟩, ⟨#[103, 101, 97, 114]⟩, ⟨#[108, 111, 97, 100]⟩] from ⟨rfl, box_cells (S11.nth 4 rfl)⟩).at ByteArray.empty 0 (by omega)
  refine J.drawStill S11 8 Tryd.mixed (by kernel_rfl) (by kernel_rfl) (by kernel_rfl) ?_
  intro w12 S12
  refine SL.ok (by decide) (OK.run 42 (.pointer (some ⟨b7, 1, none⟩)) (by kernel_rfl)) ?_
  refine SL.ok (by decide) (OK.ldBox S12 0 43 9 1 (.string ((L.getD 0 tk0).gText)) (by kernel_rfl) rfl (by kernel_rfl)) ?_
  refine SL.ok (by decide) (OK.run 44 (.slice (some ⟨b3, 0, none⟩) 5 5) (by kernel_rfl)) ?_
  refine SL.ok (by decide) (OK.run 45 (iv 0) (by kernel_rfl)) ?_
  refine SL.ok (by decide) (OK.run 46 (iv 0) (by kernel_rfl)) ?_
  refine SL.ok (by decide) (OK.index 47 69 1 (some ⟨b3, 0, none⟩) ⟨b3, 0, none⟩ 5 0 0 ⟨b3, 0, none⟩ (by kernel_rfl) (by kernel_rfl) rfl (by omega) (by omega) (by rfl)) ?_
  refine SL.ok (by decide) (OK.ldBox S12 4 48 9 0 (.string ⟨#[97, 116]⟩) (by kernel_rfl) rfl (by kernel_rfl)) ?_
  refine SL.ok (by decide) (OK.run 49 (.bool (!(((L.getD 0 tk0).gText).toList == (⟨#[97, 116]⟩ : ByteArray).toList))) (by kernel_rfl)) ?_
  refine SL.done ?_
  refine TL.done (by kernel_rfl) ?_
  refine J.run 0 (rRest K38_8) [(49, .bool (!(((L.getD 0 tk0).gText).toList == (⟨#[97, 116]⟩ : ByteArray).toList))), (12, .pointer (some ⟨b7, 0, none⟩)), (11, iv 0), (10, .pointer (some ⟨b6, 0, none⟩)), (9, .slice (some ⟨b5, 0, none⟩) 5 5), (8, .slice (some ⟨b4, 0, none⟩) 5 5), (7, .slice (some ⟨b3, 0, none⟩) 5 5), (5, .pointer (some ⟨b2, 0, none⟩)), (4, .pointer (some ⟨b1, 0, none⟩)), (0, .slice a n c), (1, iv bf)] w12 (by kernel_rfl) ?_
  rcases Bool.eq_false_or_eq_true (!(((L.getD 0 tk0).gText).toList == (⟨#[97, 116]⟩ : ByteArray).toList)) with fk2 | fk2
  ·skip
   refine J.head (.bool true) (congrArg Value.bool fk2) ?_
   have hw0 := fk2
   refine J.run 2 K38_9 [(12, .pointer (some ⟨b7, 0, none⟩)), (5, .pointer (some ⟨b2, 0, none⟩)), (4, .pointer (some ⟨b1, 0, none⟩))] w12 (by kernel_rfl) ?_
   refine J.drawPlan (fun w_ => Sep w [box b7 (tkE (L.getD 0 tk0)) 78, box b6 kvD17_2 48, box b5 kvD17_3 3, box b4 kvD17_4 3, box b3 kvD17_1 9, box b1 kvD17_2 27] w_) [(0, true), (1, true), (2, true), (3, false), (4, false), (5, true)] S12 Tryd.mixed (by kernel_rfl) (planOK_of (T := [(0, some 50, 0), (0, some 51, 4096), (2, some 52, 2251799813685248), (1, none, 1125899906842640), (15, none, 4503599627370528), (31, some 6, 0)]) (by kernel_rfl) (by kernel_rfl)) ?_
   intro w13 S13
   refine PB.mk (S13.erase 5) ?_
   refine PL.take 0 50 (.agg kvD17_6) (fun _ _ => by kernel_rfl) ?_
   refine PL.take 1 51 (.pointer (some ⟨b7, 2, none⟩)) (fun _ _ => by kernel_rfl) ?_
   refine PL.takeOK 2 (fun w_ S_ => OK.ldBox S_ 0 52 39 2 (.agg #[iv ((L.getD 0 tk0).gPlace_Line), iv ((L.getD 0 tk0).gPlace_Column)]) (by kernel_rfl) rfl (by kernel_rfl)) rfl ?_
   refine PL.stBox S13 6 27 0 (.agg kvD17_6) kvD17_2 [box b7 (tkE (L.getD 0 tk0)) 78, box b6 kvD17_2 48, box b5 kvD17_3 3, box b4 kvD17_4 3, box b3 kvD17_1 9, box b2 [iv 0, iv 0] 39, box b1 kvD17_2 27] (by kernel_rfl) rfl (by kernel_rfl) (by kernel_rfl) rfl ?_
   intro w14 S14
   refine PB.mk (S14.erase 5) ?_
   refine PL.stBox S14 5 39 0 (.agg #[iv ((L.getD 0 tk0).gPlace_Line), iv ((L.getD 0 tk0).gPlace_Column)]) [iv ((L.getD 0 tk0).gPlace_Line), iv ((L.getD 0 tk0).gPlace_Column)] [box b7 (tkE (L.getD 0 tk0)) 78, box b6 kvD17_2 48, box b5 kvD17_3 3, box b4 kvD17_4 3, box b3 kvD17_1 9, box b2 [iv ((L.getD 0 tk0).gPlace_Line), iv ((L.getD 0 tk0).gPlace_Column)] 39, box b1 kvD17_2 27] (by kernel_rfl) rfl (by kernel_rfl) (by kernel_rfl) rfl ?_
   intro w15 S15
   refine PB.mk (S15.erase 5) ?_
   refine PL.take 5 6 (iv 3) (fun _ _ => by kernel_rfl) ?_
   refine PL.done ?_
   refine J.run 0 (rRest K38_9) [(6, iv 3), (5, .pointer (some ⟨b2, 0, none⟩)), (4, .pointer (some ⟨b1, 0, none⟩))] w15 (by kernel_rfl) ?_
   refine J.ret Tryd.f38 [.agg kvD17_6, .agg #[iv ((L.getD 0 tk0).gPlace_Line), iv ((L.getD 0 tk0).gPlace_Column)], iv 3] Tryd.func38 ⟨⟨⟨b1, 0, none⟩, by kernel_rfl, ldV_run (S15.nth 6 rfl) (by kernel_rfl)⟩, ⟨⟨b2, 0, none⟩, by kernel_rfl, ldV_run (S15.nth 5 rfl) (by kernel_rfl)⟩, by kernel_rfl, trivial⟩ ?_
   refine hR _ _ ?_
   have h0_ : ls1 L false = some (3, 0) := ls1_hit hll (by omega) hw0
   have h_ : lineS L false bf = some (3, 0) := up1 h0_
   obtain ⟨e1, ⟨e2, e3⟩, e4⟩ := rl_some h_
   exact ⟨by rw [e1, e2, e3, e4]; rfl, S15.nil⟩
  ·skip
   refine J.head (.bool false) (congrArg Value.bool fk2) ?_
   have hw0 := fk2
   have s1 : ls1 L false = none := ls1_pass hll (by omega) fk2
   refine J.run 9 K38_10 [(11, iv 1), (10, .pointer (some ⟨b6, 0, none⟩)), (9, .slice (some ⟨b5, 0, none⟩) 5 5), (8, .slice (some ⟨b4, 0, none⟩) 5 5), (7, .slice (some ⟨b3, 0, none⟩) 5 5), (5, .pointer (some ⟨b2, 0, none⟩)), (4, .pointer (some ⟨b1, 0, none⟩)), (0, .slice a n c), (1, iv bf)] w12 (by kernel_rfl) ?_
   have S16 : Sep w [box b6 kvD17_2 48, box b5 kvD17_3 3, box b4 kvD17_4 3, box b3 kvD17_1 9, box b2 [iv 0, iv 0] 39, box b1 kvD17_2 27] w12 := S12.erase 0
   clear S12
   refine J.run 18 K38_11 [(26, .bool (decide (1 ≥ (n : Int)))), (11, iv 1), (10, .pointer (some ⟨b6, 0, none⟩)), (9, .slice (some ⟨b5, 0, none⟩) 5 5), (8, .slice (some ⟨b4, 0, none⟩) 5 5), (7, .slice (some ⟨b3, 0, none⟩) 5 5), (5, .pointer (some ⟨b2, 0, none⟩)), (4, .pointer (some ⟨b1, 0, none⟩)), (0, .slice a n c), (1, iv bf)] w12 (by kernel_rfl) ?_
   by_cases fk3 : 1 ≥ (n : Int)
   ·skip
    refine J.head (.bool true) (congrArg Value.bool (decide_eq_true fk3)) ?_
    refine J.run 2 K38_12 [(5, .pointer (some ⟨b2, 0, none⟩)), (4, .pointer (some ⟨b1, 0, none⟩)), (0, .slice a n c)] w12 (by kernel_rfl) ?_
    obtain ⟨p4, hp4, hc4⟩ := hl.at tk0 ((n : Int) - 1).toNat (by omega)
    refine J.drawPlan (fun w_ => Sep w [box b6 kvD17_2 48, box b5 kvD17_3 3, box b4 kvD17_4 3, box b3 kvD17_1 9, box b1 kvD17_2 27] w_) [(0, true), (1, true), (2, true), (3, true), (4, true), (5, true), (6, true), (7, true), (8, false), (9, false), (10, true)] S16 Tryd.mixed (by kernel_rfl) (planOK_of (T := [(0, some 27, 0), (0, some 28, 1), (0, some 29, 1), (4, some 30, 536870912), (8, some 31, 1073741824), (18, some 32, 2415919104), (32, some 33, 4294967296), (64, some 34, 8589934592), (1, none, 134217744), (511, none, 17179869216), (1023, some 6, 0)]) (by kernel_rfl) (by kernel_rfl)) ?_
    intro w16 S17
    refine PB.mk (S17.erase 4) ?_
    refine PL.take 0 27 (.agg kvD17_6) (fun _ _ => by kernel_rfl) ?_
    refine PL.take 1 28 (.slice a n c) (fun _ _ => by kernel_rfl) ?_
    refine PL.take 2 29 (.slice a n c) (fun _ _ => by kernel_rfl) ?_
    refine PL.take 3 30 (iv (n : Int)) (fun _ _ => by kernel_rfl) ?_
    refine PL.take 4 31 (iv (IntKind.wrap .i64 ((n : Int) - 1))) (fun _ _ => by kernel_rfl) ?_
    refine PL.head (iv ((n : Int) - 1)) (congrArg (Value.int .i64) (IntWalk.i64_in _ (by omega))) ?_
    refine PL.takeOK 5 (fun w_ S_ => OK.index 32 71 4 a p4 n ((n : Int) - 1).toNat ((n : Int) - 1) (p4.add (((n : Int) - 1).toNat * 4)) (by kernel_rfl) (by kernel_rfl) hp4 (by omega) (by omega) rfl) rfl ?_
    refine PL.take 6 33 (.pointer (some ((p4.add (((n : Int) - 1).toNat * 4)).add 2))) (fun _ _ => by kernel_rfl) ?_
    refine PL.takeOK 7 (fun w_ S_ => OK.ldCells 34 39 ((p4.add (((n : Int) - 1).toNat * 4)).add 2) [iv ((L.getD ((n : Int) - 1).toNat tk0).gPlace_Line), iv ((L.getD ((n : Int) - 1).toNat tk0).gPlace_Column)] (by kernel_rfl) (by kernel_rfl) (by kernel_rfl) (fun j_ v_ hj_ => by rw [addr_add_add]; exact ((fun j_ v_ hj_ => S_.cell (hc4 j_ v_ hj_))) (2 + j_) v_ (by rcases j_ with _ | _ | j_ <;> first | exact hj_ | (cases hj_; done) | (simp at hj_; done)))) rfl ?_
    refine PL.stBox S17 5 27 0 (.agg kvD17_6) kvD17_2 [box b6 kvD17_2 48, box b5 kvD17_3 3, box b4 kvD17_4 3, box b3 kvD17_1 9, box b2 [iv 0, iv 0] 39, box b1 kvD17_2 27] (by kernel_rfl) rfl (by kernel_rfl) (by kernel_rfl) rfl ?_
    intro w17 S18
    refine PB.mk (S18.erase 4) ?_
    refine PL.stBox S18 4 39 0 (.agg #[iv ((L.getD ((n : Int) - 1).toNat tk0).gPlace_Line), iv ((L.getD ((n : Int) - 1).toNat tk0).gPlace_Column)]) [iv ((L.getD ((n : Int) - 1).toNat tk0).gPlace_Line), iv ((L.getD ((n : Int) - 1).toNat tk0).gPlace_Column)] [box b6 kvD17_2 48, box b5 kvD17_3 3, box b4 kvD17_4 3, box b3 kvD17_1 9, box b2 [iv ((L.getD ((n : Int) - 1).toNat tk0).gPlace_Line), iv ((L.getD ((n : Int) - 1).toNat tk0).gPlace_Column)] 39, box b1 kvD17_2 27] (by kernel_rfl) rfl (by kernel_rfl) (by kernel_rfl) rfl ?_
    intro w18 S19
    refine PB.mk (S19.erase 4) ?_
    refine PL.take 10 6 (iv 4) (fun _ _ => by kernel_rfl) ?_
    refine PL.done ?_
    refine J.run 0 (rRest K38_12) [(6, iv 4), (5, .pointer (some ⟨b2, 0, none⟩)), (4, .pointer (some ⟨b1, 0, none⟩))] w18 (by kernel_rfl) ?_
    refine J.ret Tryd.f38 [.agg kvD17_6, .agg #[iv ((L.getD ((n : Int) - 1).toNat tk0).gPlace_Line), iv ((L.getD ((n : Int) - 1).toNat tk0).gPlace_Column)], iv 4] Tryd.func38 ⟨⟨⟨b1, 0, none⟩, by kernel_rfl, ldV_run (S19.nth 5 rfl) (by kernel_rfl)⟩, ⟨⟨b2, 0, none⟩, by kernel_rfl, ldV_run (S19.nth 4 rfl) (by kernel_rfl)⟩, by kernel_rfl, trivial⟩ ?_
    refine hR _ _ ?_
    have h0_ : ls2 L false = some (4, (n : Int) - 1) := num_end hll s1 (by omega)
    have h_ : lineS L false bf = some (4, (n : Int) - 1) := up2 h0_
    obtain ⟨e1, ⟨e2, e3⟩, e4⟩ := rl_some h_
    exact ⟨by rw [e1, e2, e3, e4]; rfl, S19.nil⟩
   ·skip
    refine J.head (.bool false) (congrArg Value.bool (decide_eq_false fk3)) ?_
    refine J.run 6 K38_13 [(36, iv 1), (35, .slice a n c), (11, iv 1), (10, .pointer (some ⟨b6, 0, none⟩)), (9, .slice (some ⟨b5, 0, none⟩) 5 5), (8, .slice (some ⟨b4, 0, none⟩) 5 5), (7, .slice (some ⟨b3, 0, none⟩) 5 5), (5, .pointer (some ⟨b2, 0, none⟩)), (4, .pointer (some ⟨b1, 0, none⟩)), (0, .slice a n c), (1, iv bf)] w12 (by kernel_rfl) ?_
    obtain ⟨p5, hp5, hc5⟩ := hl.at tk0 1 (by omega)
    refine J.ok (OK.index 37 71 4 a p5 n 1 1 (p5.add (1 * 4)) (by kernel_rfl) (by kernel_rfl) hp5 (by omega) (by omega) rfl) ?_
    refine J.ok (OK.ldCells 38 78 (p5.add (1 * 4)) (tkE (L.getD 1 tk0)) (by kernel_rfl) (by kernel_rfl) (by kernel_rfl) (fun j_ v_ hj_ => S16.cell (hc5 j_ v_ hj_))) ?_
    refine J.new S16 12 kvD17_5 78 (by kernel_rfl) ?_
    intro b8 w19 S20
    refine J.stBox S20 0 78 0 (.agg #[iv ((L.getD 1 tk0).gKind), .string ((L.getD 1 tk0).gText), iv ((L.getD 1 tk0).gPlace_Line), iv ((L.getD 1 tk0).gPlace_Column)]) (tkE (L.getD 1 tk0)) [box b8 (tkE (L.getD 1 tk0)) 78, box b6 kvD17_2 48, box b5 kvD17_3 3, box b4 kvD17_4 3, box b3 kvD17_1 9, box b2 [iv 0, iv 0] 39, box b1 kvD17_2 27] (by kernel_rfl) rfl (by kernel_rfl) (by kernel_rfl) rfl ?_
    intro w20 S21
    refine J.run 13 K38_14 [(54, .pointer (some ⟨b8, 1, none⟩)), (12, .pointer (some ⟨b8, 0, none⟩)), (11, iv 1), (10, .pointer (some ⟨b6, 0, none⟩)), (9, .slice (some ⟨b5, 0, none⟩) 5 5), (8, .slice (some ⟨b4, 0, none⟩) 5 5), (7, .slice (some ⟨b3, 0, none⟩) 5 5), (5, .pointer (some ⟨b2, 0, none⟩)), (4, .pointer (some ⟨b1, 0, none⟩)), (0, .slice a n c), (1, iv bf)] w20 (by kernel_rfl) ?_
    refine J.ok (OK.ldBox S21 0 55 9 1 (.string ((L.getD 1 tk0).gText)) (by kernel_rfl) rfl (by kernel_rfl)) ?_
    refine J.callF 56 52 #[.string ((L.getD 1 tk0).gText)] hb52 (by kernel_rfl) (read_any ((L.getD 1 tk0).gText) _ (by have := hts 0; first | omega | exact Nat.le_trans (hts _) (by decide))) ?_
    rintro _ w21 ⟨rx1, rfl, hrx1, hbrx1, T1⟩
    have S22 : Sep w [box b8 (tkE (L.getD 1 tk0)) 78, box b6 kvD17_2 48, box b5 kvD17_3 3, box b4 kvD17_4 3, box b3 kvD17_1 9, box b2 [iv 0, iv 0] 39, box b1 kvD17_2 27] w21 := S21.trans T1
    clear T1 S21
    refine J.run 14 K38_15 [(61, .bool (!(formL (ls ((L.getD 1 tk0).gText))))), (15, .bool (formL (ls ((L.getD 1 tk0).gText)) && decide ((digL (ls ((L.getD 1 tk0).gText))).length ≤ 13))), (13, iv rx1), (12, .pointer (some ⟨b8, 0, none⟩)), (11, iv 1), (10, .pointer (some ⟨b6, 0, none⟩)), (9, .slice (some ⟨b5, 0, none⟩) 5 5), (8, .slice (some ⟨b4, 0, none⟩) 5 5), (7, .slice (some ⟨b3, 0, none⟩) 5 5), (5, .pointer (some ⟨b2, 0, none⟩)), (4, .pointer (some ⟨b1, 0, none⟩)), (0, .slice a n c), (1, iv bf)] w21 (by kernel_rfl) ?_
    rcases Bool.eq_false_or_eq_true (formL (ls ((L.getD 1 tk0).gText))) with fk4 | fk4
    ·skip
     refine J.head (.bool false) (congrArg Value.bool (by rw [fk4]; rfl)) ?_
     have hg1 := fk4
     refine J.run 8 K38_16 [(67, .bool (!(formL (ls ((L.getD 1 tk0).gText)) && decide ((digL (ls ((L.getD 1 tk0).gText))).length ≤ 13)))), (13, iv rx1), (12, .pointer (some ⟨b8, 0, none⟩)), (11, iv 1), (10, .pointer (some ⟨b6, 0, none⟩)), (9, .slice (some ⟨b5, 0, none⟩) 5 5), (8, .slice (some ⟨b4, 0, none⟩) 5 5), (7, .slice (some ⟨b3, 0, none⟩) 5 5), (5, .pointer (some ⟨b2, 0, none⟩)), (4, .pointer (some ⟨b1, 0, none⟩)), (0, .slice a n c), (1, iv bf)] w21 (by kernel_rfl) ?_
     rcases Bool.eq_false_or_eq_true (formL (ls ((L.getD 1 tk0).gText)) && decide ((digL (ls ((L.getD 1 tk0).gText))).length ≤ 13)) with fk5 | fk5
     ·skip
      refine J.head (.bool false) (congrArg Value.bool (by rw [fk5]; rfl)) ?_
      have hf1 := fk5
      have hv1 : rx1 = nm L 1 := hrx1 fk5
      refine J.run 4 K38_17 [(71, iv 0), (69, .slice (some ⟨b4, 0, none⟩) 5 5), (68, iv rx1), (67, .bool false), (13, iv rx1), (12, .pointer (some ⟨b8, 0, none⟩)), (11, iv 1), (10, .pointer (some ⟨b6, 0, none⟩)), (9, .slice (some ⟨b5, 0, none⟩) 5 5), (8, .slice (some ⟨b4, 0, none⟩) 5 5), (7, .slice (some ⟨b3, 0, none⟩) 5 5), (5, .pointer (some ⟨b2, 0, none⟩)), (4, .pointer (some ⟨b1, 0, none⟩)), (0, .slice a n c), (1, iv bf)] w21 (by kernel_rfl) ?_
      refine J.ok (OK.index 72 95 1 (some ⟨b4, 0, none⟩) ⟨b4, 0, none⟩ 5 0 0 ⟨b4, 0, none⟩ (by kernel_rfl) (by kernel_rfl) rfl (by omega) (by omega) (by rfl)) ?_
      refine J.ok (OK.ldBox S22 3 73 3 0 (iv 0) (by kernel_rfl) rfl (by kernel_rfl)) ?_
      refine J.run 3 K38_18 [(76, .bool (decide (rx1 < 0))), (13, iv rx1), (12, .pointer (some ⟨b8, 0, none⟩)), (11, iv 1), (10, .pointer (some ⟨b6, 0, none⟩)), (9, .slice (some ⟨b5, 0, none⟩) 5 5), (8, .slice (some ⟨b4, 0, none⟩) 5 5), (7, .slice (some ⟨b3, 0, none⟩) 5 5), (5, .pointer (some ⟨b2, 0, none⟩)), (4, .pointer (some ⟨b1, 0, none⟩)), (0, .slice a n c), (1, iv bf)] w21 (by kernel_rfl) ?_
      by_cases fk6 : rx1 < 0
      ·skip
       refine J.head (.bool true) (congrArg Value.bool (decide_eq_true fk6)) ?_
       refine J.run 11 K38_19 [(12, .pointer (some ⟨b8, 0, none⟩)), (5, .pointer (some ⟨b2, 0, none⟩)), (4, .pointer (some ⟨b1, 0, none⟩))] w21 (by kernel_rfl) ?_
       refine J.drawPlan (fun w_ => Sep w [box b8 (tkE (L.getD 1 tk0)) 78, box b6 kvD17_2 48, box b5 kvD17_3 3, box b4 kvD17_4 3, box b3 kvD17_1 9, box b1 kvD17_2 27] w_) [(0, true), (1, true), (2, true), (3, false), (4, false), (5, true)] S22 Tryd.mixed (by kernel_rfl) (planOK_of (T := [(0, some 85, 0), (0, some 86, 4096), (2, some 87, 77371252455336267181195264), (1, none, 38685626227668133590597648), (15, none, 154742504910672534362390560), (31, some 6, 0)]) (by kernel_rfl) (by kernel_rfl)) ?_
       intro w22 S23
       refine PB.mk (S23.erase 5) ?_
       refine PL.take 0 85 (.agg kvD17_6) (fun _ _ => by kernel_rfl) ?_
       refine PL.take 1 86 (.pointer (some ⟨b8, 2, none⟩)) (fun _ _ => by kernel_rfl) ?_
       refine PL.takeOK 2 (fun w_ S_ => OK.ldBox S_ 0 87 39 2 (.agg #[iv ((L.getD 1 tk0).gPlace_Line), iv ((L.getD 1 tk0).gPlace_Column)]) (by kernel_rfl) rfl (by kernel_rfl)) rfl ?_
       refine PL.stBox S23 6 27 0 (.agg kvD17_6) kvD17_2 [box b8 (tkE (L.getD 1 tk0)) 78, box b6 kvD17_2 48, box b5 kvD17_3 3, box b4 kvD17_4 3, box b3 kvD17_1 9, box b2 [iv 0, iv 0] 39, box b1 kvD17_2 27] (by kernel_rfl) rfl (by kernel_rfl) (by kernel_rfl) rfl ?_
       intro w23 S24
       refine PB.mk (S24.erase 5) ?_
       refine PL.stBox S24 5 39 0 (.agg #[iv ((L.getD 1 tk0).gPlace_Line), iv ((L.getD 1 tk0).gPlace_Column)]) [iv ((L.getD 1 tk0).gPlace_Line), iv ((L.getD 1 tk0).gPlace_Column)] [box b8 (tkE (L.getD 1 tk0)) 78, box b6 kvD17_2 48, box b5 kvD17_3 3, box b4 kvD17_4 3, box b3 kvD17_1 9, box b2 [iv ((L.getD 1 tk0).gPlace_Line), iv ((L.getD 1 tk0).gPlace_Column)] 39, box b1 kvD17_2 27] (by kernel_rfl) rfl (by kernel_rfl) (by kernel_rfl) rfl ?_
       intro w24 S25
       refine PB.mk (S25.erase 5) ?_
       refine PL.take 5 6 (iv 2) (fun _ _ => by kernel_rfl) ?_
       refine PL.done ?_
       refine J.run 0 (rRest K38_19) [(6, iv 2), (5, .pointer (some ⟨b2, 0, none⟩)), (4, .pointer (some ⟨b1, 0, none⟩))] w24 (by kernel_rfl) ?_
       refine J.ret Tryd.f38 [.agg kvD17_6, .agg #[iv ((L.getD 1 tk0).gPlace_Line), iv ((L.getD 1 tk0).gPlace_Column)], iv 2] Tryd.func38 ⟨⟨⟨b1, 0, none⟩, by kernel_rfl, ldV_run (S25.nth 6 rfl) (by kernel_rfl)⟩, ⟨⟨b2, 0, none⟩, by kernel_rfl, ldV_run (S25.nth 5 rfl) (by kernel_rfl)⟩, by kernel_rfl, trivial⟩ ?_
       refine hR _ _ ?_
       have h0_ : ls2 L false = some (2, 1) := num_rng hll s1 (by omega) hg1 (.inr (by rw [← hv1]; omega))
       have h_ : lineS L false bf = some (2, 1) := up2 h0_
       obtain ⟨e1, ⟨e2, e3⟩, e4⟩ := rl_some h_
       exact ⟨by rw [e1, e2, e3, e4]; rfl, S25.nil⟩
      ·skip
       refine J.head (.bool false) (congrArg Value.bool (decide_eq_false fk6)) ?_
       refine J.run 4 K38_20 [(80, iv 0), (78, .slice (some ⟨b5, 0, none⟩) 5 5), (77, iv rx1), (76, .bool false), (13, iv rx1), (12, .pointer (some ⟨b8, 0, none⟩)), (11, iv 1), (10, .pointer (some ⟨b6, 0, none⟩)), (9, .slice (some ⟨b5, 0, none⟩) 5 5), (8, .slice (some ⟨b4, 0, none⟩) 5 5), (7, .slice (some ⟨b3, 0, none⟩) 5 5), (5, .pointer (some ⟨b2, 0, none⟩)), (4, .pointer (some ⟨b1, 0, none⟩)), (0, .slice a n c), (1, iv bf)] w21 (by kernel_rfl) ?_
       refine J.ok (OK.index 81 95 1 (some ⟨b5, 0, none⟩) ⟨b5, 0, none⟩ 5 0 0 ⟨b5, 0, none⟩ (by kernel_rfl) (by kernel_rfl) rfl (by omega) (by omega) (by rfl)) ?_
       refine J.ok (OK.ldBox S22 2 82 3 0 (iv 1099511627776) (by kernel_rfl) rfl (by kernel_rfl)) ?_
       refine J.run 3 K38_21 [(84, .bool (decide (rx1 > 1099511627776))), (13, iv rx1), (12, .pointer (some ⟨b8, 0, none⟩)), (11, iv 1), (10, .pointer (some ⟨b6, 0, none⟩)), (9, .slice (some ⟨b5, 0, none⟩) 5 5), (8, .slice (some ⟨b4, 0, none⟩) 5 5), (7, .slice (some ⟨b3, 0, none⟩) 5 5), (5, .pointer (some ⟨b2, 0, none⟩)), (4, .pointer (some ⟨b1, 0, none⟩)), (0, .slice a n c), (1, iv bf)] w21 (by kernel_rfl) ?_
       by_cases fk7 : rx1 > 1099511627776
       ·skip
        refine J.head (.bool true) (congrArg Value.bool (decide_eq_true fk7)) ?_
        refine J.run 2 K38_22 [(12, .pointer (some ⟨b8, 0, none⟩)), (5, .pointer (some ⟨b2, 0, none⟩)), (4, .pointer (some ⟨b1, 0, none⟩))] w21 (by kernel_rfl) ?_
        refine J.drawPlan (fun w_ => Sep w [box b8 (tkE (L.getD 1 tk0)) 78, box b6 kvD17_2 48, box b5 kvD17_3 3, box b4 kvD17_4 3, box b3 kvD17_1 9, box b1 kvD17_2 27] w_) [(0, true), (1, true), (2, true), (3, false), (4, false), (5, true)] S22 Tryd.mixed (by kernel_rfl) (planOK_of (T := [(0, some 85, 0), (0, some 86, 4096), (2, some 87, 77371252455336267181195264), (1, none, 38685626227668133590597648), (15, none, 154742504910672534362390560), (31, some 6, 0)]) (by kernel_rfl) (by kernel_rfl)) ?_
        intro w25 S26
        refine PB.mk (S26.erase 5) ?_
        refine PL.take 0 85 (.agg kvD17_6) (fun _ _ => by kernel_rfl) ?_
        refine PL.take 1 86 (.pointer (some ⟨b8, 2, none⟩)) (fun _ _ => by kernel_rfl) ?_
        refine PL.takeOK 2 (fun w_ S_ => OK.ldBox S_ 0 87 39 2 (.agg #[iv ((L.getD 1 tk0).gPlace_Line), iv ((L.getD 1 tk0).gPlace_Column)]) (by kernel_rfl) rfl (by kernel_rfl)) rfl ?_
        refine PL.stBox S26 6 27 0 (.agg kvD17_6) kvD17_2 [box b8 (tkE (L.getD 1 tk0)) 78, box b6 kvD17_2 48, box b5 kvD17_3 3, box b4 kvD17_4 3, box b3 kvD17_1 9, box b2 [iv 0, iv 0] 39, box b1 kvD17_2 27] (by kernel_rfl) rfl (by kernel_rfl) (by kernel_rfl) rfl ?_
        intro w26 S27
        refine PB.mk (S27.erase 5) ?_
        refine PL.stBox S27 5 39 0 (.agg #[iv ((L.getD 1 tk0).gPlace_Line), iv ((L.getD 1 tk0).gPlace_Column)]) [iv ((L.getD 1 tk0).gPlace_Line), iv ((L.getD 1 tk0).gPlace_Column)] [box b8 (tkE (L.getD 1 tk0)) 78, box b6 kvD17_2 48, box b5 kvD17_3 3, box b4 kvD17_4 3, box b3 kvD17_1 9, box b2 [iv ((L.getD 1 tk0).gPlace_Line), iv ((L.getD 1 tk0).gPlace_Column)] 39, box b1 kvD17_2 27] (by kernel_rfl) rfl (by kernel_rfl) (by kernel_rfl) rfl ?_
        intro w27 S28
        refine PB.mk (S28.erase 5) ?_
        refine PL.take 5 6 (iv 2) (fun _ _ => by kernel_rfl) ?_
        refine PL.done ?_
        refine J.run 0 (rRest K38_22) [(6, iv 2), (5, .pointer (some ⟨b2, 0, none⟩)), (4, .pointer (some ⟨b1, 0, none⟩))] w27 (by kernel_rfl) ?_
        refine J.ret Tryd.f38 [.agg kvD17_6, .agg #[iv ((L.getD 1 tk0).gPlace_Line), iv ((L.getD 1 tk0).gPlace_Column)], iv 2] Tryd.func38 ⟨⟨⟨b1, 0, none⟩, by kernel_rfl, ldV_run (S28.nth 6 rfl) (by kernel_rfl)⟩, ⟨⟨b2, 0, none⟩, by kernel_rfl, ldV_run (S28.nth 5 rfl) (by kernel_rfl)⟩, by kernel_rfl, trivial⟩ ?_
        refine hR _ _ ?_
        have h0_ : ls2 L false = some (2, 1) := num_rng hll s1 (by omega) hg1 (.inr (by rw [← hv1]; omega))
        have h_ : lineS L false bf = some (2, 1) := up2 h0_
        obtain ⟨e1, ⟨e2, e3⟩, e4⟩ := rl_some h_
        exact ⟨by rw [e1, e2, e3, e4]; rfl, S28.nil⟩
       ·skip
        refine J.head (.bool false) (congrArg Value.bool (decide_eq_false fk7)) ?_
        have s2 : ls2 L false = none := num_pass hll s1 (by omega) hg1 hf1 (by rw [← hv1]; omega)
        refine J.run 4 K38_23 [(13, iv rx1), (12, .pointer (some ⟨b8, 0, none⟩)), (11, iv 1), (10, .pointer (some ⟨b6, 0, none⟩)), (9, .slice (some ⟨b5, 0, none⟩) 5 5), (8, .slice (some ⟨b4, 0, none⟩) 5 5), (7, .slice (some ⟨b3, 0, none⟩) 5 5), (5, .pointer (some ⟨b2, 0, none⟩)), (4, .pointer (some ⟨b1, 0, none⟩)), (0, .slice a n c), (1, iv bf)] w21 (by kernel_rfl) ?_
        have X1 : ∀ (tb : Bool) (w28 : World), (tb = timeB bf rx1) → Sep w [box b8 (tkE (L.getD 1 tk0)) 78, box b6 kvD17_2 48, box b5 kvD17_3 3, box b4 kvD17_4 3, box b3 kvD17_1 9, box b2 [iv 0, iv 0] 39, box b1 kvD17_2 27] w28 → J Tryd.prog 38 134 R K38_24 [(13, iv rx1), (12, .pointer (some ⟨b8, 0, none⟩)), (11, iv 1), (10, .pointer (some ⟨b6, 0, none⟩)), (9, .slice (some ⟨b5, 0, none⟩) 5 5), (8, .slice (some ⟨b4, 0, none⟩) 5 5), (7, .slice (some ⟨b3, 0, none⟩) 5 5), (5, .pointer (some ⟨b2, 0, none⟩)), (4, .pointer (some ⟨b1, 0, none⟩)), (0, .slice a n c), (1, iv bf), (106, .bool tb)] w28 := by
         intro tb w28 htb S29
         refine J.run 0 K38_24 [(106, .bool tb), (13, iv rx1), (12, .pointer (some ⟨b8, 0, none⟩)), (11, iv 1), (10, .pointer (some ⟨b6, 0, none⟩)), (9, .slice (some ⟨b5, 0, none⟩) 5 5), (8, .slice (some ⟨b4, 0, none⟩) 5 5), (7, .slice (some ⟨b3, 0, none⟩) 5 5), (5, .pointer (some ⟨b2, 0, none⟩)), (4, .pointer (some ⟨b1, 0, none⟩)), (0, .slice a n c), (1, iv bf)] w28 (by kernel_rfl) ?_
         rcases Bool.eq_false_or_eq_true tb with fk8 | fk8
         ·skip
          refine J.head (.bool true) (congrArg Value.bool fk8) ?_
          refine J.run 2 K38_25 [(12, .pointer (some ⟨b8, 0, none⟩)), (5, .pointer (some ⟨b2, 0, none⟩)), (4, .pointer (some ⟨b1, 0, none⟩))] w28 (by kernel_rfl) ?_
          refine J.drawPlan (fun w_ => Sep w [box b8 (tkE (L.getD 1 tk0)) 78, box b6 kvD17_2 48, box b5 kvD17_3 3, box b4 kvD17_4 3, box b3 kvD17_1 9, box b1 kvD17_2 27] w_) [(0, true), (1, true), (2, true), (3, false), (4, false), (5, true)] S29 Tryd.mixed (by kernel_rfl) (planOK_of (T := [(0, some 107, 0), (0, some 108, 4096), (2, some 109, 324518553658426726783156020576256), (1, none, 162259276829213363391578010288144), (15, none, 649037107316853453566312041152544), (31, some 6, 0)]) (by kernel_rfl) (by kernel_rfl)) ?_
          intro w29 S30
          refine PB.mk (S30.erase 5) ?_
          refine PL.take 0 107 (.agg kvD17_6) (fun _ _ => by kernel_rfl) ?_
          refine PL.take 1 108 (.pointer (some ⟨b8, 2, none⟩)) (fun _ _ => by kernel_rfl) ?_
          refine PL.takeOK 2 (fun w_ S_ => OK.ldBox S_ 0 109 39 2 (.agg #[iv ((L.getD 1 tk0).gPlace_Line), iv ((L.getD 1 tk0).gPlace_Column)]) (by kernel_rfl) rfl (by kernel_rfl)) rfl ?_
          refine PL.stBox S30 6 27 0 (.agg kvD17_6) kvD17_2 [box b8 (tkE (L.getD 1 tk0)) 78, box b6 kvD17_2 48, box b5 kvD17_3 3, box b4 kvD17_4 3, box b3 kvD17_1 9, box b2 [iv 0, iv 0] 39, box b1 kvD17_2 27] (by kernel_rfl) rfl (by kernel_rfl) (by kernel_rfl) rfl ?_
          intro w30 S31
          refine PB.mk (S31.erase 5) ?_
          refine PL.stBox S31 5 39 0 (.agg #[iv ((L.getD 1 tk0).gPlace_Line), iv ((L.getD 1 tk0).gPlace_Column)]) [iv ((L.getD 1 tk0).gPlace_Line), iv ((L.getD 1 tk0).gPlace_Column)] [box b8 (tkE (L.getD 1 tk0)) 78, box b6 kvD17_2 48, box b5 kvD17_3 3, box b4 kvD17_4 3, box b3 kvD17_1 9, box b2 [iv ((L.getD 1 tk0).gPlace_Line), iv ((L.getD 1 tk0).gPlace_Column)] 39, box b1 kvD17_2 27] (by kernel_rfl) rfl (by kernel_rfl) (by kernel_rfl) rfl ?_
          intro w31 S32
          refine PB.mk (S32.erase 5) ?_
          refine PL.take 5 6 (iv 16) (fun _ _ => by kernel_rfl) ?_
          refine PL.done ?_
          refine J.run 0 (rRest K38_25) [(6, iv 16), (5, .pointer (some ⟨b2, 0, none⟩)), (4, .pointer (some ⟨b1, 0, none⟩))] w31 (by kernel_rfl) ?_
          refine J.ret Tryd.f38 [.agg kvD17_6, .agg #[iv ((L.getD 1 tk0).gPlace_Line), iv ((L.getD 1 tk0).gPlace_Column)], iv 16] Tryd.func38 ⟨⟨⟨b1, 0, none⟩, by kernel_rfl, ldV_run (S32.nth 6 rfl) (by kernel_rfl)⟩, ⟨⟨b2, 0, none⟩, by kernel_rfl, ldV_run (S32.nth 5 rfl) (by kernel_rfl)⟩, by kernel_rfl, trivial⟩ ?_
          refine hR _ _ ?_
          have h0_ : ls3 L false bf = some (16, 1) := chk_hit s2 (by rw [← hv1]; exact htb.symm.trans fk8)
          have h_ : lineS L false bf = some (16, 1) := up3 h0_
          obtain ⟨e1, ⟨e2, e3⟩, e4⟩ := rl_some h_
          exact ⟨by rw [e1, e2, e3, e4]; rfl, S32.nil⟩
         ·skip
          refine J.head (.bool false) (congrArg Value.bool fk8) ?_
          have s3 : ls3 L false bf = none := chk_pass s2 (by rw [← hv1]; exact htb.symm.trans fk8)
          refine J.run 6 K38_26 [(112, iv rx1), (111, iv 0), (11, iv 1), (10, .pointer (some ⟨b6, 0, none⟩)), (9, .slice (some ⟨b5, 0, none⟩) 5 5), (8, .slice (some ⟨b4, 0, none⟩) 5 5), (7, .slice (some ⟨b3, 0, none⟩) 5 5), (5, .pointer (some ⟨b2, 0, none⟩)), (4, .pointer (some ⟨b1, 0, none⟩)), (0, .slice a n c), (1, iv bf)] w28 (by kernel_rfl) ?_
          refine J.ok (OK.indexP 113 48 5 1 b6 0 0 0 (by kernel_rfl) (by kernel_rfl) (by omega) (by omega)) ?_
          refine J.head (.pointer (some ⟨b6, 0, none⟩)) (by first | rfl | (rw [Nat.zero_add, Nat.mul_one])) ?_
          refine J.stBox S29 1 3 0 (iv rx1) [iv rx1, iv 0, iv 0, iv 0, iv 0] [box b8 (tkE (L.getD 1 tk0)) 78, box b6 [iv rx1, iv 0, iv 0, iv 0, iv 0] 48, box b5 kvD17_3 3, box b4 kvD17_4 3, box b3 kvD17_1 9, box b2 [iv 0, iv 0] 39, box b1 kvD17_2 27] (by kernel_rfl) rfl (by kernel_rfl) (by kernel_rfl) rfl ?_
          intro w32 S33
          refine J.run 8 K38_27 [(11, iv 2), (10, .pointer (some ⟨b6, 0, none⟩)), (9, .slice (some ⟨b5, 0, none⟩) 5 5), (8, .slice (some ⟨b4, 0, none⟩) 5 5), (7, .slice (some ⟨b3, 0, none⟩) 5 5), (5, .pointer (some ⟨b2, 0, none⟩)), (4, .pointer (some ⟨b1, 0, none⟩)), (0, .slice a n c), (1, iv bf)] w32 (by kernel_rfl) ?_
          have S34 : Sep w [box b6 [iv rx1, iv 0, iv 0, iv 0, iv 0] 48, box b5 kvD17_3 3, box b4 kvD17_4 3, box b3 kvD17_1 9, box b2 [iv 0, iv 0] 39, box b1 kvD17_2 27] w32 := S33.erase 0
          clear S33
          refine J.run 18 K38_28 [(26, .bool (decide (2 ≥ (n : Int)))), (11, iv 2), (10, .pointer (some ⟨b6, 0, none⟩)), (9, .slice (some ⟨b5, 0, none⟩) 5 5), (8, .slice (some ⟨b4, 0, none⟩) 5 5), (7, .slice (some ⟨b3, 0, none⟩) 5 5), (5, .pointer (some ⟨b2, 0, none⟩)), (4, .pointer (some ⟨b1, 0, none⟩)), (0, .slice a n c), (1, iv bf)] w32 (by kernel_rfl) ?_
          by_cases fk9 : 2 ≥ (n : Int)
          ·skip
           refine J.head (.bool true) (congrArg Value.bool (decide_eq_true fk9)) ?_
           refine J.run 2 K38_29 [(5, .pointer (some ⟨b2, 0, none⟩)), (4, .pointer (some ⟨b1, 0, none⟩)), (0, .slice a n c)] w32 (by kernel_rfl) ?_
           obtain ⟨p6, hp6, hc6⟩ := hl.at tk0 ((n : Int) - 1).toNat (by omega)
           refine J.drawPlan (fun w_ => Sep w [box b6 [iv rx1, iv 0, iv 0, iv 0, iv 0] 48, box b5 kvD17_3 3, box b4 kvD17_4 3, box b3 kvD17_1 9, box b1 kvD17_2 27] w_) [(0, true), (1, true), (2, true), (3, true), (4, true), (5, true), (6, true), (7, true), (8, false), (9, false), (10, true)] S34 Tryd.mixed (by kernel_rfl) (planOK_of (T := [(0, some 27, 0), (0, some 28, 1), (0, some 29, 1), (4, some 30, 536870912), (8, some 31, 1073741824), (18, some 32, 2415919104), (32, some 33, 4294967296), (64, some 34, 8589934592), (1, none, 134217744), (511, none, 17179869216), (1023, some 6, 0)]) (by kernel_rfl) (by kernel_rfl)) ?_
           intro w33 S35
           refine PB.mk (S35.erase 4) ?_
           refine PL.take 0 27 (.agg kvD17_6) (fun _ _ => by kernel_rfl) ?_
           refine PL.take 1 28 (.slice a n c) (fun _ _ => by kernel_rfl) ?_
           refine PL.take 2 29 (.slice a n c) (fun _ _ => by kernel_rfl) ?_
           refine PL.take 3 30 (iv (n : Int)) (fun _ _ => by kernel_rfl) ?_
           refine PL.take 4 31 (iv (IntKind.wrap .i64 ((n : Int) - 1))) (fun _ _ => by kernel_rfl) ?_
           refine PL.head (iv ((n : Int) - 1)) (congrArg (Value.int .i64) (IntWalk.i64_in _ (by omega))) ?_
           refine PL.takeOK 5 (fun w_ S_ => OK.index 32 71 4 a p6 n ((n : Int) - 1).toNat ((n : Int) - 1) (p6.add (((n : Int) - 1).toNat * 4)) (by kernel_rfl) (by kernel_rfl) hp6 (by omega) (by omega) rfl) rfl ?_
           refine PL.take 6 33 (.pointer (some ((p6.add (((n : Int) - 1).toNat * 4)).add 2))) (fun _ _ => by kernel_rfl) ?_
           refine PL.takeOK 7 (fun w_ S_ => OK.ldCells 34 39 ((p6.add (((n : Int) - 1).toNat * 4)).add 2) [iv ((L.getD ((n : Int) - 1).toNat tk0).gPlace_Line), iv ((L.getD ((n : Int) - 1).toNat tk0).gPlace_Column)] (by kernel_rfl) (by kernel_rfl) (by kernel_rfl) (fun j_ v_ hj_ => by rw [addr_add_add]; exact ((fun j_ v_ hj_ => S_.cell (hc6 j_ v_ hj_))) (2 + j_) v_ (by rcases j_ with _ | _ | j_ <;> first | exact hj_ | (cases hj_; done) | (simp at hj_; done)))) rfl ?_
           refine PL.stBox S35 5 27 0 (.agg kvD17_6) kvD17_2 [box b6 [iv rx1, iv 0, iv 0, iv 0, iv 0] 48, box b5 kvD17_3 3, box b4 kvD17_4 3, box b3 kvD17_1 9, box b2 [iv 0, iv 0] 39, box b1 kvD17_2 27] (by kernel_rfl) rfl (by kernel_rfl) (by kernel_rfl) rfl ?_
           intro w34 S36
           refine PB.mk (S36.erase 4) ?_
           refine PL.stBox S36 4 39 0 (.agg #[iv ((L.getD ((n : Int) - 1).toNat tk0).gPlace_Line), iv ((L.getD ((n : Int) - 1).toNat tk0).gPlace_Column)]) [iv ((L.getD ((n : Int) - 1).toNat tk0).gPlace_Line), iv ((L.getD ((n : Int) - 1).toNat tk0).gPlace_Column)] [box b6 [iv rx1, iv 0, iv 0, iv 0, iv 0] 48, box b5 kvD17_3 3, box b4 kvD17_4 3, box b3 kvD17_1 9, box b2 [iv ((L.getD ((n : Int) - 1).toNat tk0).gPlace_Line), iv ((L.getD ((n : Int) - 1).toNat tk0).gPlace_Column)] 39, box b1 kvD17_2 27] (by kernel_rfl) rfl (by kernel_rfl) (by kernel_rfl) rfl ?_
           intro w35 S37
           refine PB.mk (S37.erase 4) ?_
           refine PL.take 10 6 (iv 4) (fun _ _ => by kernel_rfl) ?_
           refine PL.done ?_
           refine J.run 0 (rRest K38_29) [(6, iv 4), (5, .pointer (some ⟨b2, 0, none⟩)), (4, .pointer (some ⟨b1, 0, none⟩))] w35 (by kernel_rfl) ?_
           refine J.ret Tryd.f38 [.agg kvD17_6, .agg #[iv ((L.getD ((n : Int) - 1).toNat tk0).gPlace_Line), iv ((L.getD ((n : Int) - 1).toNat tk0).gPlace_Column)], iv 4] Tryd.func38 ⟨⟨⟨b1, 0, none⟩, by kernel_rfl, ldV_run (S37.nth 5 rfl) (by kernel_rfl)⟩, ⟨⟨b2, 0, none⟩, by kernel_rfl, ldV_run (S37.nth 4 rfl) (by kernel_rfl)⟩, by kernel_rfl, trivial⟩ ?_
           refine hR _ _ ?_
           have h0_ : ls4 L false bf = some (4, (n : Int) - 1) := word_end hll s3 (by omega)
           have h_ : lineS L false bf = some (4, (n : Int) - 1) := up4 h0_
           obtain ⟨e1, ⟨e2, e3⟩, e4⟩ := rl_some h_
           exact ⟨by rw [e1, e2, e3, e4]; rfl, S37.nil⟩
          ·skip
           refine J.head (.bool false) (congrArg Value.bool (decide_eq_false fk9)) ?_
           refine J.run 6 K38_30 [(36, iv 2), (35, .slice a n c), (11, iv 2), (10, .pointer (some ⟨b6, 0, none⟩)), (9, .slice (some ⟨b5, 0, none⟩) 5 5), (8, .slice (some ⟨b4, 0, none⟩) 5 5), (7, .slice (some ⟨b3, 0, none⟩) 5 5), (5, .pointer (some ⟨b2, 0, none⟩)), (4, .pointer (some ⟨b1, 0, none⟩)), (0, .slice a n c), (1, iv bf)] w32 (by kernel_rfl) ?_
           obtain ⟨p7, hp7, hc7⟩ := hl.at tk0 2 (by omega)
           refine J.ok (OK.index 37 71 4 a p7 n 2 2 (p7.add (2 * 4)) (by kernel_rfl) (by kernel_rfl) hp7 (by omega) (by omega) rfl) ?_
           refine J.ok (OK.ldCells 38 78 (p7.add (2 * 4)) (tkE (L.getD 2 tk0)) (by kernel_rfl) (by kernel_rfl) (by kernel_rfl) (fun j_ v_ hj_ => S34.cell (hc7 j_ v_ hj_))) ?_
           refine J.new S34 12 kvD17_5 78 (by kernel_rfl) ?_
           intro b9 w36 S38
           refine J.stBox S38 0 78 0 (.agg #[iv ((L.getD 2 tk0).gKind), .string ((L.getD 2 tk0).gText), iv ((L.getD 2 tk0).gPlace_Line), iv ((L.getD 2 tk0).gPlace_Column)]) (tkE (L.getD 2 tk0)) [box b9 (tkE (L.getD 2 tk0)) 78, box b6 [iv rx1, iv 0, iv 0, iv 0, iv 0] 48, box b5 kvD17_3 3, box b4 kvD17_4 3, box b3 kvD17_1 9, box b2 [iv 0, iv 0] 39, box b1 kvD17_2 27] (by kernel_rfl) rfl (by kernel_rfl) (by kernel_rfl) rfl ?_
           intro w37 S39
           refine J.run 11 K38_31 [(12, .pointer (some ⟨b9, 0, none⟩)), (11, iv 2), (10, .pointer (some ⟨b6, 0, none⟩)), (9, .slice (some ⟨b5, 0, none⟩) 5 5), (8, .slice (some ⟨b4, 0, none⟩) 5 5), (7, .slice (some ⟨b3, 0, none⟩) 5 5), (5, .pointer (some ⟨b2, 0, none⟩)), (4, .pointer (some ⟨b1, 0, none⟩)), (0, .slice a n c), (1, iv bf)] w37 (by kernel_rfl) ?_
           obtain ⟨p8, hp8, hc8⟩ := (show Ones Value.string w37 (some ⟨b3, 0, none⟩) 5 [⟨#[97, 116]⟩, ⟨#[112, 101, 100, 97, 108]⟩, ⟨#[98, 114, 97, 107, 101]⟩, ⟨#[103, 101, 97, 114]⟩, ⟨#[108, 111, 97, 100]⟩] from ⟨rfl, box_cells (S39.nth 4 rfl)⟩).at ByteArray.empty 1 (by omega)
           refine J.drawStill S39 8 Tryd.mixed (by kernel_rfl) (by kernel_rfl) (by kernel_rfl) ?_
           intro w38 S40
           refine SL.ok (by decide) (OK.run 42 (.pointer (some ⟨b9, 1, none⟩)) (by kernel_rfl)) ?_
           refine SL.ok (by decide) (OK.ldBox S40 0 43 9 1 (.string ((L.getD 2 tk0).gText)) (by kernel_rfl) rfl (by kernel_rfl)) ?_
           refine SL.ok (by decide) (OK.run 44 (.slice (some ⟨b3, 0, none⟩) 5 5) (by kernel_rfl)) ?_
           refine SL.ok (by decide) (OK.run 45 (iv 2) (by kernel_rfl)) ?_
           refine SL.ok (by decide) (OK.run 46 (iv 1) (by kernel_rfl)) ?_
           refine SL.ok (by decide) (OK.index 47 69 1 (some ⟨b3, 0, none⟩) ⟨b3, 0, none⟩ 5 1 1 ⟨b3, 1, none⟩ (by kernel_rfl) (by kernel_rfl) rfl (by omega) (by omega) (by rfl)) ?_
           refine SL.ok (by decide) (OK.ldBox S40 4 48 9 1 (.string ⟨#[112, 101, 100, 97, 108]⟩) (by kernel_rfl) rfl (by kernel_rfl)) ?_
           refine SL.ok (by decide) (OK.run 49 (.bool (!(((L.getD 2 tk0).gText).toList == (⟨#[112, 101, 100, 97, 108]⟩ : ByteArray).toList))) (by kernel_rfl)) ?_
           refine SL.done ?_
           refine TL.done (by kernel_rfl) ?_
           refine J.run 0 (rRest K38_31) [(49, .bool (!(((L.getD 2 tk0).gText).toList == (⟨#[112, 101, 100, 97, 108]⟩ : ByteArray).toList))), (12, .pointer (some ⟨b9, 0, none⟩)), (11, iv 2), (10, .pointer (some ⟨b6, 0, none⟩)), (9, .slice (some ⟨b5, 0, none⟩) 5 5), (8, .slice (some ⟨b4, 0, none⟩) 5 5), (7, .slice (some ⟨b3, 0, none⟩) 5 5), (5, .pointer (some ⟨b2, 0, none⟩)), (4, .pointer (some ⟨b1, 0, none⟩)), (0, .slice a n c), (1, iv bf)] w38 (by kernel_rfl) ?_
           rcases Bool.eq_false_or_eq_true (!(((L.getD 2 tk0).gText).toList == (⟨#[112, 101, 100, 97, 108]⟩ : ByteArray).toList)) with fk10 | fk10
           ·skip
            refine J.head (.bool true) (congrArg Value.bool fk10) ?_
            have hw2 := fk10
            refine J.run 2 K38_32 [(12, .pointer (some ⟨b9, 0, none⟩)), (5, .pointer (some ⟨b2, 0, none⟩)), (4, .pointer (some ⟨b1, 0, none⟩))] w38 (by kernel_rfl) ?_
            refine J.drawPlan (fun w_ => Sep w [box b9 (tkE (L.getD 2 tk0)) 78, box b6 [iv rx1, iv 0, iv 0, iv 0, iv 0] 48, box b5 kvD17_3 3, box b4 kvD17_4 3, box b3 kvD17_1 9, box b1 kvD17_2 27] w_) [(0, true), (1, true), (2, true), (3, false), (4, false), (5, true)] S40 Tryd.mixed (by kernel_rfl) (planOK_of (T := [(0, some 50, 0), (0, some 51, 4096), (2, some 52, 2251799813685248), (1, none, 1125899906842640), (15, none, 4503599627370528), (31, some 6, 0)]) (by kernel_rfl) (by kernel_rfl)) ?_
            intro w39 S41
            refine PB.mk (S41.erase 5) ?_
            refine PL.take 0 50 (.agg kvD17_6) (fun _ _ => by kernel_rfl) ?_
            refine PL.take 1 51 (.pointer (some ⟨b9, 2, none⟩)) (fun _ _ => by kernel_rfl) ?_
            refine PL.takeOK 2 (fun w_ S_ => OK.ldBox S_ 0 52 39 2 (.agg #[iv ((L.getD 2 tk0).gPlace_Line), iv ((L.getD 2 tk0).gPlace_Column)]) (by kernel_rfl) rfl (by kernel_rfl)) rfl ?_
            refine PL.stBox S41 6 27 0 (.agg kvD17_6) kvD17_2 [box b9 (tkE (L.getD 2 tk0)) 78, box b6 [iv rx1, iv 0, iv 0, iv 0, iv 0] 48, box b5 kvD17_3 3, box b4 kvD17_4 3, box b3 kvD17_1 9, box b2 [iv 0, iv 0] 39, box b1 kvD17_2 27] (by kernel_rfl) rfl (by kernel_rfl) (by kernel_rfl) rfl ?_
            intro w40 S42
            refine PB.mk (S42.erase 5) ?_
            refine PL.stBox S42 5 39 0 (.agg #[iv ((L.getD 2 tk0).gPlace_Line), iv ((L.getD 2 tk0).gPlace_Column)]) [iv ((L.getD 2 tk0).gPlace_Line), iv ((L.getD 2 tk0).gPlace_Column)] [box b9 (tkE (L.getD 2 tk0)) 78, box b6 [iv rx1, iv 0, iv 0, iv 0, iv 0] 48, box b5 kvD17_3 3, box b4 kvD17_4 3, box b3 kvD17_1 9, box b2 [iv ((L.getD 2 tk0).gPlace_Line), iv ((L.getD 2 tk0).gPlace_Column)] 39, box b1 kvD17_2 27] (by kernel_rfl) rfl (by kernel_rfl) (by kernel_rfl) rfl ?_
            intro w41 S43
            refine PB.mk (S43.erase 5) ?_
            refine PL.take 5 6 (iv 3) (fun _ _ => by kernel_rfl) ?_
            refine PL.done ?_
            refine J.run 0 (rRest K38_32) [(6, iv 3), (5, .pointer (some ⟨b2, 0, none⟩)), (4, .pointer (some ⟨b1, 0, none⟩))] w41 (by kernel_rfl) ?_
            refine J.ret Tryd.f38 [.agg kvD17_6, .agg #[iv ((L.getD 2 tk0).gPlace_Line), iv ((L.getD 2 tk0).gPlace_Column)], iv 3] Tryd.func38 ⟨⟨⟨b1, 0, none⟩, by kernel_rfl, ldV_run (S43.nth 6 rfl) (by kernel_rfl)⟩, ⟨⟨b2, 0, none⟩, by kernel_rfl, ldV_run (S43.nth 5 rfl) (by kernel_rfl)⟩, by kernel_rfl, trivial⟩ ?_
            refine hR _ _ ?_
            have h0_ : ls4 L false bf = some (3, 2) := word_hit hll s3 (by omega) hw2
            have h_ : lineS L false bf = some (3, 2) := up4 h0_
            obtain ⟨e1, ⟨e2, e3⟩, e4⟩ := rl_some h_
            exact ⟨by rw [e1, e2, e3, e4]; rfl, S43.nil⟩
           ·skip
            refine J.head (.bool false) (congrArg Value.bool fk10) ?_
            have hw2 := fk10
            have s4 : ls4 L false bf = none := word_pass hll s3 (by omega) fk10
            refine J.run 9 K38_33 [(11, iv 3), (10, .pointer (some ⟨b6, 0, none⟩)), (9, .slice (some ⟨b5, 0, none⟩) 5 5), (8, .slice (some ⟨b4, 0, none⟩) 5 5), (7, .slice (some ⟨b3, 0, none⟩) 5 5), (5, .pointer (some ⟨b2, 0, none⟩)), (4, .pointer (some ⟨b1, 0, none⟩)), (0, .slice a n c), (1, iv bf)] w38 (by kernel_rfl) ?_
            have S44 : Sep w [box b6 [iv rx1, iv 0, iv 0, iv 0, iv 0] 48, box b5 kvD17_3 3, box b4 kvD17_4 3, box b3 kvD17_1 9, box b2 [iv 0, iv 0] 39, box b1 kvD17_2 27] w38 := S40.erase 0
            clear S40
            refine J.run 18 K38_34 [(26, .bool (decide (3 ≥ (n : Int)))), (11, iv 3), (10, .pointer (some ⟨b6, 0, none⟩)), (9, .slice (some ⟨b5, 0, none⟩) 5 5), (8, .slice (some ⟨b4, 0, none⟩) 5 5), (7, .slice (some ⟨b3, 0, none⟩) 5 5), (5, .pointer (some ⟨b2, 0, none⟩)), (4, .pointer (some ⟨b1, 0, none⟩)), (0, .slice a n c), (1, iv bf)] w38 (by kernel_rfl) ?_
            by_cases fk11 : 3 ≥ (n : Int)
            ·skip
             refine J.head (.bool true) (congrArg Value.bool (decide_eq_true fk11)) ?_
             refine J.run 2 K38_35 [(5, .pointer (some ⟨b2, 0, none⟩)), (4, .pointer (some ⟨b1, 0, none⟩)), (0, .slice a n c)] w38 (by kernel_rfl) ?_
             obtain ⟨p9, hp9, hc9⟩ := hl.at tk0 ((n : Int) - 1).toNat (by omega)
             refine J.drawPlan (fun w_ => Sep w [box b6 [iv rx1, iv 0, iv 0, iv 0, iv 0] 48, box b5 kvD17_3 3, box b4 kvD17_4 3, box b3 kvD17_1 9, box b1 kvD17_2 27] w_) [(0, true), (1, true), (2, true), (3, true), (4, true), (5, true), (6, true), (7, true), (8, false), (9, false), (10, true)] S44 Tryd.mixed (by kernel_rfl) (planOK_of (T := [(0, some 27, 0), (0, some 28, 1), (0, some 29, 1), (4, some 30, 536870912), (8, some 31, 1073741824), (18, some 32, 2415919104), (32, some 33, 4294967296), (64, some 34, 8589934592), (1, none, 134217744), (511, none, 17179869216), (1023, some 6, 0)]) (by kernel_rfl) (by kernel_rfl)) ?_
             intro w42 S45
             refine PB.mk (S45.erase 4) ?_
             refine PL.take 0 27 (.agg kvD17_6) (fun _ _ => by kernel_rfl) ?_
             refine PL.take 1 28 (.slice a n c) (fun _ _ => by kernel_rfl) ?_
             refine PL.take 2 29 (.slice a n c) (fun _ _ => by kernel_rfl) ?_
             refine PL.take 3 30 (iv (n : Int)) (fun _ _ => by kernel_rfl) ?_
             refine PL.take 4 31 (iv (IntKind.wrap .i64 ((n : Int) - 1))) (fun _ _ => by kernel_rfl) ?_
             refine PL.head (iv ((n : Int) - 1)) (congrArg (Value.int .i64) (IntWalk.i64_in _ (by omega))) ?_
             refine PL.takeOK 5 (fun w_ S_ => OK.index 32 71 4 a p9 n ((n : Int) - 1).toNat ((n : Int) - 1) (p9.add (((n : Int) - 1).toNat * 4)) (by kernel_rfl) (by kernel_rfl) hp9 (by omega) (by omega) rfl) rfl ?_
             refine PL.take 6 33 (.pointer (some ((p9.add (((n : Int) - 1).toNat * 4)).add 2))) (fun _ _ => by kernel_rfl) ?_
             refine PL.takeOK 7 (fun w_ S_ => OK.ldCells 34 39 ((p9.add (((n : Int) - 1).toNat * 4)).add 2) [iv ((L.getD ((n : Int) - 1).toNat tk0).gPlace_Line), iv ((L.getD ((n : Int) - 1).toNat tk0).gPlace_Column)] (by kernel_rfl) (by kernel_rfl) (by kernel_rfl) (fun j_ v_ hj_ => by rw [addr_add_add]; exact ((fun j_ v_ hj_ => S_.cell (hc9 j_ v_ hj_))) (2 + j_) v_ (by rcases j_ with _ | _ | j_ <;> first | exact hj_ | (cases hj_; done) | (simp at hj_; done)))) rfl ?_
             refine PL.stBox S45 5 27 0 (.agg kvD17_6) kvD17_2 [box b6 [iv rx1, iv 0, iv 0, iv 0, iv 0] 48, box b5 kvD17_3 3, box b4 kvD17_4 3, box b3 kvD17_1 9, box b2 [iv 0, iv 0] 39, box b1 kvD17_2 27] (by kernel_rfl) rfl (by kernel_rfl) (by kernel_rfl) rfl ?_
             intro w43 S46
             refine PB.mk (S46.erase 4) ?_
             refine PL.stBox S46 4 39 0 (.agg #[iv ((L.getD ((n : Int) - 1).toNat tk0).gPlace_Line), iv ((L.getD ((n : Int) - 1).toNat tk0).gPlace_Column)]) [iv ((L.getD ((n : Int) - 1).toNat tk0).gPlace_Line), iv ((L.getD ((n : Int) - 1).toNat tk0).gPlace_Column)] [box b6 [iv rx1, iv 0, iv 0, iv 0, iv 0] 48, box b5 kvD17_3 3, box b4 kvD17_4 3, box b3 kvD17_1 9, box b2 [iv ((L.getD ((n : Int) - 1).toNat tk0).gPlace_Line), iv ((L.getD ((n : Int) - 1).toNat tk0).gPlace_Column)] 39, box b1 kvD17_2 27] (by kernel_rfl) rfl (by kernel_rfl) (by kernel_rfl) rfl ?_
             intro w44 S47
             refine PB.mk (S47.erase 4) ?_
             refine PL.take 10 6 (iv 4) (fun _ _ => by kernel_rfl) ?_
             refine PL.done ?_
             refine J.run 0 (rRest K38_35) [(6, iv 4), (5, .pointer (some ⟨b2, 0, none⟩)), (4, .pointer (some ⟨b1, 0, none⟩))] w44 (by kernel_rfl) ?_
             refine J.ret Tryd.f38 [.agg kvD17_6, .agg #[iv ((L.getD ((n : Int) - 1).toNat tk0).gPlace_Line), iv ((L.getD ((n : Int) - 1).toNat tk0).gPlace_Column)], iv 4] Tryd.func38 ⟨⟨⟨b1, 0, none⟩, by kernel_rfl, ldV_run (S47.nth 5 rfl) (by kernel_rfl)⟩, ⟨⟨b2, 0, none⟩, by kernel_rfl, ldV_run (S47.nth 4 rfl) (by kernel_rfl)⟩, by kernel_rfl, trivial⟩ ?_
             refine hR _ _ ?_
             have h0_ : ls5 L false bf = some (4, (n : Int) - 1) := num_end hll s4 (by omega)
             have h_ : lineS L false bf = some (4, (n : Int) - 1) := up5 h0_
             obtain ⟨e1, ⟨e2, e3⟩, e4⟩ := rl_some h_
             exact ⟨by rw [e1, e2, e3, e4]; rfl, S47.nil⟩
            ·skip
             refine J.head (.bool false) (congrArg Value.bool (decide_eq_false fk11)) ?_
             refine J.run 6 K38_36 [(36, iv 3), (35, .slice a n c), (11, iv 3), (10, .pointer (some ⟨b6, 0, none⟩)), (9, .slice (some ⟨b5, 0, none⟩) 5 5), (8, .slice (some ⟨b4, 0, none⟩) 5 5), (7, .slice (some ⟨b3, 0, none⟩) 5 5), (5, .pointer (some ⟨b2, 0, none⟩)), (4, .pointer (some ⟨b1, 0, none⟩)), (0, .slice a n c), (1, iv bf)] w38 (by kernel_rfl) ?_
             obtain ⟨p10, hp10, hc10⟩ := hl.at tk0 3 (by omega)
             refine J.ok (OK.index 37 71 4 a p10 n 3 3 (p10.add (3 * 4)) (by kernel_rfl) (by kernel_rfl) hp10 (by omega) (by omega) rfl) ?_
             refine J.ok (OK.ldCells 38 78 (p10.add (3 * 4)) (tkE (L.getD 3 tk0)) (by kernel_rfl) (by kernel_rfl) (by kernel_rfl) (fun j_ v_ hj_ => S44.cell (hc10 j_ v_ hj_))) ?_
             refine J.new S44 12 kvD17_5 78 (by kernel_rfl) ?_
             intro b10 w45 S48
             refine J.stBox S48 0 78 0 (.agg #[iv ((L.getD 3 tk0).gKind), .string ((L.getD 3 tk0).gText), iv ((L.getD 3 tk0).gPlace_Line), iv ((L.getD 3 tk0).gPlace_Column)]) (tkE (L.getD 3 tk0)) [box b10 (tkE (L.getD 3 tk0)) 78, box b6 [iv rx1, iv 0, iv 0, iv 0, iv 0] 48, box b5 kvD17_3 3, box b4 kvD17_4 3, box b3 kvD17_1 9, box b2 [iv 0, iv 0] 39, box b1 kvD17_2 27] (by kernel_rfl) rfl (by kernel_rfl) (by kernel_rfl) rfl ?_
             intro w46 S49
             refine J.run 13 K38_37 [(54, .pointer (some ⟨b10, 1, none⟩)), (12, .pointer (some ⟨b10, 0, none⟩)), (11, iv 3), (10, .pointer (some ⟨b6, 0, none⟩)), (9, .slice (some ⟨b5, 0, none⟩) 5 5), (8, .slice (some ⟨b4, 0, none⟩) 5 5), (7, .slice (some ⟨b3, 0, none⟩) 5 5), (5, .pointer (some ⟨b2, 0, none⟩)), (4, .pointer (some ⟨b1, 0, none⟩)), (0, .slice a n c), (1, iv bf)] w46 (by kernel_rfl) ?_
             refine J.ok (OK.ldBox S49 0 55 9 1 (.string ((L.getD 3 tk0).gText)) (by kernel_rfl) rfl (by kernel_rfl)) ?_
             refine J.callF 56 52 #[.string ((L.getD 3 tk0).gText)] hb52 (by kernel_rfl) (read_any ((L.getD 3 tk0).gText) _ (by have := hts 0; first | omega | exact Nat.le_trans (hts _) (by decide))) ?_
             rintro _ w47 ⟨rx2, rfl, hrx2, hbrx2, T2⟩
             have S50 : Sep w [box b10 (tkE (L.getD 3 tk0)) 78, box b6 [iv rx1, iv 0, iv 0, iv 0, iv 0] 48, box b5 kvD17_3 3, box b4 kvD17_4 3, box b3 kvD17_1 9, box b2 [iv 0, iv 0] 39, box b1 kvD17_2 27] w47 := S49.trans T2
             clear T2 S49
             refine J.run 14 K38_38 [(61, .bool (!(formL (ls ((L.getD 3 tk0).gText))))), (15, .bool (formL (ls ((L.getD 3 tk0).gText)) && decide ((digL (ls ((L.getD 3 tk0).gText))).length ≤ 13))), (13, iv rx2), (12, .pointer (some ⟨b10, 0, none⟩)), (11, iv 3), (10, .pointer (some ⟨b6, 0, none⟩)), (9, .slice (some ⟨b5, 0, none⟩) 5 5), (8, .slice (some ⟨b4, 0, none⟩) 5 5), (7, .slice (some ⟨b3, 0, none⟩) 5 5), (5, .pointer (some ⟨b2, 0, none⟩)), (4, .pointer (some ⟨b1, 0, none⟩)), (0, .slice a n c), (1, iv bf)] w47 (by kernel_rfl) ?_
             rcases Bool.eq_false_or_eq_true (formL (ls ((L.getD 3 tk0).gText))) with fk12 | fk12
             ·skip
              refine J.head (.bool false) (congrArg Value.bool (by rw [fk12]; rfl)) ?_
              have hg3 := fk12
              refine J.run 8 K38_39 [(67, .bool (!(formL (ls ((L.getD 3 tk0).gText)) && decide ((digL (ls ((L.getD 3 tk0).gText))).length ≤ 13)))), (13, iv rx2), (12, .pointer (some ⟨b10, 0, none⟩)), (11, iv 3), (10, .pointer (some ⟨b6, 0, none⟩)), (9, .slice (some ⟨b5, 0, none⟩) 5 5), (8, .slice (some ⟨b4, 0, none⟩) 5 5), (7, .slice (some ⟨b3, 0, none⟩) 5 5), (5, .pointer (some ⟨b2, 0, none⟩)), (4, .pointer (some ⟨b1, 0, none⟩)), (0, .slice a n c), (1, iv bf)] w47 (by kernel_rfl) ?_
              rcases Bool.eq_false_or_eq_true (formL (ls ((L.getD 3 tk0).gText)) && decide ((digL (ls ((L.getD 3 tk0).gText))).length ≤ 13)) with fk13 | fk13
              ·skip
               refine J.head (.bool false) (congrArg Value.bool (by rw [fk13]; rfl)) ?_
               have hf3 := fk13
               have hv3 : rx2 = nm L 3 := hrx2 fk13
               refine J.run 4 K38_40 [(71, iv 1), (69, .slice (some ⟨b4, 0, none⟩) 5 5), (68, iv rx2), (67, .bool false), (13, iv rx2), (12, .pointer (some ⟨b10, 0, none⟩)), (11, iv 3), (10, .pointer (some ⟨b6, 0, none⟩)), (9, .slice (some ⟨b5, 0, none⟩) 5 5), (8, .slice (some ⟨b4, 0, none⟩) 5 5), (7, .slice (some ⟨b3, 0, none⟩) 5 5), (5, .pointer (some ⟨b2, 0, none⟩)), (4, .pointer (some ⟨b1, 0, none⟩)), (0, .slice a n c), (1, iv bf)] w47 (by kernel_rfl) ?_
               refine J.ok (OK.index 72 95 1 (some ⟨b4, 0, none⟩) ⟨b4, 0, none⟩ 5 1 1 ⟨b4, 1, none⟩ (by kernel_rfl) (by kernel_rfl) rfl (by omega) (by omega) (by rfl)) ?_
               refine J.ok (OK.ldBox S50 3 73 3 1 (iv 0) (by kernel_rfl) rfl (by kernel_rfl)) ?_
               refine J.run 3 K38_41 [(76, .bool (decide (rx2 < 0))), (13, iv rx2), (12, .pointer (some ⟨b10, 0, none⟩)), (11, iv 3), (10, .pointer (some ⟨b6, 0, none⟩)), (9, .slice (some ⟨b5, 0, none⟩) 5 5), (8, .slice (some ⟨b4, 0, none⟩) 5 5), (7, .slice (some ⟨b3, 0, none⟩) 5 5), (5, .pointer (some ⟨b2, 0, none⟩)), (4, .pointer (some ⟨b1, 0, none⟩)), (0, .slice a n c), (1, iv bf)] w47 (by kernel_rfl) ?_
               by_cases fk14 : rx2 < 0
               ·skip
                refine J.head (.bool true) (congrArg Value.bool (decide_eq_true fk14)) ?_
                refine J.run 11 K38_42 [(12, .pointer (some ⟨b10, 0, none⟩)), (5, .pointer (some ⟨b2, 0, none⟩)), (4, .pointer (some ⟨b1, 0, none⟩))] w47 (by kernel_rfl) ?_
                refine J.drawPlan (fun w_ => Sep w [box b10 (tkE (L.getD 3 tk0)) 78, box b6 [iv rx1, iv 0, iv 0, iv 0, iv 0] 48, box b5 kvD17_3 3, box b4 kvD17_4 3, box b3 kvD17_1 9, box b1 kvD17_2 27] w_) [(0, true), (1, true), (2, true), (3, false), (4, false), (5, true)] S50 Tryd.mixed (by kernel_rfl) (planOK_of (T := [(0, some 85, 0), (0, some 86, 4096), (2, some 87, 77371252455336267181195264), (1, none, 38685626227668133590597648), (15, none, 154742504910672534362390560), (31, some 6, 0)]) (by kernel_rfl) (by kernel_rfl)) ?_
                intro w48 S51
                refine PB.mk (S51.erase 5) ?_
                refine PL.take 0 85 (.agg kvD17_6) (fun _ _ => by kernel_rfl) ?_
                refine PL.take 1 86 (.pointer (some ⟨b10, 2, none⟩)) (fun _ _ => by kernel_rfl) ?_
                refine PL.takeOK 2 (fun w_ S_ => OK.ldBox S_ 0 87 39 2 (.agg #[iv ((L.getD 3 tk0).gPlace_Line), iv ((L.getD 3 tk0).gPlace_Column)]) (by kernel_rfl) rfl (by kernel_rfl)) rfl ?_
                refine PL.stBox S51 6 27 0 (.agg kvD17_6) kvD17_2 [box b10 (tkE (L.getD 3 tk0)) 78, box b6 [iv rx1, iv 0, iv 0, iv 0, iv 0] 48, box b5 kvD17_3 3, box b4 kvD17_4 3, box b3 kvD17_1 9, box b2 [iv 0, iv 0] 39, box b1 kvD17_2 27] (by kernel_rfl) rfl (by kernel_rfl) (by kernel_rfl) rfl ?_
                intro w49 S52
                refine PB.mk (S52.erase 5) ?_
                refine PL.stBox S52 5 39 0 (.agg #[iv ((L.getD 3 tk0).gPlace_Line), iv ((L.getD 3 tk0).gPlace_Column)]) [iv ((L.getD 3 tk0).gPlace_Line), iv ((L.getD 3 tk0).gPlace_Column)] [box b10 (tkE (L.getD 3 tk0)) 78, box b6 [iv rx1, iv 0, iv 0, iv 0, iv 0] 48, box b5 kvD17_3 3, box b4 kvD17_4 3, box b3 kvD17_1 9, box b2 [iv ((L.getD 3 tk0).gPlace_Line), iv ((L.getD 3 tk0).gPlace_Column)] 39, box b1 kvD17_2 27] (by kernel_rfl) rfl (by kernel_rfl) (by kernel_rfl) rfl ?_
                intro w50 S53
                refine PB.mk (S53.erase 5) ?_
                refine PL.take 5 6 (iv 2) (fun _ _ => by kernel_rfl) ?_
                refine PL.done ?_
                refine J.run 0 (rRest K38_42) [(6, iv 2), (5, .pointer (some ⟨b2, 0, none⟩)), (4, .pointer (some ⟨b1, 0, none⟩))] w50 (by kernel_rfl) ?_
                refine J.ret Tryd.f38 [.agg kvD17_6, .agg #[iv ((L.getD 3 tk0).gPlace_Line), iv ((L.getD 3 tk0).gPlace_Column)], iv 2] Tryd.func38 ⟨⟨⟨b1, 0, none⟩, by kernel_rfl, ldV_run (S53.nth 6 rfl) (by kernel_rfl)⟩, ⟨⟨b2, 0, none⟩, by kernel_rfl, ldV_run (S53.nth 5 rfl) (by kernel_rfl)⟩, by kernel_rfl, trivial⟩ ?_
                refine hR _ _ ?_
                have h0_ : ls5 L false bf = some (2, 3) := num_rng hll s4 (by omega) hg3 (.inr (by rw [← hv3]; omega))
                have h_ : lineS L false bf = some (2, 3) := up5 h0_
                obtain ⟨e1, ⟨e2, e3⟩, e4⟩ := rl_some h_
                exact ⟨by rw [e1, e2, e3, e4]; rfl, S53.nil⟩
               ·skip
                refine J.head (.bool false) (congrArg Value.bool (decide_eq_false fk14)) ?_
                refine J.run 4 K38_43 [(80, iv 1), (78, .slice (some ⟨b5, 0, none⟩) 5 5), (77, iv rx2), (76, .bool false), (13, iv rx2), (12, .pointer (some ⟨b10, 0, none⟩)), (11, iv 3), (10, .pointer (some ⟨b6, 0, none⟩)), (9, .slice (some ⟨b5, 0, none⟩) 5 5), (8, .slice (some ⟨b4, 0, none⟩) 5 5), (7, .slice (some ⟨b3, 0, none⟩) 5 5), (5, .pointer (some ⟨b2, 0, none⟩)), (4, .pointer (some ⟨b1, 0, none⟩)), (0, .slice a n c), (1, iv bf)] w47 (by kernel_rfl) ?_
                refine J.ok (OK.index 81 95 1 (some ⟨b5, 0, none⟩) ⟨b5, 0, none⟩ 5 1 1 ⟨b5, 1, none⟩ (by kernel_rfl) (by kernel_rfl) rfl (by omega) (by omega) (by rfl)) ?_
                refine J.ok (OK.ldBox S50 2 82 3 1 (iv 1000) (by kernel_rfl) rfl (by kernel_rfl)) ?_
                refine J.run 3 K38_44 [(84, .bool (decide (rx2 > 1000))), (13, iv rx2), (12, .pointer (some ⟨b10, 0, none⟩)), (11, iv 3), (10, .pointer (some ⟨b6, 0, none⟩)), (9, .slice (some ⟨b5, 0, none⟩) 5 5), (8, .slice (some ⟨b4, 0, none⟩) 5 5), (7, .slice (some ⟨b3, 0, none⟩) 5 5), (5, .pointer (some ⟨b2, 0, none⟩)), (4, .pointer (some ⟨b1, 0, none⟩)), (0, .slice a n c), (1, iv bf)] w47 (by kernel_rfl) ?_
                by_cases fk15 : rx2 > 1000
                ·skip
                 refine J.head (.bool true) (congrArg Value.bool (decide_eq_true fk15)) ?_
                 refine J.run 2 K38_45 [(12, .pointer (some ⟨b10, 0, none⟩)), (5, .pointer (some ⟨b2, 0, none⟩)), (4, .pointer (some ⟨b1, 0, none⟩))] w47 (by kernel_rfl) ?_
                 refine J.drawPlan (fun w_ => Sep w [box b10 (tkE (L.getD 3 tk0)) 78, box b6 [iv rx1, iv 0, iv 0, iv 0, iv 0] 48, box b5 kvD17_3 3, box b4 kvD17_4 3, box b3 kvD17_1 9, box b1 kvD17_2 27] w_) [(0, true), (1, true), (2, true), (3, false), (4, false), (5, true)] S50 Tryd.mixed (by kernel_rfl) (planOK_of (T := [(0, some 85, 0), (0, some 86, 4096), (2, some 87, 77371252455336267181195264), (1, none, 38685626227668133590597648), (15, none, 154742504910672534362390560), (31, some 6, 0)]) (by kernel_rfl) (by kernel_rfl)) ?_
                 intro w51 S54
                 refine PB.mk (S54.erase 5) ?_
                 refine PL.take 0 85 (.agg kvD17_6) (fun _ _ => by kernel_rfl) ?_
                 refine PL.take 1 86 (.pointer (some ⟨b10, 2, none⟩)) (fun _ _ => by kernel_rfl) ?_
                 refine PL.takeOK 2 (fun w_ S_ => OK.ldBox S_ 0 87 39 2 (.agg #[iv ((L.getD 3 tk0).gPlace_Line), iv ((L.getD 3 tk0).gPlace_Column)]) (by kernel_rfl) rfl (by kernel_rfl)) rfl ?_
                 refine PL.stBox S54 6 27 0 (.agg kvD17_6) kvD17_2 [box b10 (tkE (L.getD 3 tk0)) 78, box b6 [iv rx1, iv 0, iv 0, iv 0, iv 0] 48, box b5 kvD17_3 3, box b4 kvD17_4 3, box b3 kvD17_1 9, box b2 [iv 0, iv 0] 39, box b1 kvD17_2 27] (by kernel_rfl) rfl (by kernel_rfl) (by kernel_rfl) rfl ?_
                 intro w52 S55
                 refine PB.mk (S55.erase 5) ?_
                 refine PL.stBox S55 5 39 0 (.agg #[iv ((L.getD 3 tk0).gPlace_Line), iv ((L.getD 3 tk0).gPlace_Column)]) [iv ((L.getD 3 tk0).gPlace_Line), iv ((L.getD 3 tk0).gPlace_Column)] [box b10 (tkE (L.getD 3 tk0)) 78, box b6 [iv rx1, iv 0, iv 0, iv 0, iv 0] 48, box b5 kvD17_3 3, box b4 kvD17_4 3, box b3 kvD17_1 9, box b2 [iv ((L.getD 3 tk0).gPlace_Line), iv ((L.getD 3 tk0).gPlace_Column)] 39, box b1 kvD17_2 27] (by kernel_rfl) rfl (by kernel_rfl) (by kernel_rfl) rfl ?_
                 intro w53 S56
                 refine PB.mk (S56.erase 5) ?_
                 refine PL.take 5 6 (iv 2) (fun _ _ => by kernel_rfl) ?_
                 refine PL.done ?_
                 refine J.run 0 (rRest K38_45) [(6, iv 2), (5, .pointer (some ⟨b2, 0, none⟩)), (4, .pointer (some ⟨b1, 0, none⟩))] w53 (by kernel_rfl) ?_
                 refine J.ret Tryd.f38 [.agg kvD17_6, .agg #[iv ((L.getD 3 tk0).gPlace_Line), iv ((L.getD 3 tk0).gPlace_Column)], iv 2] Tryd.func38 ⟨⟨⟨b1, 0, none⟩, by kernel_rfl, ldV_run (S56.nth 6 rfl) (by kernel_rfl)⟩, ⟨⟨b2, 0, none⟩, by kernel_rfl, ldV_run (S56.nth 5 rfl) (by kernel_rfl)⟩, by kernel_rfl, trivial⟩ ?_
                 refine hR _ _ ?_
                 have h0_ : ls5 L false bf = some (2, 3) := num_rng hll s4 (by omega) hg3 (.inr (by rw [← hv3]; omega))
                 have h_ : lineS L false bf = some (2, 3) := up5 h0_
                 obtain ⟨e1, ⟨e2, e3⟩, e4⟩ := rl_some h_
                 exact ⟨by rw [e1, e2, e3, e4]; rfl, S56.nil⟩
                ·skip
                 refine J.head (.bool false) (congrArg Value.bool (decide_eq_false fk15)) ?_
                 have s5 : ls5 L false bf = none := num_pass hll s4 (by omega) hg3 hf3 (by rw [← hv3]; omega)
                 refine J.run 31 K38_46 [(112, iv rx2), (111, iv 1), (11, iv 3), (10, .pointer (some ⟨b6, 0, none⟩)), (9, .slice (some ⟨b5, 0, none⟩) 5 5), (8, .slice (some ⟨b4, 0, none⟩) 5 5), (7, .slice (some ⟨b3, 0, none⟩) 5 5), (5, .pointer (some ⟨b2, 0, none⟩)), (4, .pointer (some ⟨b1, 0, none⟩)), (0, .slice a n c), (1, iv bf)] w47 (by kernel_rfl) ?_
                 refine J.ok (OK.indexP 113 48 5 1 b6 0 1 1 (by kernel_rfl) (by kernel_rfl) (by omega) (by omega)) ?_
                 refine J.head (.pointer (some ⟨b6, 1, none⟩)) (by first | rfl | (rw [Nat.zero_add, Nat.mul_one])) ?_
                 refine J.stBox S50 1 3 1 (iv rx2) [iv rx1, iv rx2, iv 0, iv 0, iv 0] [box b10 (tkE (L.getD 3 tk0)) 78, box b6 [iv rx1, iv rx2, iv 0, iv 0, iv 0] 48, box b5 kvD17_3 3, box b4 kvD17_4 3, box b3 kvD17_1 9, box b2 [iv 0, iv 0] 39, box b1 kvD17_2 27] (by kernel_rfl) rfl (by kernel_rfl) (by kernel_rfl) rfl ?_
                 intro w54 S57
                 refine J.run 8 K38_47 [(11, iv 4), (10, .pointer (some ⟨b6, 0, none⟩)), (9, .slice (some ⟨b5, 0, none⟩) 5 5), (8, .slice (some ⟨b4, 0, none⟩) 5 5), (7, .slice (some ⟨b3, 0, none⟩) 5 5), (5, .pointer (some ⟨b2, 0, none⟩)), (4, .pointer (some ⟨b1, 0, none⟩)), (0, .slice a n c), (1, iv bf)] w54 (by kernel_rfl) ?_
                 have S58 : Sep w [box b6 [iv rx1, iv rx2, iv 0, iv 0, iv 0] 48, box b5 kvD17_3 3, box b4 kvD17_4 3, box b3 kvD17_1 9, box b2 [iv 0, iv 0] 39, box b1 kvD17_2 27] w54 := S57.erase 0
                 clear S57
                 refine J.run 18 K38_48 [(26, .bool (decide (4 ≥ (n : Int)))), (11, iv 4), (10, .pointer (some ⟨b6, 0, none⟩)), (9, .slice (some ⟨b5, 0, none⟩) 5 5), (8, .slice (some ⟨b4, 0, none⟩) 5 5), (7, .slice (some ⟨b3, 0, none⟩) 5 5), (5, .pointer (some ⟨b2, 0, none⟩)), (4, .pointer (some ⟨b1, 0, none⟩)), (0, .slice a n c), (1, iv bf)] w54 (by kernel_rfl) ?_
                 by_cases fk16 : 4 ≥ (n : Int)
                 ·skip
                  refine J.head (.bool true) (congrArg Value.bool (decide_eq_true fk16)) ?_
                  refine J.run 2 K38_49 [(5, .pointer (some ⟨b2, 0, none⟩)), (4, .pointer (some ⟨b1, 0, none⟩)), (0, .slice a n c)] w54 (by kernel_rfl) ?_
                  obtain ⟨p11, hp11, hc11⟩ := hl.at tk0 ((n : Int) - 1).toNat (by omega)
                  refine J.drawPlan (fun w_ => Sep w [box b6 [iv rx1, iv rx2, iv 0, iv 0, iv 0] 48, box b5 kvD17_3 3, box b4 kvD17_4 3, box b3 kvD17_1 9, box b1 kvD17_2 27] w_) [(0, true), (1, true), (2, true), (3, true), (4, true), (5, true), (6, true), (7, true), (8, false), (9, false), (10, true)] S58 Tryd.mixed (by kernel_rfl) (planOK_of (T := [(0, some 27, 0), (0, some 28, 1), (0, some 29, 1), (4, some 30, 536870912), (8, some 31, 1073741824), (18, some 32, 2415919104), (32, some 33, 4294967296), (64, some 34, 8589934592), (1, none, 134217744), (511, none, 17179869216), (1023, some 6, 0)]) (by kernel_rfl) (by kernel_rfl)) ?_
                  intro w55 S59
                  refine PB.mk (S59.erase 4) ?_
                  refine PL.take 0 27 (.agg kvD17_6) (fun _ _ => by kernel_rfl) ?_
                  refine PL.take 1 28 (.slice a n c) (fun _ _ => by kernel_rfl) ?_
                  refine PL.take 2 29 (.slice a n c) (fun _ _ => by kernel_rfl) ?_
                  refine PL.take 3 30 (iv (n : Int)) (fun _ _ => by kernel_rfl) ?_
                  refine PL.take 4 31 (iv (IntKind.wrap .i64 ((n : Int) - 1))) (fun _ _ => by kernel_rfl) ?_
                  refine PL.head (iv ((n : Int) - 1)) (congrArg (Value.int .i64) (IntWalk.i64_in _ (by omega))) ?_
                  refine PL.takeOK 5 (fun w_ S_ => OK.index 32 71 4 a p11 n ((n : Int) - 1).toNat ((n : Int) - 1) (p11.add (((n : Int) - 1).toNat * 4)) (by kernel_rfl) (by kernel_rfl) hp11 (by omega) (by omega) rfl) rfl ?_
                  refine PL.take 6 33 (.pointer (some ((p11.add (((n : Int) - 1).toNat * 4)).add 2))) (fun _ _ => by kernel_rfl) ?_
                  refine PL.takeOK 7 (fun w_ S_ => OK.ldCells 34 39 ((p11.add (((n : Int) - 1).toNat * 4)).add 2) [iv ((L.getD ((n : Int) - 1).toNat tk0).gPlace_Line), iv ((L.getD ((n : Int) - 1).toNat tk0).gPlace_Column)] (by kernel_rfl) (by kernel_rfl) (by kernel_rfl) (fun j_ v_ hj_ => by rw [addr_add_add]; exact ((fun j_ v_ hj_ => S_.cell (hc11 j_ v_ hj_))) (2 + j_) v_ (by rcases j_ with _ | _ | j_ <;> first | exact hj_ | (cases hj_; done) | (simp at hj_; done)))) rfl ?_
                  refine PL.stBox S59 5 27 0 (.agg kvD17_6) kvD17_2 [box b6 [iv rx1, iv rx2, iv 0, iv 0, iv 0] 48, box b5 kvD17_3 3, box b4 kvD17_4 3, box b3 kvD17_1 9, box b2 [iv 0, iv 0] 39, box b1 kvD17_2 27] (by kernel_rfl) rfl (by kernel_rfl) (by kernel_rfl) rfl ?_
                  intro w56 S60
                  refine PB.mk (S60.erase 4) ?_
                  refine PL.stBox S60 4 39 0 (.agg #[iv ((L.getD ((n : Int) - 1).toNat tk0).gPlace_Line), iv ((L.getD ((n : Int) - 1).toNat tk0).gPlace_Column)]) [iv ((L.getD ((n : Int) - 1).toNat tk0).gPlace_Line), iv ((L.getD ((n : Int) - 1).toNat tk0).gPlace_Column)] [box b6 [iv rx1, iv rx2, iv 0, iv 0, iv 0] 48, box b5 kvD17_3 3, box b4 kvD17_4 3, box b3 kvD17_1 9, box b2 [iv ((L.getD ((n : Int) - 1).toNat tk0).gPlace_Line), iv ((L.getD ((n : Int) - 1).toNat tk0).gPlace_Column)] 39, box b1 kvD17_2 27] (by kernel_rfl) rfl (by kernel_rfl) (by kernel_rfl) rfl ?_
                  intro w57 S61
                  refine PB.mk (S61.erase 4) ?_
                  refine PL.take 10 6 (iv 4) (fun _ _ => by kernel_rfl) ?_
                  refine PL.done ?_
                  refine J.run 0 (rRest K38_49) [(6, iv 4), (5, .pointer (some ⟨b2, 0, none⟩)), (4, .pointer (some ⟨b1, 0, none⟩))] w57 (by kernel_rfl) ?_
                  refine J.ret Tryd.f38 [.agg kvD17_6, .agg #[iv ((L.getD ((n : Int) - 1).toNat tk0).gPlace_Line), iv ((L.getD ((n : Int) - 1).toNat tk0).gPlace_Column)], iv 4] Tryd.func38 ⟨⟨⟨b1, 0, none⟩, by kernel_rfl, ldV_run (S61.nth 5 rfl) (by kernel_rfl)⟩, ⟨⟨b2, 0, none⟩, by kernel_rfl, ldV_run (S61.nth 4 rfl) (by kernel_rfl)⟩, by kernel_rfl, trivial⟩ ?_
                  refine hR _ _ ?_
                  have h0_ : ls6 L false bf = some (4, (n : Int) - 1) := word_end hll s5 (by omega)
                  have h_ : lineS L false bf = some (4, (n : Int) - 1) := up6 h0_
                  obtain ⟨e1, ⟨e2, e3⟩, e4⟩ := rl_some h_
                  exact ⟨by rw [e1, e2, e3, e4]; rfl, S61.nil⟩
                 ·skip
                  refine J.head (.bool false) (congrArg Value.bool (decide_eq_false fk16)) ?_
                  refine J.run 6 K38_50 [(36, iv 4), (35, .slice a n c), (11, iv 4), (10, .pointer (some ⟨b6, 0, none⟩)), (9, .slice (some ⟨b5, 0, none⟩) 5 5), (8, .slice (some ⟨b4, 0, none⟩) 5 5), (7, .slice (some ⟨b3, 0, none⟩) 5 5), (5, .pointer (some ⟨b2, 0, none⟩)), (4, .pointer (some ⟨b1, 0, none⟩)), (0, .slice a n c), (1, iv bf)] w54 (by kernel_rfl) ?_
                  obtain ⟨p12, hp12, hc12⟩ := hl.at tk0 4 (by omega)
                  refine J.ok (OK.index 37 71 4 a p12 n 4 4 (p12.add (4 * 4)) (by kernel_rfl) (by kernel_rfl) hp12 (by omega) (by omega) rfl) ?_
                  refine J.ok (OK.ldCells 38 78 (p12.add (4 * 4)) (tkE (L.getD 4 tk0)) (by kernel_rfl) (by kernel_rfl) (by kernel_rfl) (fun j_ v_ hj_ => S58.cell (hc12 j_ v_ hj_))) ?_
                  refine J.new S58 12 kvD17_5 78 (by kernel_rfl) ?_
                  intro b11 w58 S62
                  refine J.stBox S62 0 78 0 (.agg #[iv ((L.getD 4 tk0).gKind), .string ((L.getD 4 tk0).gText), iv ((L.getD 4 tk0).gPlace_Line), iv ((L.getD 4 tk0).gPlace_Column)]) (tkE (L.getD 4 tk0)) [box b11 (tkE (L.getD 4 tk0)) 78, box b6 [iv rx1, iv rx2, iv 0, iv 0, iv 0] 48, box b5 kvD17_3 3, box b4 kvD17_4 3, box b3 kvD17_1 9, box b2 [iv 0, iv 0] 39, box b1 kvD17_2 27] (by kernel_rfl) rfl (by kernel_rfl) (by kernel_rfl) rfl ?_
                  intro w59 S63
                  refine J.run 11 K38_51 [(12, .pointer (some ⟨b11, 0, none⟩)), (11, iv 4), (10, .pointer (some ⟨b6, 0, none⟩)), (9, .slice (some ⟨b5, 0, none⟩) 5 5), (8, .slice (some ⟨b4, 0, none⟩) 5 5), (7, .slice (some ⟨b3, 0, none⟩) 5 5), (5, .pointer (some ⟨b2, 0, none⟩)), (4, .pointer (some ⟨b1, 0, none⟩)), (0, .slice a n c), (1, iv bf)] w59 (by kernel_rfl) ?_
                  obtain ⟨p13, hp13, hc13⟩ := (show Ones Value.string w59 (some ⟨b3, 0, none⟩) 5 [⟨#[97, 116]⟩, ⟨#[112, 101, 100, 97, 108]⟩, ⟨#[98, 114, 97, 107, 101]⟩, ⟨#[103, 101, 97, 114]⟩, ⟨#[108, 111, 97, 100]⟩] from ⟨rfl, box_cells (S63.nth 4 rfl)⟩).at ByteArray.empty 2 (by omega)
                  refine J.drawStill S63 8 Tryd.mixed (by kernel_rfl) (by kernel_rfl) (by kernel_rfl) ?_
                  intro w60 S64
                  refine SL.ok (by decide) (OK.run 42 (.pointer (some ⟨b11, 1, none⟩)) (by kernel_rfl)) ?_
                  refine SL.ok (by decide) (OK.ldBox S64 0 43 9 1 (.string ((L.getD 4 tk0).gText)) (by kernel_rfl) rfl (by kernel_rfl)) ?_
                  refine SL.ok (by decide) (OK.run 44 (.slice (some ⟨b3, 0, none⟩) 5 5) (by kernel_rfl)) ?_
                  refine SL.ok (by decide) (OK.run 45 (iv 4) (by kernel_rfl)) ?_
                  refine SL.ok (by decide) (OK.run 46 (iv 2) (by kernel_rfl)) ?_
                  refine SL.ok (by decide) (OK.index 47 69 1 (some ⟨b3, 0, none⟩) ⟨b3, 0, none⟩ 5 2 2 ⟨b3, 2, none⟩ (by kernel_rfl) (by kernel_rfl) rfl (by omega) (by omega) (by rfl)) ?_
                  refine SL.ok (by decide) (OK.ldBox S64 4 48 9 2 (.string ⟨#[98, 114, 97, 107, 101]⟩) (by kernel_rfl) rfl (by kernel_rfl)) ?_
                  refine SL.ok (by decide) (OK.run 49 (.bool (!(((L.getD 4 tk0).gText).toList == (⟨#[98, 114, 97, 107, 101]⟩ : ByteArray).toList))) (by kernel_rfl)) ?_
                  refine SL.done ?_
                  refine TL.done (by kernel_rfl) ?_
                  refine J.run 0 (rRest K38_51) [(49, .bool (!(((L.getD 4 tk0).gText).toList == (⟨#[98, 114, 97, 107, 101]⟩ : ByteArray).toList))), (12, .pointer (some ⟨b11, 0, none⟩)), (11, iv 4), (10, .pointer (some ⟨b6, 0, none⟩)), (9, .slice (some ⟨b5, 0, none⟩) 5 5), (8, .slice (some ⟨b4, 0, none⟩) 5 5), (7, .slice (some ⟨b3, 0, none⟩) 5 5), (5, .pointer (some ⟨b2, 0, none⟩)), (4, .pointer (some ⟨b1, 0, none⟩)), (0, .slice a n c), (1, iv bf)] w60 (by kernel_rfl) ?_
                  rcases Bool.eq_false_or_eq_true (!(((L.getD 4 tk0).gText).toList == (⟨#[98, 114, 97, 107, 101]⟩ : ByteArray).toList)) with fk17 | fk17
                  ·skip
                   refine J.head (.bool true) (congrArg Value.bool fk17) ?_
                   have hw4 := fk17
                   refine J.run 2 K38_52 [(12, .pointer (some ⟨b11, 0, none⟩)), (5, .pointer (some ⟨b2, 0, none⟩)), (4, .pointer (some ⟨b1, 0, none⟩))] w60 (by kernel_rfl) ?_
                   refine J.drawPlan (fun w_ => Sep w [box b11 (tkE (L.getD 4 tk0)) 78, box b6 [iv rx1, iv rx2, iv 0, iv 0, iv 0] 48, box b5 kvD17_3 3, box b4 kvD17_4 3, box b3 kvD17_1 9, box b1 kvD17_2 27] w_) [(0, true), (1, true), (2, true), (3, false), (4, false), (5, true)] S64 Tryd.mixed (by kernel_rfl) (planOK_of (T := [(0, some 50, 0), (0, some 51, 4096), (2, some 52, 2251799813685248), (1, none, 1125899906842640), (15, none, 4503599627370528), (31, some 6, 0)]) (by kernel_rfl) (by kernel_rfl)) ?_
                   intro w61 S65
                   refine PB.mk (S65.erase 5) ?_
                   refine PL.take 0 50 (.agg kvD17_6) (fun _ _ => by kernel_rfl) ?_
                   refine PL.take 1 51 (.pointer (some ⟨b11, 2, none⟩)) (fun _ _ => by kernel_rfl) ?_
                   refine PL.takeOK 2 (fun w_ S_ => OK.ldBox S_ 0 52 39 2 (.agg #[iv ((L.getD 4 tk0).gPlace_Line), iv ((L.getD 4 tk0).gPlace_Column)]) (by kernel_rfl) rfl (by kernel_rfl)) rfl ?_
                   refine PL.stBox S65 6 27 0 (.agg kvD17_6) kvD17_2 [box b11 (tkE (L.getD 4 tk0)) 78, box b6 [iv rx1, iv rx2, iv 0, iv 0, iv 0] 48, box b5 kvD17_3 3, box b4 kvD17_4 3, box b3 kvD17_1 9, box b2 [iv 0, iv 0] 39, box b1 kvD17_2 27] (by kernel_rfl) rfl (by kernel_rfl) (by kernel_rfl) rfl ?_
                   intro w62 S66
                   refine PB.mk (S66.erase 5) ?_
                   refine PL.stBox S66 5 39 0 (.agg #[iv ((L.getD 4 tk0).gPlace_Line), iv ((L.getD 4 tk0).gPlace_Column)]) [iv ((L.getD 4 tk0).gPlace_Line), iv ((L.getD 4 tk0).gPlace_Column)] [box b11 (tkE (L.getD 4 tk0)) 78, box b6 [iv rx1, iv rx2, iv 0, iv 0, iv 0] 48, box b5 kvD17_3 3, box b4 kvD17_4 3, box b3 kvD17_1 9, box b2 [iv ((L.getD 4 tk0).gPlace_Line), iv ((L.getD 4 tk0).gPlace_Column)] 39, box b1 kvD17_2 27] (by kernel_rfl) rfl (by kernel_rfl) (by kernel_rfl) rfl ?_
                   intro w63 S67
                   refine PB.mk (S67.erase 5) ?_
                   refine PL.take 5 6 (iv 3) (fun _ _ => by kernel_rfl) ?_
                   refine PL.done ?_
                   refine J.run 0 (rRest K38_52) [(6, iv 3), (5, .pointer (some ⟨b2, 0, none⟩)), (4, .pointer (some ⟨b1, 0, none⟩))] w63 (by kernel_rfl) ?_
                   refine J.ret Tryd.f38 [.agg kvD17_6, .agg #[iv ((L.getD 4 tk0).gPlace_Line), iv ((L.getD 4 tk0).gPlace_Column)], iv 3] Tryd.func38 ⟨⟨⟨b1, 0, none⟩, by kernel_rfl, ldV_run (S67.nth 6 rfl) (by kernel_rfl)⟩, ⟨⟨b2, 0, none⟩, by kernel_rfl, ldV_run (S67.nth 5 rfl) (by kernel_rfl)⟩, by kernel_rfl, trivial⟩ ?_
                   refine hR _ _ ?_
                   have h0_ : ls6 L false bf = some (3, 4) := word_hit hll s5 (by omega) hw4
                   have h_ : lineS L false bf = some (3, 4) := up6 h0_
                   obtain ⟨e1, ⟨e2, e3⟩, e4⟩ := rl_some h_
                   exact ⟨by rw [e1, e2, e3, e4]; rfl, S67.nil⟩
                  ·skip
                   refine J.head (.bool false) (congrArg Value.bool fk17) ?_
                   have hw4 := fk17
                   have s6 : ls6 L false bf = none := word_pass hll s5 (by omega) fk17
                   refine J.run 9 K38_53 [(11, iv 5), (10, .pointer (some ⟨b6, 0, none⟩)), (9, .slice (some ⟨b5, 0, none⟩) 5 5), (8, .slice (some ⟨b4, 0, none⟩) 5 5), (7, .slice (some ⟨b3, 0, none⟩) 5 5), (5, .pointer (some ⟨b2, 0, none⟩)), (4, .pointer (some ⟨b1, 0, none⟩)), (0, .slice a n c), (1, iv bf)] w60 (by kernel_rfl) ?_
                   have S68 : Sep w [box b6 [iv rx1, iv rx2, iv 0, iv 0, iv 0] 48, box b5 kvD17_3 3, box b4 kvD17_4 3, box b3 kvD17_1 9, box b2 [iv 0, iv 0] 39, box b1 kvD17_2 27] w60 := S64.erase 0
                   clear S64
                   refine J.run 18 K38_54 [(26, .bool (decide (5 ≥ (n : Int)))), (11, iv 5), (10, .pointer (some ⟨b6, 0, none⟩)), (9, .slice (some ⟨b5, 0, none⟩) 5 5), (8, .slice (some ⟨b4, 0, none⟩) 5 5), (7, .slice (some ⟨b3, 0, none⟩) 5 5), (5, .pointer (some ⟨b2, 0, none⟩)), (4, .pointer (some ⟨b1, 0, none⟩)), (0, .slice a n c), (1, iv bf)] w60 (by kernel_rfl) ?_
                   by_cases fk18 : 5 ≥ (n : Int)
                   ·skip
                    refine J.head (.bool true) (congrArg Value.bool (decide_eq_true fk18)) ?_
                    refine J.run 2 K38_55 [(5, .pointer (some ⟨b2, 0, none⟩)), (4, .pointer (some ⟨b1, 0, none⟩)), (0, .slice a n c)] w60 (by kernel_rfl) ?_
                    obtain ⟨p14, hp14, hc14⟩ := hl.at tk0 ((n : Int) - 1).toNat (by omega)
                    refine J.drawPlan (fun w_ => Sep w [box b6 [iv rx1, iv rx2, iv 0, iv 0, iv 0] 48, box b5 kvD17_3 3, box b4 kvD17_4 3, box b3 kvD17_1 9, box b1 kvD17_2 27] w_) [(0, true), (1, true), (2, true), (3, true), (4, true), (5, true), (6, true), (7, true), (8, false), (9, false), (10, true)] S68 Tryd.mixed (by kernel_rfl) (planOK_of (T := [(0, some 27, 0), (0, some 28, 1), (0, some 29, 1), (4, some 30, 536870912), (8, some 31, 1073741824), (18, some 32, 2415919104), (32, some 33, 4294967296), (64, some 34, 8589934592), (1, none, 134217744), (511, none, 17179869216), (1023, some 6, 0)]) (by kernel_rfl) (by kernel_rfl)) ?_
                    intro w64 S69
                    refine PB.mk (S69.erase 4) ?_
                    refine PL.take 0 27 (.agg kvD17_6) (fun _ _ => by kernel_rfl) ?_
                    refine PL.take 1 28 (.slice a n c) (fun _ _ => by kernel_rfl) ?_
                    refine PL.take 2 29 (.slice a n c) (fun _ _ => by kernel_rfl) ?_
                    refine PL.take 3 30 (iv (n : Int)) (fun _ _ => by kernel_rfl) ?_
                    refine PL.take 4 31 (iv (IntKind.wrap .i64 ((n : Int) - 1))) (fun _ _ => by kernel_rfl) ?_
                    refine PL.head (iv ((n : Int) - 1)) (congrArg (Value.int .i64) (IntWalk.i64_in _ (by omega))) ?_
                    refine PL.takeOK 5 (fun w_ S_ => OK.index 32 71 4 a p14 n ((n : Int) - 1).toNat ((n : Int) - 1) (p14.add (((n : Int) - 1).toNat * 4)) (by kernel_rfl) (by kernel_rfl) hp14 (by omega) (by omega) rfl) rfl ?_
                    refine PL.take 6 33 (.pointer (some ((p14.add (((n : Int) - 1).toNat * 4)).add 2))) (fun _ _ => by kernel_rfl) ?_
                    refine PL.takeOK 7 (fun w_ S_ => OK.ldCells 34 39 ((p14.add (((n : Int) - 1).toNat * 4)).add 2) [iv ((L.getD ((n : Int) - 1).toNat tk0).gPlace_Line), iv ((L.getD ((n : Int) - 1).toNat tk0).gPlace_Column)] (by kernel_rfl) (by kernel_rfl) (by kernel_rfl) (fun j_ v_ hj_ => by rw [addr_add_add]; exact ((fun j_ v_ hj_ => S_.cell (hc14 j_ v_ hj_))) (2 + j_) v_ (by rcases j_ with _ | _ | j_ <;> first | exact hj_ | (cases hj_; done) | (simp at hj_; done)))) rfl ?_
                    refine PL.stBox S69 5 27 0 (.agg kvD17_6) kvD17_2 [box b6 [iv rx1, iv rx2, iv 0, iv 0, iv 0] 48, box b5 kvD17_3 3, box b4 kvD17_4 3, box b3 kvD17_1 9, box b2 [iv 0, iv 0] 39, box b1 kvD17_2 27] (by kernel_rfl) rfl (by kernel_rfl) (by kernel_rfl) rfl ?_
                    intro w65 S70
                    refine PB.mk (S70.erase 4) ?_
                    refine PL.stBox S70 4 39 0 (.agg #[iv ((L.getD ((n : Int) - 1).toNat tk0).gPlace_Line), iv ((L.getD ((n : Int) - 1).toNat tk0).gPlace_Column)]) [iv ((L.getD ((n : Int) - 1).toNat tk0).gPlace_Line), iv ((L.getD ((n : Int) - 1).toNat tk0).gPlace_Column)] [box b6 [iv rx1, iv rx2, iv 0, iv 0, iv 0] 48, box b5 kvD17_3 3, box b4 kvD17_4 3, box b3 kvD17_1 9, box b2 [iv ((L.getD ((n : Int) - 1).toNat tk0).gPlace_Line), iv ((L.getD ((n : Int) - 1).toNat tk0).gPlace_Column)] 39, box b1 kvD17_2 27] (by kernel_rfl) rfl (by kernel_rfl) (by kernel_rfl) rfl ?_
                    intro w66 S71
                    refine PB.mk (S71.erase 4) ?_
                    refine PL.take 10 6 (iv 4) (fun _ _ => by kernel_rfl) ?_
                    refine PL.done ?_
                    refine J.run 0 (rRest K38_55) [(6, iv 4), (5, .pointer (some ⟨b2, 0, none⟩)), (4, .pointer (some ⟨b1, 0, none⟩))] w66 (by kernel_rfl) ?_
                    refine J.ret Tryd.f38 [.agg kvD17_6, .agg #[iv ((L.getD ((n : Int) - 1).toNat tk0).gPlace_Line), iv ((L.getD ((n : Int) - 1).toNat tk0).gPlace_Column)], iv 4] Tryd.func38 ⟨⟨⟨b1, 0, none⟩, by kernel_rfl, ldV_run (S71.nth 5 rfl) (by kernel_rfl)⟩, ⟨⟨b2, 0, none⟩, by kernel_rfl, ldV_run (S71.nth 4 rfl) (by kernel_rfl)⟩, by kernel_rfl, trivial⟩ ?_
                    refine hR _ _ ?_
                    have h0_ : ls7 L false bf = some (4, (n : Int) - 1) := num_end hll s6 (by omega)
                    have h_ : lineS L false bf = some (4, (n : Int) - 1) := up7 h0_
                    obtain ⟨e1, ⟨e2, e3⟩, e4⟩ := rl_some h_
                    exact ⟨by rw [e1, e2, e3, e4]; rfl, S71.nil⟩
                   ·skip
                    refine J.head (.bool false) (congrArg Value.bool (decide_eq_false fk18)) ?_
                    refine J.run 6 K38_56 [(36, iv 5), (35, .slice a n c), (11, iv 5), (10, .pointer (some ⟨b6, 0, none⟩)), (9, .slice (some ⟨b5, 0, none⟩) 5 5), (8, .slice (some ⟨b4, 0, none⟩) 5 5), (7, .slice (some ⟨b3, 0, none⟩) 5 5), (5, .pointer (some ⟨b2, 0, none⟩)), (4, .pointer (some ⟨b1, 0, none⟩)), (0, .slice a n c), (1, iv bf)] w60 (by kernel_rfl) ?_
                    obtain ⟨p15, hp15, hc15⟩ := hl.at tk0 5 (by omega)
                    refine J.ok (OK.index 37 71 4 a p15 n 5 5 (p15.add (5 * 4)) (by kernel_rfl) (by kernel_rfl) hp15 (by omega) (by omega) rfl) ?_
                    refine J.ok (OK.ldCells 38 78 (p15.add (5 * 4)) (tkE (L.getD 5 tk0)) (by kernel_rfl) (by kernel_rfl) (by kernel_rfl) (fun j_ v_ hj_ => S68.cell (hc15 j_ v_ hj_))) ?_
                    refine J.new S68 12 kvD17_5 78 (by kernel_rfl) ?_
                    intro b12 w67 S72
                    refine J.stBox S72 0 78 0 (.agg #[iv ((L.getD 5 tk0).gKind), .string ((L.getD 5 tk0).gText), iv ((L.getD 5 tk0).gPlace_Line), iv ((L.getD 5 tk0).gPlace_Column)]) (tkE (L.getD 5 tk0)) [box b12 (tkE (L.getD 5 tk0)) 78, box b6 [iv rx1, iv rx2, iv 0, iv 0, iv 0] 48, box b5 kvD17_3 3, box b4 kvD17_4 3, box b3 kvD17_1 9, box b2 [iv 0, iv 0] 39, box b1 kvD17_2 27] (by kernel_rfl) rfl (by kernel_rfl) (by kernel_rfl) rfl ?_
                    intro w68 S73
                    refine J.run 13 K38_57 [(54, .pointer (some ⟨b12, 1, none⟩)), (12, .pointer (some ⟨b12, 0, none⟩)), (11, iv 5), (10, .pointer (some ⟨b6, 0, none⟩)), (9, .slice (some ⟨b5, 0, none⟩) 5 5), (8, .slice (some ⟨b4, 0, none⟩) 5 5), (7, .slice (some ⟨b3, 0, none⟩) 5 5), (5, .pointer (some ⟨b2, 0, none⟩)), (4, .pointer (some ⟨b1, 0, none⟩)), (0, .slice a n c), (1, iv bf)] w68 (by kernel_rfl) ?_
                    refine J.ok (OK.ldBox S73 0 55 9 1 (.string ((L.getD 5 tk0).gText)) (by kernel_rfl) rfl (by kernel_rfl)) ?_
                    refine J.callF 56 52 #[.string ((L.getD 5 tk0).gText)] hb52 (by kernel_rfl) (read_any ((L.getD 5 tk0).gText) _ (by have := hts 0; first | omega | exact Nat.le_trans (hts _) (by decide))) ?_
                    rintro _ w69 ⟨rx3, rfl, hrx3, hbrx3, T3⟩
                    have S74 : Sep w [box b12 (tkE (L.getD 5 tk0)) 78, box b6 [iv rx1, iv rx2, iv 0, iv 0, iv 0] 48, box b5 kvD17_3 3, box b4 kvD17_4 3, box b3 kvD17_1 9, box b2 [iv 0, iv 0] 39, box b1 kvD17_2 27] w69 := S73.trans T3
                    clear T3 S73
                    refine J.run 14 K38_58 [(61, .bool (!(formL (ls ((L.getD 5 tk0).gText))))), (15, .bool (formL (ls ((L.getD 5 tk0).gText)) && decide ((digL (ls ((L.getD 5 tk0).gText))).length ≤ 13))), (13, iv rx3), (12, .pointer (some ⟨b12, 0, none⟩)), (11, iv 5), (10, .pointer (some ⟨b6, 0, none⟩)), (9, .slice (some ⟨b5, 0, none⟩) 5 5), (8, .slice (some ⟨b4, 0, none⟩) 5 5), (7, .slice (some ⟨b3, 0, none⟩) 5 5), (5, .pointer (some ⟨b2, 0, none⟩)), (4, .pointer (some ⟨b1, 0, none⟩)), (0, .slice a n c), (1, iv bf)] w69 (by kernel_rfl) ?_
                    rcases Bool.eq_false_or_eq_true (formL (ls ((L.getD 5 tk0).gText))) with fk19 | fk19
                    ·skip
                     refine J.head (.bool false) (congrArg Value.bool (by rw [fk19]; rfl)) ?_
                     have hg5 := fk19
                     refine J.run 8 K38_59 [(67, .bool (!(formL (ls ((L.getD 5 tk0).gText)) && decide ((digL (ls ((L.getD 5 tk0).gText))).length ≤ 13)))), (13, iv rx3), (12, .pointer (some ⟨b12, 0, none⟩)), (11, iv 5), (10, .pointer (some ⟨b6, 0, none⟩)), (9, .slice (some ⟨b5, 0, none⟩) 5 5), (8, .slice (some ⟨b4, 0, none⟩) 5 5), (7, .slice (some ⟨b3, 0, none⟩) 5 5), (5, .pointer (some ⟨b2, 0, none⟩)), (4, .pointer (some ⟨b1, 0, none⟩)), (0, .slice a n c), (1, iv bf)] w69 (by kernel_rfl) ?_
                     rcases Bool.eq_false_or_eq_true (formL (ls ((L.getD 5 tk0).gText)) && decide ((digL (ls ((L.getD 5 tk0).gText))).length ≤ 13)) with fk20 | fk20
                     ·skip
                      refine J.head (.bool false) (congrArg Value.bool (by rw [fk20]; rfl)) ?_
                      have hf5 := fk20
                      have hv5 : rx3 = nm L 5 := hrx3 fk20
                      refine J.run 4 K38_60 [(71, iv 2), (69, .slice (some ⟨b4, 0, none⟩) 5 5), (68, iv rx3), (67, .bool false), (13, iv rx3), (12, .pointer (some ⟨b12, 0, none⟩)), (11, iv 5), (10, .pointer (some ⟨b6, 0, none⟩)), (9, .slice (some ⟨b5, 0, none⟩) 5 5), (8, .slice (some ⟨b4, 0, none⟩) 5 5), (7, .slice (some ⟨b3, 0, none⟩) 5 5), (5, .pointer (some ⟨b2, 0, none⟩)), (4, .pointer (some ⟨b1, 0, none⟩)), (0, .slice a n c), (1, iv bf)] w69 (by kernel_rfl) ?_
                      refine J.ok (OK.index 72 95 1 (some ⟨b4, 0, none⟩) ⟨b4, 0, none⟩ 5 2 2 ⟨b4, 2, none⟩ (by kernel_rfl) (by kernel_rfl) rfl (by omega) (by omega) (by rfl)) ?_
                      refine J.ok (OK.ldBox S74 3 73 3 2 (iv 0) (by kernel_rfl) rfl (by kernel_rfl)) ?_
                      refine J.run 3 K38_61 [(76, .bool (decide (rx3 < 0))), (13, iv rx3), (12, .pointer (some ⟨b12, 0, none⟩)), (11, iv 5), (10, .pointer (some ⟨b6, 0, none⟩)), (9, .slice (some ⟨b5, 0, none⟩) 5 5), (8, .slice (some ⟨b4, 0, none⟩) 5 5), (7, .slice (some ⟨b3, 0, none⟩) 5 5), (5, .pointer (some ⟨b2, 0, none⟩)), (4, .pointer (some ⟨b1, 0, none⟩)), (0, .slice a n c), (1, iv bf)] w69 (by kernel_rfl) ?_
                      by_cases fk21 : rx3 < 0
                      ·skip
                       refine J.head (.bool true) (congrArg Value.bool (decide_eq_true fk21)) ?_
                       refine J.run 11 K38_62 [(12, .pointer (some ⟨b12, 0, none⟩)), (5, .pointer (some ⟨b2, 0, none⟩)), (4, .pointer (some ⟨b1, 0, none⟩))] w69 (by kernel_rfl) ?_
                       refine J.drawPlan (fun w_ => Sep w [box b12 (tkE (L.getD 5 tk0)) 78, box b6 [iv rx1, iv rx2, iv 0, iv 0, iv 0] 48, box b5 kvD17_3 3, box b4 kvD17_4 3, box b3 kvD17_1 9, box b1 kvD17_2 27] w_) [(0, true), (1, true), (2, true), (3, false), (4, false), (5, true)] S74 Tryd.mixed (by kernel_rfl) (planOK_of (T := [(0, some 85, 0), (0, some 86, 4096), (2, some 87, 77371252455336267181195264), (1, none, 38685626227668133590597648), (15, none, 154742504910672534362390560), (31, some 6, 0)]) (by kernel_rfl) (by kernel_rfl)) ?_
                       intro w70 S75
                       refine PB.mk (S75.erase 5) ?_
                       refine PL.take 0 85 (.agg kvD17_6) (fun _ _ => by kernel_rfl) ?_
                       refine PL.take 1 86 (.pointer (some ⟨b12, 2, none⟩)) (fun _ _ => by kernel_rfl) ?_
                       refine PL.takeOK 2 (fun w_ S_ => OK.ldBox S_ 0 87 39 2 (.agg #[iv ((L.getD 5 tk0).gPlace_Line), iv ((L.getD 5 tk0).gPlace_Column)]) (by kernel_rfl) rfl (by kernel_rfl)) rfl ?_
                       refine PL.stBox S75 6 27 0 (.agg kvD17_6) kvD17_2 [box b12 (tkE (L.getD 5 tk0)) 78, box b6 [iv rx1, iv rx2, iv 0, iv 0, iv 0] 48, box b5 kvD17_3 3, box b4 kvD17_4 3, box b3 kvD17_1 9, box b2 [iv 0, iv 0] 39, box b1 kvD17_2 27] (by kernel_rfl) rfl (by kernel_rfl) (by kernel_rfl) rfl ?_
                       intro w71 S76
                       refine PB.mk (S76.erase 5) ?_
                       refine PL.stBox S76 5 39 0 (.agg #[iv ((L.getD 5 tk0).gPlace_Line), iv ((L.getD 5 tk0).gPlace_Column)]) [iv ((L.getD 5 tk0).gPlace_Line), iv ((L.getD 5 tk0).gPlace_Column)] [box b12 (tkE (L.getD 5 tk0)) 78, box b6 [iv rx1, iv rx2, iv 0, iv 0, iv 0] 48, box b5 kvD17_3 3, box b4 kvD17_4 3, box b3 kvD17_1 9, box b2 [iv ((L.getD 5 tk0).gPlace_Line), iv ((L.getD 5 tk0).gPlace_Column)] 39, box b1 kvD17_2 27] (by kernel_rfl) rfl (by kernel_rfl) (by kernel_rfl) rfl ?_
                       intro w72 S77
                       refine PB.mk (S77.erase 5) ?_
                       refine PL.take 5 6 (iv 2) (fun _ _ => by kernel_rfl) ?_
                       refine PL.done ?_
                       refine J.run 0 (rRest K38_62) [(6, iv 2), (5, .pointer (some ⟨b2, 0, none⟩)), (4, .pointer (some ⟨b1, 0, none⟩))] w72 (by kernel_rfl) ?_
                       refine J.ret Tryd.f38 [.agg kvD17_6, .agg #[iv ((L.getD 5 tk0).gPlace_Line), iv ((L.getD 5 tk0).gPlace_Column)], iv 2] Tryd.func38 ⟨⟨⟨b1, 0, none⟩, by kernel_rfl, ldV_run (S77.nth 6 rfl) (by kernel_rfl)⟩, ⟨⟨b2, 0, none⟩, by kernel_rfl, ldV_run (S77.nth 5 rfl) (by kernel_rfl)⟩, by kernel_rfl, trivial⟩ ?_
                       refine hR _ _ ?_
                       have h0_ : ls7 L false bf = some (2, 5) := num_rng hll s6 (by omega) hg5 (.inr (by rw [← hv5]; omega))
                       have h_ : lineS L false bf = some (2, 5) := up7 h0_
                       obtain ⟨e1, ⟨e2, e3⟩, e4⟩ := rl_some h_
                       exact ⟨by rw [e1, e2, e3, e4]; rfl, S77.nil⟩
                      ·skip
                       refine J.head (.bool false) (congrArg Value.bool (decide_eq_false fk21)) ?_
                       refine J.run 4 K38_63 [(80, iv 2), (78, .slice (some ⟨b5, 0, none⟩) 5 5), (77, iv rx3), (76, .bool false), (13, iv rx3), (12, .pointer (some ⟨b12, 0, none⟩)), (11, iv 5), (10, .pointer (some ⟨b6, 0, none⟩)), (9, .slice (some ⟨b5, 0, none⟩) 5 5), (8, .slice (some ⟨b4, 0, none⟩) 5 5), (7, .slice (some ⟨b3, 0, none⟩) 5 5), (5, .pointer (some ⟨b2, 0, none⟩)), (4, .pointer (some ⟨b1, 0, none⟩)), (0, .slice a n c), (1, iv bf)] w69 (by kernel_rfl) ?_
                       refine J.ok (OK.index 81 95 1 (some ⟨b5, 0, none⟩) ⟨b5, 0, none⟩ 5 2 2 ⟨b5, 2, none⟩ (by kernel_rfl) (by kernel_rfl) rfl (by omega) (by omega) (by rfl)) ?_
                       refine J.ok (OK.ldBox S74 2 82 3 2 (iv 1000) (by kernel_rfl) rfl (by kernel_rfl)) ?_
                       refine J.run 3 K38_64 [(84, .bool (decide (rx3 > 1000))), (13, iv rx3), (12, .pointer (some ⟨b12, 0, none⟩)), (11, iv 5), (10, .pointer (some ⟨b6, 0, none⟩)), (9, .slice (some ⟨b5, 0, none⟩) 5 5), (8, .slice (some ⟨b4, 0, none⟩) 5 5), (7, .slice (some ⟨b3, 0, none⟩) 5 5), (5, .pointer (some ⟨b2, 0, none⟩)), (4, .pointer (some ⟨b1, 0, none⟩)), (0, .slice a n c), (1, iv bf)] w69 (by kernel_rfl) ?_
                       by_cases fk22 : rx3 > 1000
                       ·skip
                        refine J.head (.bool true) (congrArg Value.bool (decide_eq_true fk22)) ?_
                        refine J.run 2 K38_65 [(12, .pointer (some ⟨b12, 0, none⟩)), (5, .pointer (some ⟨b2, 0, none⟩)), (4, .pointer (some ⟨b1, 0, none⟩))] w69 (by kernel_rfl) ?_
                        refine J.drawPlan (fun w_ => Sep w [box b12 (tkE (L.getD 5 tk0)) 78, box b6 [iv rx1, iv rx2, iv 0, iv 0, iv 0] 48, box b5 kvD17_3 3, box b4 kvD17_4 3, box b3 kvD17_1 9, box b1 kvD17_2 27] w_) [(0, true), (1, true), (2, true), (3, false), (4, false), (5, true)] S74 Tryd.mixed (by kernel_rfl) (planOK_of (T := [(0, some 85, 0), (0, some 86, 4096), (2, some 87, 77371252455336267181195264), (1, none, 38685626227668133590597648), (15, none, 154742504910672534362390560), (31, some 6, 0)]) (by kernel_rfl) (by kernel_rfl)) ?_
                        intro w73 S78
                        refine PB.mk (S78.erase 5) ?_
                        refine PL.take 0 85 (.agg kvD17_6) (fun _ _ => by kernel_rfl) ?_
                        refine PL.take 1 86 (.pointer (some ⟨b12, 2, none⟩)) (fun _ _ => by kernel_rfl) ?_
                        refine PL.takeOK 2 (fun w_ S_ => OK.ldBox S_ 0 87 39 2 (.agg #[iv ((L.getD 5 tk0).gPlace_Line), iv ((L.getD 5 tk0).gPlace_Column)]) (by kernel_rfl) rfl (by kernel_rfl)) rfl ?_
                        refine PL.stBox S78 6 27 0 (.agg kvD17_6) kvD17_2 [box b12 (tkE (L.getD 5 tk0)) 78, box b6 [iv rx1, iv rx2, iv 0, iv 0, iv 0] 48, box b5 kvD17_3 3, box b4 kvD17_4 3, box b3 kvD17_1 9, box b2 [iv 0, iv 0] 39, box b1 kvD17_2 27] (by kernel_rfl) rfl (by kernel_rfl) (by kernel_rfl) rfl ?_
                        intro w74 S79
                        refine PB.mk (S79.erase 5) ?_
                        refine PL.stBox S79 5 39 0 (.agg #[iv ((L.getD 5 tk0).gPlace_Line), iv ((L.getD 5 tk0).gPlace_Column)]) [iv ((L.getD 5 tk0).gPlace_Line), iv ((L.getD 5 tk0).gPlace_Column)] [box b12 (tkE (L.getD 5 tk0)) 78, box b6 [iv rx1, iv rx2, iv 0, iv 0, iv 0] 48, box b5 kvD17_3 3, box b4 kvD17_4 3, box b3 kvD17_1 9, box b2 [iv ((L.getD 5 tk0).gPlace_Line), iv ((L.getD 5 tk0).gPlace_Column)] 39, box b1 kvD17_2 27] (by kernel_rfl) rfl (by kernel_rfl) (by kernel_rfl) rfl ?_
                        intro w75 S80
                        refine PB.mk (S80.erase 5) ?_
                        refine PL.take 5 6 (iv 2) (fun _ _ => by kernel_rfl) ?_
                        refine PL.done ?_
                        refine J.run 0 (rRest K38_65) [(6, iv 2), (5, .pointer (some ⟨b2, 0, none⟩)), (4, .pointer (some ⟨b1, 0, none⟩))] w75 (by kernel_rfl) ?_
                        refine J.ret Tryd.f38 [.agg kvD17_6, .agg #[iv ((L.getD 5 tk0).gPlace_Line), iv ((L.getD 5 tk0).gPlace_Column)], iv 2] Tryd.func38 ⟨⟨⟨b1, 0, none⟩, by kernel_rfl, ldV_run (S80.nth 6 rfl) (by kernel_rfl)⟩, ⟨⟨b2, 0, none⟩, by kernel_rfl, ldV_run (S80.nth 5 rfl) (by kernel_rfl)⟩, by kernel_rfl, trivial⟩ ?_
                        refine hR _ _ ?_
                        have h0_ : ls7 L false bf = some (2, 5) := num_rng hll s6 (by omega) hg5 (.inr (by rw [← hv5]; omega))
                        have h_ : lineS L false bf = some (2, 5) := up7 h0_
                        obtain ⟨e1, ⟨e2, e3⟩, e4⟩ := rl_some h_
                        exact ⟨by rw [e1, e2, e3, e4]; rfl, S80.nil⟩
                       ·skip
                        refine J.head (.bool false) (congrArg Value.bool (decide_eq_false fk22)) ?_
                        have s7 : ls7 L false bf = none := num_pass hll s6 (by omega) hg5 hf5 (by rw [← hv5]; omega)
                        refine J.run 31 K38_66 [(112, iv rx3), (111, iv 2), (11, iv 5), (10, .pointer (some ⟨b6, 0, none⟩)), (9, .slice (some ⟨b5, 0, none⟩) 5 5), (8, .slice (some ⟨b4, 0, none⟩) 5 5), (7, .slice (some ⟨b3, 0, none⟩) 5 5), (5, .pointer (some ⟨b2, 0, none⟩)), (4, .pointer (some ⟨b1, 0, none⟩)), (0, .slice a n c), (1, iv bf)] w69 (by kernel_rfl) ?_
                        refine J.ok (OK.indexP 113 48 5 1 b6 0 2 2 (by kernel_rfl) (by kernel_rfl) (by omega) (by omega)) ?_
                        refine J.head (.pointer (some ⟨b6, 2, none⟩)) (by first | rfl | (rw [Nat.zero_add, Nat.mul_one])) ?_
                        refine J.stBox S74 1 3 2 (iv rx3) [iv rx1, iv rx2, iv rx3, iv 0, iv 0] [box b12 (tkE (L.getD 5 tk0)) 78, box b6 [iv rx1, iv rx2, iv rx3, iv 0, iv 0] 48, box b5 kvD17_3 3, box b4 kvD17_4 3, box b3 kvD17_1 9, box b2 [iv 0, iv 0] 39, box b1 kvD17_2 27] (by kernel_rfl) rfl (by kernel_rfl) (by kernel_rfl) rfl ?_
                        intro w76 S81
                        refine J.run 8 K38_67 [(11, iv 6), (10, .pointer (some ⟨b6, 0, none⟩)), (9, .slice (some ⟨b5, 0, none⟩) 5 5), (8, .slice (some ⟨b4, 0, none⟩) 5 5), (7, .slice (some ⟨b3, 0, none⟩) 5 5), (5, .pointer (some ⟨b2, 0, none⟩)), (4, .pointer (some ⟨b1, 0, none⟩)), (0, .slice a n c), (1, iv bf)] w76 (by kernel_rfl) ?_
                        have S82 : Sep w [box b6 [iv rx1, iv rx2, iv rx3, iv 0, iv 0] 48, box b5 kvD17_3 3, box b4 kvD17_4 3, box b3 kvD17_1 9, box b2 [iv 0, iv 0] 39, box b1 kvD17_2 27] w76 := S81.erase 0
                        clear S81
                        refine J.run 18 K38_68 [(26, .bool (decide (6 ≥ (n : Int)))), (11, iv 6), (10, .pointer (some ⟨b6, 0, none⟩)), (9, .slice (some ⟨b5, 0, none⟩) 5 5), (8, .slice (some ⟨b4, 0, none⟩) 5 5), (7, .slice (some ⟨b3, 0, none⟩) 5 5), (5, .pointer (some ⟨b2, 0, none⟩)), (4, .pointer (some ⟨b1, 0, none⟩)), (0, .slice a n c), (1, iv bf)] w76 (by kernel_rfl) ?_
                        by_cases fk23 : 6 ≥ (n : Int)
                        ·skip
                         refine J.head (.bool true) (congrArg Value.bool (decide_eq_true fk23)) ?_
                         refine J.run 2 K38_69 [(5, .pointer (some ⟨b2, 0, none⟩)), (4, .pointer (some ⟨b1, 0, none⟩)), (0, .slice a n c)] w76 (by kernel_rfl) ?_
                         obtain ⟨p16, hp16, hc16⟩ := hl.at tk0 ((n : Int) - 1).toNat (by omega)
                         refine J.drawPlan (fun w_ => Sep w [box b6 [iv rx1, iv rx2, iv rx3, iv 0, iv 0] 48, box b5 kvD17_3 3, box b4 kvD17_4 3, box b3 kvD17_1 9, box b1 kvD17_2 27] w_) [(0, true), (1, true), (2, true), (3, true), (4, true), (5, true), (6, true), (7, true), (8, false), (9, false), (10, true)] S82 Tryd.mixed (by kernel_rfl) (planOK_of (T := [(0, some 27, 0), (0, some 28, 1), (0, some 29, 1), (4, some 30, 536870912), (8, some 31, 1073741824), (18, some 32, 2415919104), (32, some 33, 4294967296), (64, some 34, 8589934592), (1, none, 134217744), (511, none, 17179869216), (1023, some 6, 0)]) (by kernel_rfl) (by kernel_rfl)) ?_
                         intro w77 S83
                         refine PB.mk (S83.erase 4) ?_
                         refine PL.take 0 27 (.agg kvD17_6) (fun _ _ => by kernel_rfl) ?_
                         refine PL.take 1 28 (.slice a n c) (fun _ _ => by kernel_rfl) ?_
                         refine PL.take 2 29 (.slice a n c) (fun _ _ => by kernel_rfl) ?_
                         refine PL.take 3 30 (iv (n : Int)) (fun _ _ => by kernel_rfl) ?_
                         refine PL.take 4 31 (iv (IntKind.wrap .i64 ((n : Int) - 1))) (fun _ _ => by kernel_rfl) ?_
                         refine PL.head (iv ((n : Int) - 1)) (congrArg (Value.int .i64) (IntWalk.i64_in _ (by omega))) ?_
                         refine PL.takeOK 5 (fun w_ S_ => OK.index 32 71 4 a p16 n ((n : Int) - 1).toNat ((n : Int) - 1) (p16.add (((n : Int) - 1).toNat * 4)) (by kernel_rfl) (by kernel_rfl) hp16 (by omega) (by omega) rfl) rfl ?_
                         refine PL.take 6 33 (.pointer (some ((p16.add (((n : Int) - 1).toNat * 4)).add 2))) (fun _ _ => by kernel_rfl) ?_
                         refine PL.takeOK 7 (fun w_ S_ => OK.ldCells 34 39 ((p16.add (((n : Int) - 1).toNat * 4)).add 2) [iv ((L.getD ((n : Int) - 1).toNat tk0).gPlace_Line), iv ((L.getD ((n : Int) - 1).toNat tk0).gPlace_Column)] (by kernel_rfl) (by kernel_rfl) (by kernel_rfl) (fun j_ v_ hj_ => by rw [addr_add_add]; exact ((fun j_ v_ hj_ => S_.cell (hc16 j_ v_ hj_))) (2 + j_) v_ (by rcases j_ with _ | _ | j_ <;> first | exact hj_ | (cases hj_; done) | (simp at hj_; done)))) rfl ?_
                         refine PL.stBox S83 5 27 0 (.agg kvD17_6) kvD17_2 [box b6 [iv rx1, iv rx2, iv rx3, iv 0, iv 0] 48, box b5 kvD17_3 3, box b4 kvD17_4 3, box b3 kvD17_1 9, box b2 [iv 0, iv 0] 39, box b1 kvD17_2 27] (by kernel_rfl) rfl (by kernel_rfl) (by kernel_rfl) rfl ?_
                         intro w78 S84
                         refine PB.mk (S84.erase 4) ?_
                         refine PL.stBox S84 4 39 0 (.agg #[iv ((L.getD ((n : Int) - 1).toNat tk0).gPlace_Line), iv ((L.getD ((n : Int) - 1).toNat tk0).gPlace_Column)]) [iv ((L.getD ((n : Int) - 1).toNat tk0).gPlace_Line), iv ((L.getD ((n : Int) - 1).toNat tk0).gPlace_Column)] [box b6 [iv rx1, iv rx2, iv rx3, iv 0, iv 0] 48, box b5 kvD17_3 3, box b4 kvD17_4 3, box b3 kvD17_1 9, box b2 [iv ((L.getD ((n : Int) - 1).toNat tk0).gPlace_Line), iv ((L.getD ((n : Int) - 1).toNat tk0).gPlace_Column)] 39, box b1 kvD17_2 27] (by kernel_rfl) rfl (by kernel_rfl) (by kernel_rfl) rfl ?_
                         intro w79 S85
                         refine PB.mk (S85.erase 4) ?_
                         refine PL.take 10 6 (iv 4) (fun _ _ => by kernel_rfl) ?_
                         refine PL.done ?_
                         refine J.run 0 (rRest K38_69) [(6, iv 4), (5, .pointer (some ⟨b2, 0, none⟩)), (4, .pointer (some ⟨b1, 0, none⟩))] w79 (by kernel_rfl) ?_
                         refine J.ret Tryd.f38 [.agg kvD17_6, .agg #[iv ((L.getD ((n : Int) - 1).toNat tk0).gPlace_Line), iv ((L.getD ((n : Int) - 1).toNat tk0).gPlace_Column)], iv 4] Tryd.func38 ⟨⟨⟨b1, 0, none⟩, by kernel_rfl, ldV_run (S85.nth 5 rfl) (by kernel_rfl)⟩, ⟨⟨b2, 0, none⟩, by kernel_rfl, ldV_run (S85.nth 4 rfl) (by kernel_rfl)⟩, by kernel_rfl, trivial⟩ ?_
                         refine hR _ _ ?_
                         have h0_ : ls8 L false bf = some (4, (n : Int) - 1) := word_end hll s7 (by omega)
                         have h_ : lineS L false bf = some (4, (n : Int) - 1) := up8 h0_
                         obtain ⟨e1, ⟨e2, e3⟩, e4⟩ := rl_some h_
                         exact ⟨by rw [e1, e2, e3, e4]; rfl, S85.nil⟩
                        ·skip
                         refine J.head (.bool false) (congrArg Value.bool (decide_eq_false fk23)) ?_
                         refine J.run 6 K38_70 [(36, iv 6), (35, .slice a n c), (11, iv 6), (10, .pointer (some ⟨b6, 0, none⟩)), (9, .slice (some ⟨b5, 0, none⟩) 5 5), (8, .slice (some ⟨b4, 0, none⟩) 5 5), (7, .slice (some ⟨b3, 0, none⟩) 5 5), (5, .pointer (some ⟨b2, 0, none⟩)), (4, .pointer (some ⟨b1, 0, none⟩)), (0, .slice a n c), (1, iv bf)] w76 (by kernel_rfl) ?_
                         obtain ⟨p17, hp17, hc17⟩ := hl.at tk0 6 (by omega)
                         refine J.ok (OK.index 37 71 4 a p17 n 6 6 (p17.add (6 * 4)) (by kernel_rfl) (by kernel_rfl) hp17 (by omega) (by omega) rfl) ?_
                         refine J.ok (OK.ldCells 38 78 (p17.add (6 * 4)) (tkE (L.getD 6 tk0)) (by kernel_rfl) (by kernel_rfl) (by kernel_rfl) (fun j_ v_ hj_ => S82.cell (hc17 j_ v_ hj_))) ?_
                         refine J.new S82 12 kvD17_5 78 (by kernel_rfl) ?_
                         intro b13 w80 S86
                         refine J.stBox S86 0 78 0 (.agg #[iv ((L.getD 6 tk0).gKind), .string ((L.getD 6 tk0).gText), iv ((L.getD 6 tk0).gPlace_Line), iv ((L.getD 6 tk0).gPlace_Column)]) (tkE (L.getD 6 tk0)) [box b13 (tkE (L.getD 6 tk0)) 78, box b6 [iv rx1, iv rx2, iv rx3, iv 0, iv 0] 48, box b5 kvD17_3 3, box b4 kvD17_4 3, box b3 kvD17_1 9, box b2 [iv 0, iv 0] 39, box b1 kvD17_2 27] (by kernel_rfl) rfl (by kernel_rfl) (by kernel_rfl) rfl ?_
                         intro w81 S87
                         refine J.run 11 K38_71 [(12, .pointer (some ⟨b13, 0, none⟩)), (11, iv 6), (10, .pointer (some ⟨b6, 0, none⟩)), (9, .slice (some ⟨b5, 0, none⟩) 5 5), (8, .slice (some ⟨b4, 0, none⟩) 5 5), (7, .slice (some ⟨b3, 0, none⟩) 5 5), (5, .pointer (some ⟨b2, 0, none⟩)), (4, .pointer (some ⟨b1, 0, none⟩)), (0, .slice a n c), (1, iv bf)] w81 (by kernel_rfl) ?_
                         obtain ⟨p18, hp18, hc18⟩ := (show Ones Value.string w81 (some ⟨b3, 0, none⟩) 5 [⟨#[97, 116]⟩, ⟨#[112, 101, 100, 97, 108]⟩, ⟨#[98, 114, 97, 107, 101]⟩, ⟨#[103, 101, 97, 114]⟩, ⟨#[108, 111, 97, 100]⟩] from ⟨rfl, box_cells (S87.nth 4 rfl)⟩).at ByteArray.empty 3 (by omega)
                         refine J.drawStill S87 8 Tryd.mixed (by kernel_rfl) (by kernel_rfl) (by kernel_rfl) ?_
                         intro w82 S88
                         refine SL.ok (by decide) (OK.run 42 (.pointer (some ⟨b13, 1, none⟩)) (by kernel_rfl)) ?_
                         refine SL.ok (by decide) (OK.ldBox S88 0 43 9 1 (.string ((L.getD 6 tk0).gText)) (by kernel_rfl) rfl (by kernel_rfl)) ?_
                         refine SL.ok (by decide) (OK.run 44 (.slice (some ⟨b3, 0, none⟩) 5 5) (by kernel_rfl)) ?_
                         refine SL.ok (by decide) (OK.run 45 (iv 6) (by kernel_rfl)) ?_
                         refine SL.ok (by decide) (OK.run 46 (iv 3) (by kernel_rfl)) ?_
                         refine SL.ok (by decide) (OK.index 47 69 1 (some ⟨b3, 0, none⟩) ⟨b3, 0, none⟩ 5 3 3 ⟨b3, 3, none⟩ (by kernel_rfl) (by kernel_rfl) rfl (by omega) (by omega) (by rfl)) ?_
                         refine SL.ok (by decide) (OK.ldBox S88 4 48 9 3 (.string ⟨#[103, 101, 97, 114]⟩) (by kernel_rfl) rfl (by kernel_rfl)) ?_
                         refine SL.ok (by decide) (OK.run 49 (.bool (!(((L.getD 6 tk0).gText).toList == (⟨#[103, 101, 97, 114]⟩ : ByteArray).toList))) (by kernel_rfl)) ?_
                         refine SL.done ?_
                         refine TL.done (by kernel_rfl) ?_
                         refine J.run 0 (rRest K38_71) [(49, .bool (!(((L.getD 6 tk0).gText).toList == (⟨#[103, 101, 97, 114]⟩ : ByteArray).toList))), (12, .pointer (some ⟨b13, 0, none⟩)), (11, iv 6), (10, .pointer (some ⟨b6, 0, none⟩)), (9, .slice (some ⟨b5, 0, none⟩) 5 5), (8, .slice (some ⟨b4, 0, none⟩) 5 5), (7, .slice (some ⟨b3, 0, none⟩) 5 5), (5, .pointer (some ⟨b2, 0, none⟩)), (4, .pointer (some ⟨b1, 0, none⟩)), (0, .slice a n c), (1, iv bf)] w82 (by kernel_rfl) ?_
                         rcases Bool.eq_false_or_eq_true (!(((L.getD 6 tk0).gText).toList == (⟨#[103, 101, 97, 114]⟩ : ByteArray).toList)) with fk24 | fk24
                         ·skip
                          refine J.head (.bool true) (congrArg Value.bool fk24) ?_
                          have hw6 := fk24
                          refine J.run 2 K38_72 [(12, .pointer (some ⟨b13, 0, none⟩)), (5, .pointer (some ⟨b2, 0, none⟩)), (4, .pointer (some ⟨b1, 0, none⟩))] w82 (by kernel_rfl) ?_
                          refine J.drawPlan (fun w_ => Sep w [box b13 (tkE (L.getD 6 tk0)) 78, box b6 [iv rx1, iv rx2, iv rx3, iv 0, iv 0] 48, box b5 kvD17_3 3, box b4 kvD17_4 3, box b3 kvD17_1 9, box b1 kvD17_2 27] w_) [(0, true), (1, true), (2, true), (3, false), (4, false), (5, true)] S88 Tryd.mixed (by kernel_rfl) (planOK_of (T := [(0, some 50, 0), (0, some 51, 4096), (2, some 52, 2251799813685248), (1, none, 1125899906842640), (15, none, 4503599627370528), (31, some 6, 0)]) (by kernel_rfl) (by kernel_rfl)) ?_
                          intro w83 S89
                          refine PB.mk (S89.erase 5) ?_
                          refine PL.take 0 50 (.agg kvD17_6) (fun _ _ => by kernel_rfl) ?_
                          refine PL.take 1 51 (.pointer (some ⟨b13, 2, none⟩)) (fun _ _ => by kernel_rfl) ?_
                          refine PL.takeOK 2 (fun w_ S_ => OK.ldBox S_ 0 52 39 2 (.agg #[iv ((L.getD 6 tk0).gPlace_Line), iv ((L.getD 6 tk0).gPlace_Column)]) (by kernel_rfl) rfl (by kernel_rfl)) rfl ?_
                          refine PL.stBox S89 6 27 0 (.agg kvD17_6) kvD17_2 [box b13 (tkE (L.getD 6 tk0)) 78, box b6 [iv rx1, iv rx2, iv rx3, iv 0, iv 0] 48, box b5 kvD17_3 3, box b4 kvD17_4 3, box b3 kvD17_1 9, box b2 [iv 0, iv 0] 39, box b1 kvD17_2 27] (by kernel_rfl) rfl (by kernel_rfl) (by kernel_rfl) rfl ?_
                          intro w84 S90
                          refine PB.mk (S90.erase 5) ?_
                          refine PL.stBox S90 5 39 0 (.agg #[iv ((L.getD 6 tk0).gPlace_Line), iv ((L.getD 6 tk0).gPlace_Column)]) [iv ((L.getD 6 tk0).gPlace_Line), iv ((L.getD 6 tk0).gPlace_Column)] [box b13 (tkE (L.getD 6 tk0)) 78, box b6 [iv rx1, iv rx2, iv rx3, iv 0, iv 0] 48, box b5 kvD17_3 3, box b4 kvD17_4 3, box b3 kvD17_1 9, box b2 [iv ((L.getD 6 tk0).gPlace_Line), iv ((L.getD 6 tk0).gPlace_Column)] 39, box b1 kvD17_2 27] (by kernel_rfl) rfl (by kernel_rfl) (by kernel_rfl) rfl ?_
                          intro w85 S91
                          refine PB.mk (S91.erase 5) ?_
                          refine PL.take 5 6 (iv 3) (fun _ _ => by kernel_rfl) ?_
                          refine PL.done ?_
                          refine J.run 0 (rRest K38_72) [(6, iv 3), (5, .pointer (some ⟨b2, 0, none⟩)), (4, .pointer (some ⟨b1, 0, none⟩))] w85 (by kernel_rfl) ?_
                          refine J.ret Tryd.f38 [.agg kvD17_6, .agg #[iv ((L.getD 6 tk0).gPlace_Line), iv ((L.getD 6 tk0).gPlace_Column)], iv 3] Tryd.func38 ⟨⟨⟨b1, 0, none⟩, by kernel_rfl, ldV_run (S91.nth 6 rfl) (by kernel_rfl)⟩, ⟨⟨b2, 0, none⟩, by kernel_rfl, ldV_run (S91.nth 5 rfl) (by kernel_rfl)⟩, by kernel_rfl, trivial⟩ ?_
                          refine hR _ _ ?_
                          have h0_ : ls8 L false bf = some (3, 6) := word_hit hll s7 (by omega) hw6
                          have h_ : lineS L false bf = some (3, 6) := up8 h0_
                          obtain ⟨e1, ⟨e2, e3⟩, e4⟩ := rl_some h_
                          exact ⟨by rw [e1, e2, e3, e4]; rfl, S91.nil⟩
                         ·skip
                          refine J.head (.bool false) (congrArg Value.bool fk24) ?_
                          have hw6 := fk24
                          have s8 : ls8 L false bf = none := word_pass hll s7 (by omega) fk24
                          refine J.run 9 K38_73 [(11, iv 7), (10, .pointer (some ⟨b6, 0, none⟩)), (9, .slice (some ⟨b5, 0, none⟩) 5 5), (8, .slice (some ⟨b4, 0, none⟩) 5 5), (7, .slice (some ⟨b3, 0, none⟩) 5 5), (5, .pointer (some ⟨b2, 0, none⟩)), (4, .pointer (some ⟨b1, 0, none⟩)), (0, .slice a n c), (1, iv bf)] w82 (by kernel_rfl) ?_
                          have S92 : Sep w [box b6 [iv rx1, iv rx2, iv rx3, iv 0, iv 0] 48, box b5 kvD17_3 3, box b4 kvD17_4 3, box b3 kvD17_1 9, box b2 [iv 0, iv 0] 39, box b1 kvD17_2 27] w82 := S88.erase 0
                          clear S88
                          refine J.run 18 K38_74 [(26, .bool (decide (7 ≥ (n : Int)))), (11, iv 7), (10, .pointer (some ⟨b6, 0, none⟩)), (9, .slice (some ⟨b5, 0, none⟩) 5 5), (8, .slice (some ⟨b4, 0, none⟩) 5 5), (7, .slice (some ⟨b3, 0, none⟩) 5 5), (5, .pointer (some ⟨b2, 0, none⟩)), (4, .pointer (some ⟨b1, 0, none⟩)), (0, .slice a n c), (1, iv bf)] w82 (by kernel_rfl) ?_
                          by_cases fk25 : 7 ≥ (n : Int)
                          ·skip
                           refine J.head (.bool true) (congrArg Value.bool (decide_eq_true fk25)) ?_
                           refine J.run 2 K38_75 [(5, .pointer (some ⟨b2, 0, none⟩)), (4, .pointer (some ⟨b1, 0, none⟩)), (0, .slice a n c)] w82 (by kernel_rfl) ?_
                           obtain ⟨p19, hp19, hc19⟩ := hl.at tk0 ((n : Int) - 1).toNat (by omega)
                           refine J.drawPlan (fun w_ => Sep w [box b6 [iv rx1, iv rx2, iv rx3, iv 0, iv 0] 48, box b5 kvD17_3 3, box b4 kvD17_4 3, box b3 kvD17_1 9, box b1 kvD17_2 27] w_) [(0, true), (1, true), (2, true), (3, true), (4, true), (5, true), (6, true), (7, true), (8, false), (9, false), (10, true)] S92 Tryd.mixed (by kernel_rfl) (planOK_of (T := [(0, some 27, 0), (0, some 28, 1), (0, some 29, 1), (4, some 30, 536870912), (8, some 31, 1073741824), (18, some 32, 2415919104), (32, some 33, 4294967296), (64, some 34, 8589934592), (1, none, 134217744), (511, none, 17179869216), (1023, some 6, 0)]) (by kernel_rfl) (by kernel_rfl)) ?_
                           intro w86 S93
                           refine PB.mk (S93.erase 4) ?_
                           refine PL.take 0 27 (.agg kvD17_6) (fun _ _ => by kernel_rfl) ?_
                           refine PL.take 1 28 (.slice a n c) (fun _ _ => by kernel_rfl) ?_
                           refine PL.take 2 29 (.slice a n c) (fun _ _ => by kernel_rfl) ?_
                           refine PL.take 3 30 (iv (n : Int)) (fun _ _ => by kernel_rfl) ?_
                           refine PL.take 4 31 (iv (IntKind.wrap .i64 ((n : Int) - 1))) (fun _ _ => by kernel_rfl) ?_
                           refine PL.head (iv ((n : Int) - 1)) (congrArg (Value.int .i64) (IntWalk.i64_in _ (by omega))) ?_
                           refine PL.takeOK 5 (fun w_ S_ => OK.index 32 71 4 a p19 n ((n : Int) - 1).toNat ((n : Int) - 1) (p19.add (((n : Int) - 1).toNat * 4)) (by kernel_rfl) (by kernel_rfl) hp19 (by omega) (by omega) rfl) rfl ?_
                           refine PL.take 6 33 (.pointer (some ((p19.add (((n : Int) - 1).toNat * 4)).add 2))) (fun _ _ => by kernel_rfl) ?_
                           refine PL.takeOK 7 (fun w_ S_ => OK.ldCells 34 39 ((p19.add (((n : Int) - 1).toNat * 4)).add 2) [iv ((L.getD ((n : Int) - 1).toNat tk0).gPlace_Line), iv ((L.getD ((n : Int) - 1).toNat tk0).gPlace_Column)] (by kernel_rfl) (by kernel_rfl) (by kernel_rfl) (fun j_ v_ hj_ => by rw [addr_add_add]; exact ((fun j_ v_ hj_ => S_.cell (hc19 j_ v_ hj_))) (2 + j_) v_ (by rcases j_ with _ | _ | j_ <;> first | exact hj_ | (cases hj_; done) | (simp at hj_; done)))) rfl ?_
                           refine PL.stBox S93 5 27 0 (.agg kvD17_6) kvD17_2 [box b6 [iv rx1, iv rx2, iv rx3, iv 0, iv 0] 48, box b5 kvD17_3 3, box b4 kvD17_4 3, box b3 kvD17_1 9, box b2 [iv 0, iv 0] 39, box b1 kvD17_2 27] (by kernel_rfl) rfl (by kernel_rfl) (by kernel_rfl) rfl ?_
                           intro w87 S94
                           refine PB.mk (S94.erase 4) ?_
                           refine PL.stBox S94 4 39 0 (.agg #[iv ((L.getD ((n : Int) - 1).toNat tk0).gPlace_Line), iv ((L.getD ((n : Int) - 1).toNat tk0).gPlace_Column)]) [iv ((L.getD ((n : Int) - 1).toNat tk0).gPlace_Line), iv ((L.getD ((n : Int) - 1).toNat tk0).gPlace_Column)] [box b6 [iv rx1, iv rx2, iv rx3, iv 0, iv 0] 48, box b5 kvD17_3 3, box b4 kvD17_4 3, box b3 kvD17_1 9, box b2 [iv ((L.getD ((n : Int) - 1).toNat tk0).gPlace_Line), iv ((L.getD ((n : Int) - 1).toNat tk0).gPlace_Column)] 39, box b1 kvD17_2 27] (by kernel_rfl) rfl (by kernel_rfl) (by kernel_rfl) rfl ?_
                           intro w88 S95
                           refine PB.mk (S95.erase 4) ?_
                           refine PL.take 10 6 (iv 4) (fun _ _ => by kernel_rfl) ?_
                           refine PL.done ?_
                           refine J.run 0 (rRest K38_75) [(6, iv 4), (5, .pointer (some ⟨b2, 0, none⟩)), (4, .pointer (some ⟨b1, 0, none⟩))] w88 (by kernel_rfl) ?_
                           refine J.ret Tryd.f38 [.agg kvD17_6, .agg #[iv ((L.getD ((n : Int) - 1).toNat tk0).gPlace_Line), iv ((L.getD ((n : Int) - 1).toNat tk0).gPlace_Column)], iv 4] Tryd.func38 ⟨⟨⟨b1, 0, none⟩, by kernel_rfl, ldV_run (S95.nth 5 rfl) (by kernel_rfl)⟩, ⟨⟨b2, 0, none⟩, by kernel_rfl, ldV_run (S95.nth 4 rfl) (by kernel_rfl)⟩, by kernel_rfl, trivial⟩ ?_
                           refine hR _ _ ?_
                           have h0_ : ls9 L false bf = some (4, (n : Int) - 1) := num_end hll s8 (by omega)
                           have h_ : lineS L false bf = some (4, (n : Int) - 1) := up9 h0_
                           obtain ⟨e1, ⟨e2, e3⟩, e4⟩ := rl_some h_
                           exact ⟨by rw [e1, e2, e3, e4]; rfl, S95.nil⟩
                          ·skip
                           refine J.head (.bool false) (congrArg Value.bool (decide_eq_false fk25)) ?_
                           refine J.run 6 K38_76 [(36, iv 7), (35, .slice a n c), (11, iv 7), (10, .pointer (some ⟨b6, 0, none⟩)), (9, .slice (some ⟨b5, 0, none⟩) 5 5), (8, .slice (some ⟨b4, 0, none⟩) 5 5), (7, .slice (some ⟨b3, 0, none⟩) 5 5), (5, .pointer (some ⟨b2, 0, none⟩)), (4, .pointer (some ⟨b1, 0, none⟩)), (0, .slice a n c), (1, iv bf)] w82 (by kernel_rfl) ?_
                           obtain ⟨p20, hp20, hc20⟩ := hl.at tk0 7 (by omega)
                           refine J.ok (OK.index 37 71 4 a p20 n 7 7 (p20.add (7 * 4)) (by kernel_rfl) (by kernel_rfl) hp20 (by omega) (by omega) rfl) ?_
                           refine J.ok (OK.ldCells 38 78 (p20.add (7 * 4)) (tkE (L.getD 7 tk0)) (by kernel_rfl) (by kernel_rfl) (by kernel_rfl) (fun j_ v_ hj_ => S92.cell (hc20 j_ v_ hj_))) ?_
                           refine J.new S92 12 kvD17_5 78 (by kernel_rfl) ?_
                           intro b14 w89 S96
                           refine J.stBox S96 0 78 0 (.agg #[iv ((L.getD 7 tk0).gKind), .string ((L.getD 7 tk0).gText), iv ((L.getD 7 tk0).gPlace_Line), iv ((L.getD 7 tk0).gPlace_Column)]) (tkE (L.getD 7 tk0)) [box b14 (tkE (L.getD 7 tk0)) 78, box b6 [iv rx1, iv rx2, iv rx3, iv 0, iv 0] 48, box b5 kvD17_3 3, box b4 kvD17_4 3, box b3 kvD17_1 9, box b2 [iv 0, iv 0] 39, box b1 kvD17_2 27] (by kernel_rfl) rfl (by kernel_rfl) (by kernel_rfl) rfl ?_
                           intro w90 S97
                           refine J.run 13 K38_77 [(54, .pointer (some ⟨b14, 1, none⟩)), (12, .pointer (some ⟨b14, 0, none⟩)), (11, iv 7), (10, .pointer (some ⟨b6, 0, none⟩)), (9, .slice (some ⟨b5, 0, none⟩) 5 5), (8, .slice (some ⟨b4, 0, none⟩) 5 5), (7, .slice (some ⟨b3, 0, none⟩) 5 5), (5, .pointer (some ⟨b2, 0, none⟩)), (4, .pointer (some ⟨b1, 0, none⟩)), (0, .slice a n c), (1, iv bf)] w90 (by kernel_rfl) ?_
                           refine J.ok (OK.ldBox S97 0 55 9 1 (.string ((L.getD 7 tk0).gText)) (by kernel_rfl) rfl (by kernel_rfl)) ?_
                           refine J.callF 56 52 #[.string ((L.getD 7 tk0).gText)] hb52 (by kernel_rfl) (read_any ((L.getD 7 tk0).gText) _ (by have := hts 0; first | omega | exact Nat.le_trans (hts _) (by decide))) ?_
                           rintro _ w91 ⟨rx4, rfl, hrx4, hbrx4, T4⟩
                           have S98 : Sep w [box b14 (tkE (L.getD 7 tk0)) 78, box b6 [iv rx1, iv rx2, iv rx3, iv 0, iv 0] 48, box b5 kvD17_3 3, box b4 kvD17_4 3, box b3 kvD17_1 9, box b2 [iv 0, iv 0] 39, box b1 kvD17_2 27] w91 := S97.trans T4
                           clear T4 S97
                           refine J.run 14 K38_78 [(61, .bool (!(formL (ls ((L.getD 7 tk0).gText))))), (15, .bool (formL (ls ((L.getD 7 tk0).gText)) && decide ((digL (ls ((L.getD 7 tk0).gText))).length ≤ 13))), (13, iv rx4), (12, .pointer (some ⟨b14, 0, none⟩)), (11, iv 7), (10, .pointer (some ⟨b6, 0, none⟩)), (9, .slice (some ⟨b5, 0, none⟩) 5 5), (8, .slice (some ⟨b4, 0, none⟩) 5 5), (7, .slice (some ⟨b3, 0, none⟩) 5 5), (5, .pointer (some ⟨b2, 0, none⟩)), (4, .pointer (some ⟨b1, 0, none⟩)), (0, .slice a n c), (1, iv bf)] w91 (by kernel_rfl) ?_
                           rcases Bool.eq_false_or_eq_true (formL (ls ((L.getD 7 tk0).gText))) with fk26 | fk26
                           ·skip
                            refine J.head (.bool false) (congrArg Value.bool (by rw [fk26]; rfl)) ?_
                            have hg7 := fk26
                            refine J.run 8 K38_79 [(67, .bool (!(formL (ls ((L.getD 7 tk0).gText)) && decide ((digL (ls ((L.getD 7 tk0).gText))).length ≤ 13)))), (13, iv rx4), (12, .pointer (some ⟨b14, 0, none⟩)), (11, iv 7), (10, .pointer (some ⟨b6, 0, none⟩)), (9, .slice (some ⟨b5, 0, none⟩) 5 5), (8, .slice (some ⟨b4, 0, none⟩) 5 5), (7, .slice (some ⟨b3, 0, none⟩) 5 5), (5, .pointer (some ⟨b2, 0, none⟩)), (4, .pointer (some ⟨b1, 0, none⟩)), (0, .slice a n c), (1, iv bf)] w91 (by kernel_rfl) ?_
                            rcases Bool.eq_false_or_eq_true (formL (ls ((L.getD 7 tk0).gText)) && decide ((digL (ls ((L.getD 7 tk0).gText))).length ≤ 13)) with fk27 | fk27
                            ·skip
                             refine J.head (.bool false) (congrArg Value.bool (by rw [fk27]; rfl)) ?_
                             have hf7 := fk27
                             have hv7 : rx4 = nm L 7 := hrx4 fk27
                             refine J.run 4 K38_80 [(71, iv 3), (69, .slice (some ⟨b4, 0, none⟩) 5 5), (68, iv rx4), (67, .bool false), (13, iv rx4), (12, .pointer (some ⟨b14, 0, none⟩)), (11, iv 7), (10, .pointer (some ⟨b6, 0, none⟩)), (9, .slice (some ⟨b5, 0, none⟩) 5 5), (8, .slice (some ⟨b4, 0, none⟩) 5 5), (7, .slice (some ⟨b3, 0, none⟩) 5 5), (5, .pointer (some ⟨b2, 0, none⟩)), (4, .pointer (some ⟨b1, 0, none⟩)), (0, .slice a n c), (1, iv bf)] w91 (by kernel_rfl) ?_
                             refine J.ok (OK.index 72 95 1 (some ⟨b4, 0, none⟩) ⟨b4, 0, none⟩ 5 3 3 ⟨b4, 3, none⟩ (by kernel_rfl) (by kernel_rfl) rfl (by omega) (by omega) (by rfl)) ?_
                             refine J.ok (OK.ldBox S98 3 73 3 3 (iv 0) (by kernel_rfl) rfl (by kernel_rfl)) ?_
                             refine J.run 3 K38_81 [(76, .bool (decide (rx4 < 0))), (13, iv rx4), (12, .pointer (some ⟨b14, 0, none⟩)), (11, iv 7), (10, .pointer (some ⟨b6, 0, none⟩)), (9, .slice (some ⟨b5, 0, none⟩) 5 5), (8, .slice (some ⟨b4, 0, none⟩) 5 5), (7, .slice (some ⟨b3, 0, none⟩) 5 5), (5, .pointer (some ⟨b2, 0, none⟩)), (4, .pointer (some ⟨b1, 0, none⟩)), (0, .slice a n c), (1, iv bf)] w91 (by kernel_rfl) ?_
                             by_cases fk28 : rx4 < 0
                             ·skip
                              refine J.head (.bool true) (congrArg Value.bool (decide_eq_true fk28)) ?_
                              refine J.run 11 K38_82 [(12, .pointer (some ⟨b14, 0, none⟩)), (5, .pointer (some ⟨b2, 0, none⟩)), (4, .pointer (some ⟨b1, 0, none⟩))] w91 (by kernel_rfl) ?_
                              refine J.drawPlan (fun w_ => Sep w [box b14 (tkE (L.getD 7 tk0)) 78, box b6 [iv rx1, iv rx2, iv rx3, iv 0, iv 0] 48, box b5 kvD17_3 3, box b4 kvD17_4 3, box b3 kvD17_1 9, box b1 kvD17_2 27] w_) [(0, true), (1, true), (2, true), (3, false), (4, false), (5, true)] S98 Tryd.mixed (by kernel_rfl) (planOK_of (T := [(0, some 85, 0), (0, some 86, 4096), (2, some 87, 77371252455336267181195264), (1, none, 38685626227668133590597648), (15, none, 154742504910672534362390560), (31, some 6, 0)]) (by kernel_rfl) (by kernel_rfl)) ?_
                              intro w92 S99
                              refine PB.mk (S99.erase 5) ?_
                              refine PL.take 0 85 (.agg kvD17_6) (fun _ _ => by kernel_rfl) ?_
                              refine PL.take 1 86 (.pointer (some ⟨b14, 2, none⟩)) (fun _ _ => by kernel_rfl) ?_
                              refine PL.takeOK 2 (fun w_ S_ => OK.ldBox S_ 0 87 39 2 (.agg #[iv ((L.getD 7 tk0).gPlace_Line), iv ((L.getD 7 tk0).gPlace_Column)]) (by kernel_rfl) rfl (by kernel_rfl)) rfl ?_
                              refine PL.stBox S99 6 27 0 (.agg kvD17_6) kvD17_2 [box b14 (tkE (L.getD 7 tk0)) 78, box b6 [iv rx1, iv rx2, iv rx3, iv 0, iv 0] 48, box b5 kvD17_3 3, box b4 kvD17_4 3, box b3 kvD17_1 9, box b2 [iv 0, iv 0] 39, box b1 kvD17_2 27] (by kernel_rfl) rfl (by kernel_rfl) (by kernel_rfl) rfl ?_
                              intro w93 S100
                              refine PB.mk (S100.erase 5) ?_
                              refine PL.stBox S100 5 39 0 (.agg #[iv ((L.getD 7 tk0).gPlace_Line), iv ((L.getD 7 tk0).gPlace_Column)]) [iv ((L.getD 7 tk0).gPlace_Line), iv ((L.getD 7 tk0).gPlace_Column)] [box b14 (tkE (L.getD 7 tk0)) 78, box b6 [iv rx1, iv rx2, iv rx3, iv 0, iv 0] 48, box b5 kvD17_3 3, box b4 kvD17_4 3, box b3 kvD17_1 9, box b2 [iv ((L.getD 7 tk0).gPlace_Line), iv ((L.getD 7 tk0).gPlace_Column)] 39, box b1 kvD17_2 27] (by kernel_rfl) rfl (by kernel_rfl) (by kernel_rfl) rfl ?_
                              intro w94 S101
                              refine PB.mk (S101.erase 5) ?_
                              refine PL.take 5 6 (iv 2) (fun _ _ => by kernel_rfl) ?_
                              refine PL.done ?_
                              refine J.run 0 (rRest K38_82) [(6, iv 2), (5, .pointer (some ⟨b2, 0, none⟩)), (4, .pointer (some ⟨b1, 0, none⟩))] w94 (by kernel_rfl) ?_
                              refine J.ret Tryd.f38 [.agg kvD17_6, .agg #[iv ((L.getD 7 tk0).gPlace_Line), iv ((L.getD 7 tk0).gPlace_Column)], iv 2] Tryd.func38 ⟨⟨⟨b1, 0, none⟩, by kernel_rfl, ldV_run (S101.nth 6 rfl) (by kernel_rfl)⟩, ⟨⟨b2, 0, none⟩, by kernel_rfl, ldV_run (S101.nth 5 rfl) (by kernel_rfl)⟩, by kernel_rfl, trivial⟩ ?_
                              refine hR _ _ ?_
                              have h0_ : ls9 L false bf = some (2, 7) := num_rng hll s8 (by omega) hg7 (.inr (by rw [← hv7]; omega))
                              have h_ : lineS L false bf = some (2, 7) := up9 h0_
                              obtain ⟨e1, ⟨e2, e3⟩, e4⟩ := rl_some h_
                              exact ⟨by rw [e1, e2, e3, e4]; rfl, S101.nil⟩
                             ·skip
                              refine J.head (.bool false) (congrArg Value.bool (decide_eq_false fk28)) ?_
                              refine J.run 4 K38_83 [(80, iv 3), (78, .slice (some ⟨b5, 0, none⟩) 5 5), (77, iv rx4), (76, .bool false), (13, iv rx4), (12, .pointer (some ⟨b14, 0, none⟩)), (11, iv 7), (10, .pointer (some ⟨b6, 0, none⟩)), (9, .slice (some ⟨b5, 0, none⟩) 5 5), (8, .slice (some ⟨b4, 0, none⟩) 5 5), (7, .slice (some ⟨b3, 0, none⟩) 5 5), (5, .pointer (some ⟨b2, 0, none⟩)), (4, .pointer (some ⟨b1, 0, none⟩)), (0, .slice a n c), (1, iv bf)] w91 (by kernel_rfl) ?_
                              refine J.ok (OK.index 81 95 1 (some ⟨b5, 0, none⟩) ⟨b5, 0, none⟩ 5 3 3 ⟨b5, 3, none⟩ (by kernel_rfl) (by kernel_rfl) rfl (by omega) (by omega) (by rfl)) ?_
                              refine J.ok (OK.ldBox S98 2 82 3 3 (iv 6) (by kernel_rfl) rfl (by kernel_rfl)) ?_
                              refine J.run 3 K38_84 [(84, .bool (decide (rx4 > 6))), (13, iv rx4), (12, .pointer (some ⟨b14, 0, none⟩)), (11, iv 7), (10, .pointer (some ⟨b6, 0, none⟩)), (9, .slice (some ⟨b5, 0, none⟩) 5 5), (8, .slice (some ⟨b4, 0, none⟩) 5 5), (7, .slice (some ⟨b3, 0, none⟩) 5 5), (5, .pointer (some ⟨b2, 0, none⟩)), (4, .pointer (some ⟨b1, 0, none⟩)), (0, .slice a n c), (1, iv bf)] w91 (by kernel_rfl) ?_
                              by_cases fk29 : rx4 > 6
                              ·skip
                               refine J.head (.bool true) (congrArg Value.bool (decide_eq_true fk29)) ?_
                               refine J.run 2 K38_85 [(12, .pointer (some ⟨b14, 0, none⟩)), (5, .pointer (some ⟨b2, 0, none⟩)), (4, .pointer (some ⟨b1, 0, none⟩))] w91 (by kernel_rfl) ?_
                               refine J.drawPlan (fun w_ => Sep w [box b14 (tkE (L.getD 7 tk0)) 78, box b6 [iv rx1, iv rx2, iv rx3, iv 0, iv 0] 48, box b5 kvD17_3 3, box b4 kvD17_4 3, box b3 kvD17_1 9, box b1 kvD17_2 27] w_) [(0, true), (1, true), (2, true), (3, false), (4, false), (5, true)] S98 Tryd.mixed (by kernel_rfl) (planOK_of (T := [(0, some 85, 0), (0, some 86, 4096), (2, some 87, 77371252455336267181195264), (1, none, 38685626227668133590597648), (15, none, 154742504910672534362390560), (31, some 6, 0)]) (by kernel_rfl) (by kernel_rfl)) ?_
                               intro w95 S102
                               refine PB.mk (S102.erase 5) ?_
                               refine PL.take 0 85 (.agg kvD17_6) (fun _ _ => by kernel_rfl) ?_
                               refine PL.take 1 86 (.pointer (some ⟨b14, 2, none⟩)) (fun _ _ => by kernel_rfl) ?_
                               refine PL.takeOK 2 (fun w_ S_ => OK.ldBox S_ 0 87 39 2 (.agg #[iv ((L.getD 7 tk0).gPlace_Line), iv ((L.getD 7 tk0).gPlace_Column)]) (by kernel_rfl) rfl (by kernel_rfl)) rfl ?_
                               refine PL.stBox S102 6 27 0 (.agg kvD17_6) kvD17_2 [box b14 (tkE (L.getD 7 tk0)) 78, box b6 [iv rx1, iv rx2, iv rx3, iv 0, iv 0] 48, box b5 kvD17_3 3, box b4 kvD17_4 3, box b3 kvD17_1 9, box b2 [iv 0, iv 0] 39, box b1 kvD17_2 27] (by kernel_rfl) rfl (by kernel_rfl) (by kernel_rfl) rfl ?_
                               intro w96 S103
                               refine PB.mk (S103.erase 5) ?_
                               refine PL.stBox S103 5 39 0 (.agg #[iv ((L.getD 7 tk0).gPlace_Line), iv ((L.getD 7 tk0).gPlace_Column)]) [iv ((L.getD 7 tk0).gPlace_Line), iv ((L.getD 7 tk0).gPlace_Column)] [box b14 (tkE (L.getD 7 tk0)) 78, box b6 [iv rx1, iv rx2, iv rx3, iv 0, iv 0] 48, box b5 kvD17_3 3, box b4 kvD17_4 3, box b3 kvD17_1 9, box b2 [iv ((L.getD 7 tk0).gPlace_Line), iv ((L.getD 7 tk0).gPlace_Column)] 39, box b1 kvD17_2 27] (by kernel_rfl) rfl (by kernel_rfl) (by kernel_rfl) rfl ?_
                               intro w97 S104
                               refine PB.mk (S104.erase 5) ?_
                               refine PL.take 5 6 (iv 2) (fun _ _ => by kernel_rfl) ?_
                               refine PL.done ?_
                               refine J.run 0 (rRest K38_85) [(6, iv 2), (5, .pointer (some ⟨b2, 0, none⟩)), (4, .pointer (some ⟨b1, 0, none⟩))] w97 (by kernel_rfl) ?_
                               refine J.ret Tryd.f38 [.agg kvD17_6, .agg #[iv ((L.getD 7 tk0).gPlace_Line), iv ((L.getD 7 tk0).gPlace_Column)], iv 2] Tryd.func38 ⟨⟨⟨b1, 0, none⟩, by kernel_rfl, ldV_run (S104.nth 6 rfl) (by kernel_rfl)⟩, ⟨⟨b2, 0, none⟩, by kernel_rfl, ldV_run (S104.nth 5 rfl) (by kernel_rfl)⟩, by kernel_rfl, trivial⟩ ?_
                               refine hR _ _ ?_
                               have h0_ : ls9 L false bf = some (2, 7) := num_rng hll s8 (by omega) hg7 (.inr (by rw [← hv7]; omega))
                               have h_ : lineS L false bf = some (2, 7) := up9 h0_
                               obtain ⟨e1, ⟨e2, e3⟩, e4⟩ := rl_some h_
                               exact ⟨by rw [e1, e2, e3, e4]; rfl, S104.nil⟩
                              ·skip
                               refine J.head (.bool false) (congrArg Value.bool (decide_eq_false fk29)) ?_
                               have s9 : ls9 L false bf = none := num_pass hll s8 (by omega) hg7 hf7 (by rw [← hv7]; omega)
                               refine J.run 31 K38_86 [(112, iv rx4), (111, iv 3), (11, iv 7), (10, .pointer (some ⟨b6, 0, none⟩)), (9, .slice (some ⟨b5, 0, none⟩) 5 5), (8, .slice (some ⟨b4, 0, none⟩) 5 5), (7, .slice (some ⟨b3, 0, none⟩) 5 5), (5, .pointer (some ⟨b2, 0, none⟩)), (4, .pointer (some ⟨b1, 0, none⟩)), (0, .slice a n c), (1, iv bf)] w91 (by kernel_rfl) ?_
                               refine J.ok (OK.indexP 113 48 5 1 b6 0 3 3 (by kernel_rfl) (by kernel_rfl) (by omega) (by omega)) ?_
                               refine J.head (.pointer (some ⟨b6, 3, none⟩)) (by first | rfl | (rw [Nat.zero_add, Nat.mul_one])) ?_
                               refine J.stBox S98 1 3 3 (iv rx4) [iv rx1, iv rx2, iv rx3, iv rx4, iv 0] [box b14 (tkE (L.getD 7 tk0)) 78, box b6 [iv rx1, iv rx2, iv rx3, iv rx4, iv 0] 48, box b5 kvD17_3 3, box b4 kvD17_4 3, box b3 kvD17_1 9, box b2 [iv 0, iv 0] 39, box b1 kvD17_2 27] (by kernel_rfl) rfl (by kernel_rfl) (by kernel_rfl) rfl ?_
                               intro w98 S105
                               refine J.run 8 K38_87 [(11, iv 8), (10, .pointer (some ⟨b6, 0, none⟩)), (9, .slice (some ⟨b5, 0, none⟩) 5 5), (8, .slice (some ⟨b4, 0, none⟩) 5 5), (7, .slice (some ⟨b3, 0, none⟩) 5 5), (5, .pointer (some ⟨b2, 0, none⟩)), (4, .pointer (some ⟨b1, 0, none⟩)), (0, .slice a n c), (1, iv bf)] w98 (by kernel_rfl) ?_
                               have S106 : Sep w [box b6 [iv rx1, iv rx2, iv rx3, iv rx4, iv 0] 48, box b5 kvD17_3 3, box b4 kvD17_4 3, box b3 kvD17_1 9, box b2 [iv 0, iv 0] 39, box b1 kvD17_2 27] w98 := S105.erase 0
                               clear S105
                               refine J.run 18 K38_88 [(26, .bool (decide (8 ≥ (n : Int)))), (11, iv 8), (10, .pointer (some ⟨b6, 0, none⟩)), (9, .slice (some ⟨b5, 0, none⟩) 5 5), (8, .slice (some ⟨b4, 0, none⟩) 5 5), (7, .slice (some ⟨b3, 0, none⟩) 5 5), (5, .pointer (some ⟨b2, 0, none⟩)), (4, .pointer (some ⟨b1, 0, none⟩)), (0, .slice a n c), (1, iv bf)] w98 (by kernel_rfl) ?_
                               by_cases fk30 : 8 ≥ (n : Int)
                               ·skip
                                refine J.head (.bool true) (congrArg Value.bool (decide_eq_true fk30)) ?_
                                refine J.run 2 K38_89 [(5, .pointer (some ⟨b2, 0, none⟩)), (4, .pointer (some ⟨b1, 0, none⟩)), (0, .slice a n c)] w98 (by kernel_rfl) ?_
                                obtain ⟨p21, hp21, hc21⟩ := hl.at tk0 ((n : Int) - 1).toNat (by omega)
                                refine J.drawPlan (fun w_ => Sep w [box b6 [iv rx1, iv rx2, iv rx3, iv rx4, iv 0] 48, box b5 kvD17_3 3, box b4 kvD17_4 3, box b3 kvD17_1 9, box b1 kvD17_2 27] w_) [(0, true), (1, true), (2, true), (3, true), (4, true), (5, true), (6, true), (7, true), (8, false), (9, false), (10, true)] S106 Tryd.mixed (by kernel_rfl) (planOK_of (T := [(0, some 27, 0), (0, some 28, 1), (0, some 29, 1), (4, some 30, 536870912), (8, some 31, 1073741824), (18, some 32, 2415919104), (32, some 33, 4294967296), (64, some 34, 8589934592), (1, none, 134217744), (511, none, 17179869216), (1023, some 6, 0)]) (by kernel_rfl) (by kernel_rfl)) ?_
                                intro w99 S107
                                refine PB.mk (S107.erase 4) ?_
                                refine PL.take 0 27 (.agg kvD17_6) (fun _ _ => by kernel_rfl) ?_
                                refine PL.take 1 28 (.slice a n c) (fun _ _ => by kernel_rfl) ?_
                                refine PL.take 2 29 (.slice a n c) (fun _ _ => by kernel_rfl) ?_
                                refine PL.take 3 30 (iv (n : Int)) (fun _ _ => by kernel_rfl) ?_
                                refine PL.take 4 31 (iv (IntKind.wrap .i64 ((n : Int) - 1))) (fun _ _ => by kernel_rfl) ?_
                                refine PL.head (iv ((n : Int) - 1)) (congrArg (Value.int .i64) (IntWalk.i64_in _ (by omega))) ?_
                                refine PL.takeOK 5 (fun w_ S_ => OK.index 32 71 4 a p21 n ((n : Int) - 1).toNat ((n : Int) - 1) (p21.add (((n : Int) - 1).toNat * 4)) (by kernel_rfl) (by kernel_rfl) hp21 (by omega) (by omega) rfl) rfl ?_
                                refine PL.take 6 33 (.pointer (some ((p21.add (((n : Int) - 1).toNat * 4)).add 2))) (fun _ _ => by kernel_rfl) ?_
                                refine PL.takeOK 7 (fun w_ S_ => OK.ldCells 34 39 ((p21.add (((n : Int) - 1).toNat * 4)).add 2) [iv ((L.getD ((n : Int) - 1).toNat tk0).gPlace_Line), iv ((L.getD ((n : Int) - 1).toNat tk0).gPlace_Column)] (by kernel_rfl) (by kernel_rfl) (by kernel_rfl) (fun j_ v_ hj_ => by rw [addr_add_add]; exact ((fun j_ v_ hj_ => S_.cell (hc21 j_ v_ hj_))) (2 + j_) v_ (by rcases j_ with _ | _ | j_ <;> first | exact hj_ | (cases hj_; done) | (simp at hj_; done)))) rfl ?_
                                refine PL.stBox S107 5 27 0 (.agg kvD17_6) kvD17_2 [box b6 [iv rx1, iv rx2, iv rx3, iv rx4, iv 0] 48, box b5 kvD17_3 3, box b4 kvD17_4 3, box b3 kvD17_1 9, box b2 [iv 0, iv 0] 39, box b1 kvD17_2 27] (by kernel_rfl) rfl (by kernel_rfl) (by kernel_rfl) rfl ?_
                                intro w100 S108
                                refine PB.mk (S108.erase 4) ?_
                                refine PL.stBox S108 4 39 0 (.agg #[iv ((L.getD ((n : Int) - 1).toNat tk0).gPlace_Line), iv ((L.getD ((n : Int) - 1).toNat tk0).gPlace_Column)]) [iv ((L.getD ((n : Int) - 1).toNat tk0).gPlace_Line), iv ((L.getD ((n : Int) - 1).toNat tk0).gPlace_Column)] [box b6 [iv rx1, iv rx2, iv rx3, iv rx4, iv 0] 48, box b5 kvD17_3 3, box b4 kvD17_4 3, box b3 kvD17_1 9, box b2 [iv ((L.getD ((n : Int) - 1).toNat tk0).gPlace_Line), iv ((L.getD ((n : Int) - 1).toNat tk0).gPlace_Column)] 39, box b1 kvD17_2 27] (by kernel_rfl) rfl (by kernel_rfl) (by kernel_rfl) rfl ?_
                                intro w101 S109
                                refine PB.mk (S109.erase 4) ?_
                                refine PL.take 10 6 (iv 4) (fun _ _ => by kernel_rfl) ?_
                                refine PL.done ?_
                                refine J.run 0 (rRest K38_89) [(6, iv 4), (5, .pointer (some ⟨b2, 0, none⟩)), (4, .pointer (some ⟨b1, 0, none⟩))] w101 (by kernel_rfl) ?_
                                refine J.ret Tryd.f38 [.agg kvD17_6, .agg #[iv ((L.getD ((n : Int) - 1).toNat tk0).gPlace_Line), iv ((L.getD ((n : Int) - 1).toNat tk0).gPlace_Column)], iv 4] Tryd.func38 ⟨⟨⟨b1, 0, none⟩, by kernel_rfl, ldV_run (S109.nth 5 rfl) (by kernel_rfl)⟩, ⟨⟨b2, 0, none⟩, by kernel_rfl, ldV_run (S109.nth 4 rfl) (by kernel_rfl)⟩, by kernel_rfl, trivial⟩ ?_
                                refine hR _ _ ?_
                                have h0_ : ls10 L false bf = some (4, (n : Int) - 1) := word_end hll s9 (by omega)
                                have h_ : lineS L false bf = some (4, (n : Int) - 1) := up10 h0_
                                obtain ⟨e1, ⟨e2, e3⟩, e4⟩ := rl_some h_
                                exact ⟨by rw [e1, e2, e3, e4]; rfl, S109.nil⟩
                               ·skip
                                refine J.head (.bool false) (congrArg Value.bool (decide_eq_false fk30)) ?_
                                refine J.run 6 K38_90 [(36, iv 8), (35, .slice a n c), (11, iv 8), (10, .pointer (some ⟨b6, 0, none⟩)), (9, .slice (some ⟨b5, 0, none⟩) 5 5), (8, .slice (some ⟨b4, 0, none⟩) 5 5), (7, .slice (some ⟨b3, 0, none⟩) 5 5), (5, .pointer (some ⟨b2, 0, none⟩)), (4, .pointer (some ⟨b1, 0, none⟩)), (0, .slice a n c), (1, iv bf)] w98 (by kernel_rfl) ?_
                                obtain ⟨p22, hp22, hc22⟩ := hl.at tk0 8 (by omega)
                                refine J.ok (OK.index 37 71 4 a p22 n 8 8 (p22.add (8 * 4)) (by kernel_rfl) (by kernel_rfl) hp22 (by omega) (by omega) rfl) ?_
                                refine J.ok (OK.ldCells 38 78 (p22.add (8 * 4)) (tkE (L.getD 8 tk0)) (by kernel_rfl) (by kernel_rfl) (by kernel_rfl) (fun j_ v_ hj_ => S106.cell (hc22 j_ v_ hj_))) ?_
                                refine J.new S106 12 kvD17_5 78 (by kernel_rfl) ?_
                                intro b15 w102 S110
                                refine J.stBox S110 0 78 0 (.agg #[iv ((L.getD 8 tk0).gKind), .string ((L.getD 8 tk0).gText), iv ((L.getD 8 tk0).gPlace_Line), iv ((L.getD 8 tk0).gPlace_Column)]) (tkE (L.getD 8 tk0)) [box b15 (tkE (L.getD 8 tk0)) 78, box b6 [iv rx1, iv rx2, iv rx3, iv rx4, iv 0] 48, box b5 kvD17_3 3, box b4 kvD17_4 3, box b3 kvD17_1 9, box b2 [iv 0, iv 0] 39, box b1 kvD17_2 27] (by kernel_rfl) rfl (by kernel_rfl) (by kernel_rfl) rfl ?_
                                intro w103 S111
                                refine J.run 11 K38_91 [(12, .pointer (some ⟨b15, 0, none⟩)), (11, iv 8), (10, .pointer (some ⟨b6, 0, none⟩)), (9, .slice (some ⟨b5, 0, none⟩) 5 5), (8, .slice (some ⟨b4, 0, none⟩) 5 5), (7, .slice (some ⟨b3, 0, none⟩) 5 5), (5, .pointer (some ⟨b2, 0, none⟩)), (4, .pointer (some ⟨b1, 0, none⟩)), (0, .slice a n c), (1, iv bf)] w103 (by kernel_rfl) ?_
                                obtain ⟨p23, hp23, hc23⟩ := (show Ones Value.string w103 (some ⟨b3, 0, none⟩) 5 [⟨#[97, 116]⟩, ⟨#[112, 101, 100, 97, 108]⟩, ⟨#[98, 114, 97, 107, 101]⟩, ⟨#[103, 101, 97, 114]⟩, ⟨#[108, 111, 97, 100]⟩] from ⟨rfl, box_cells (S111.nth 4 rfl)⟩).at ByteArray.empty 4 (by omega)
                                refine J.drawStill S111 8 Tryd.mixed (by kernel_rfl) (by kernel_rfl) (by kernel_rfl) ?_
                                intro w104 S112
                                refine SL.ok (by decide) (OK.run 42 (.pointer (some ⟨b15, 1, none⟩)) (by kernel_rfl)) ?_
                                refine SL.ok (by decide) (OK.ldBox S112 0 43 9 1 (.string ((L.getD 8 tk0).gText)) (by kernel_rfl) rfl (by kernel_rfl)) ?_
                                refine SL.ok (by decide) (OK.run 44 (.slice (some ⟨b3, 0, none⟩) 5 5) (by kernel_rfl)) ?_
                                refine SL.ok (by decide) (OK.run 45 (iv 8) (by kernel_rfl)) ?_
                                refine SL.ok (by decide) (OK.run 46 (iv 4) (by kernel_rfl)) ?_
                                refine SL.ok (by decide) (OK.index 47 69 1 (some ⟨b3, 0, none⟩) ⟨b3, 0, none⟩ 5 4 4 ⟨b3, 4, none⟩ (by kernel_rfl) (by kernel_rfl) rfl (by omega) (by omega) (by rfl)) ?_
                                refine SL.ok (by decide) (OK.ldBox S112 4 48 9 4 (.string ⟨#[108, 111, 97, 100]⟩) (by kernel_rfl) rfl (by kernel_rfl)) ?_
                                refine SL.ok (by decide) (OK.run 49 (.bool (!(((L.getD 8 tk0).gText).toList == (⟨#[108, 111, 97, 100]⟩ : ByteArray).toList))) (by kernel_rfl)) ?_
                                refine SL.done ?_
                                refine TL.done (by kernel_rfl) ?_
                                refine J.run 0 (rRest K38_91) [(49, .bool (!(((L.getD 8 tk0).gText).toList == (⟨#[108, 111, 97, 100]⟩ : ByteArray).toList))), (12, .pointer (some ⟨b15, 0, none⟩)), (11, iv 8), (10, .pointer (some ⟨b6, 0, none⟩)), (9, .slice (some ⟨b5, 0, none⟩) 5 5), (8, .slice (some ⟨b4, 0, none⟩) 5 5), (7, .slice (some ⟨b3, 0, none⟩) 5 5), (5, .pointer (some ⟨b2, 0, none⟩)), (4, .pointer (some ⟨b1, 0, none⟩)), (0, .slice a n c), (1, iv bf)] w104 (by kernel_rfl) ?_
                                rcases Bool.eq_false_or_eq_true (!(((L.getD 8 tk0).gText).toList == (⟨#[108, 111, 97, 100]⟩ : ByteArray).toList)) with fk31 | fk31
                                ·skip
                                 refine J.head (.bool true) (congrArg Value.bool fk31) ?_
                                 have hw8 := fk31
                                 refine J.run 2 K38_92 [(12, .pointer (some ⟨b15, 0, none⟩)), (5, .pointer (some ⟨b2, 0, none⟩)), (4, .pointer (some ⟨b1, 0, none⟩))] w104 (by kernel_rfl) ?_
                                 refine J.drawPlan (fun w_ => Sep w [box b15 (tkE (L.getD 8 tk0)) 78, box b6 [iv rx1, iv rx2, iv rx3, iv rx4, iv 0] 48, box b5 kvD17_3 3, box b4 kvD17_4 3, box b3 kvD17_1 9, box b1 kvD17_2 27] w_) [(0, true), (1, true), (2, true), (3, false), (4, false), (5, true)] S112 Tryd.mixed (by kernel_rfl) (planOK_of (T := [(0, some 50, 0), (0, some 51, 4096), (2, some 52, 2251799813685248), (1, none, 1125899906842640), (15, none, 4503599627370528), (31, some 6, 0)]) (by kernel_rfl) (by kernel_rfl)) ?_
                                 intro w105 S113
                                 refine PB.mk (S113.erase 5) ?_
                                 refine PL.take 0 50 (.agg kvD17_6) (fun _ _ => by kernel_rfl) ?_
                                 refine PL.take 1 51 (.pointer (some ⟨b15, 2, none⟩)) (fun _ _ => by kernel_rfl) ?_
                                 refine PL.takeOK 2 (fun w_ S_ => OK.ldBox S_ 0 52 39 2 (.agg #[iv ((L.getD 8 tk0).gPlace_Line), iv ((L.getD 8 tk0).gPlace_Column)]) (by kernel_rfl) rfl (by kernel_rfl)) rfl ?_
                                 refine PL.stBox S113 6 27 0 (.agg kvD17_6) kvD17_2 [box b15 (tkE (L.getD 8 tk0)) 78, box b6 [iv rx1, iv rx2, iv rx3, iv rx4, iv 0] 48, box b5 kvD17_3 3, box b4 kvD17_4 3, box b3 kvD17_1 9, box b2 [iv 0, iv 0] 39, box b1 kvD17_2 27] (by kernel_rfl) rfl (by kernel_rfl) (by kernel_rfl) rfl ?_
                                 intro w106 S114
                                 refine PB.mk (S114.erase 5) ?_
                                 refine PL.stBox S114 5 39 0 (.agg #[iv ((L.getD 8 tk0).gPlace_Line), iv ((L.getD 8 tk0).gPlace_Column)]) [iv ((L.getD 8 tk0).gPlace_Line), iv ((L.getD 8 tk0).gPlace_Column)] [box b15 (tkE (L.getD 8 tk0)) 78, box b6 [iv rx1, iv rx2, iv rx3, iv rx4, iv 0] 48, box b5 kvD17_3 3, box b4 kvD17_4 3, box b3 kvD17_1 9, box b2 [iv ((L.getD 8 tk0).gPlace_Line), iv ((L.getD 8 tk0).gPlace_Column)] 39, box b1 kvD17_2 27] (by kernel_rfl) rfl (by kernel_rfl) (by kernel_rfl) rfl ?_
                                 intro w107 S115
                                 refine PB.mk (S115.erase 5) ?_
                                 refine PL.take 5 6 (iv 3) (fun _ _ => by kernel_rfl) ?_
                                 refine PL.done ?_
                                 refine J.run 0 (rRest K38_92) [(6, iv 3), (5, .pointer (some ⟨b2, 0, none⟩)), (4, .pointer (some ⟨b1, 0, none⟩))] w107 (by kernel_rfl) ?_
                                 refine J.ret Tryd.f38 [.agg kvD17_6, .agg #[iv ((L.getD 8 tk0).gPlace_Line), iv ((L.getD 8 tk0).gPlace_Column)], iv 3] Tryd.func38 ⟨⟨⟨b1, 0, none⟩, by kernel_rfl, ldV_run (S115.nth 6 rfl) (by kernel_rfl)⟩, ⟨⟨b2, 0, none⟩, by kernel_rfl, ldV_run (S115.nth 5 rfl) (by kernel_rfl)⟩, by kernel_rfl, trivial⟩ ?_
                                 refine hR _ _ ?_
                                 have h0_ : ls10 L false bf = some (3, 8) := word_hit hll s9 (by omega) hw8
                                 have h_ : lineS L false bf = some (3, 8) := up10 h0_
                                 obtain ⟨e1, ⟨e2, e3⟩, e4⟩ := rl_some h_
                                 exact ⟨by rw [e1, e2, e3, e4]; rfl, S115.nil⟩
                                ·skip
                                 refine J.head (.bool false) (congrArg Value.bool fk31) ?_
                                 have hw8 := fk31
                                 have s10 : ls10 L false bf = none := word_pass hll s9 (by omega) fk31
                                 refine J.run 9 K38_93 [(11, iv 9), (10, .pointer (some ⟨b6, 0, none⟩)), (9, .slice (some ⟨b5, 0, none⟩) 5 5), (8, .slice (some ⟨b4, 0, none⟩) 5 5), (7, .slice (some ⟨b3, 0, none⟩) 5 5), (5, .pointer (some ⟨b2, 0, none⟩)), (4, .pointer (some ⟨b1, 0, none⟩)), (0, .slice a n c), (1, iv bf)] w104 (by kernel_rfl) ?_
                                 have S116 : Sep w [box b6 [iv rx1, iv rx2, iv rx3, iv rx4, iv 0] 48, box b5 kvD17_3 3, box b4 kvD17_4 3, box b3 kvD17_1 9, box b2 [iv 0, iv 0] 39, box b1 kvD17_2 27] w104 := S112.erase 0
                                 clear S112
                                 refine J.run 18 K38_94 [(26, .bool (decide (9 ≥ (n : Int)))), (11, iv 9), (10, .pointer (some ⟨b6, 0, none⟩)), (9, .slice (some ⟨b5, 0, none⟩) 5 5), (8, .slice (some ⟨b4, 0, none⟩) 5 5), (7, .slice (some ⟨b3, 0, none⟩) 5 5), (5, .pointer (some ⟨b2, 0, none⟩)), (4, .pointer (some ⟨b1, 0, none⟩)), (0, .slice a n c), (1, iv bf)] w104 (by kernel_rfl) ?_
                                 by_cases fk32 : 9 ≥ (n : Int)
                                 ·skip
                                  refine J.head (.bool true) (congrArg Value.bool (decide_eq_true fk32)) ?_
                                  refine J.run 2 K38_95 [(5, .pointer (some ⟨b2, 0, none⟩)), (4, .pointer (some ⟨b1, 0, none⟩)), (0, .slice a n c)] w104 (by kernel_rfl) ?_
                                  obtain ⟨p24, hp24, hc24⟩ := hl.at tk0 ((n : Int) - 1).toNat (by omega)
                                  refine J.drawPlan (fun w_ => Sep w [box b6 [iv rx1, iv rx2, iv rx3, iv rx4, iv 0] 48, box b5 kvD17_3 3, box b4 kvD17_4 3, box b3 kvD17_1 9, box b1 kvD17_2 27] w_) [(0, true), (1, true), (2, true), (3, true), (4, true), (5, true), (6, true), (7, true), (8, false), (9, false), (10, true)] S116 Tryd.mixed (by kernel_rfl) (planOK_of (T := [(0, some 27, 0), (0, some 28, 1), (0, some 29, 1), (4, some 30, 536870912), (8, some 31, 1073741824), (18, some 32, 2415919104), (32, some 33, 4294967296), (64, some 34, 8589934592), (1, none, 134217744), (511, none, 17179869216), (1023, some 6, 0)]) (by kernel_rfl) (by kernel_rfl)) ?_
                                  intro w108 S117
                                  refine PB.mk (S117.erase 4) ?_
                                  refine PL.take 0 27 (.agg kvD17_6) (fun _ _ => by kernel_rfl) ?_
                                  refine PL.take 1 28 (.slice a n c) (fun _ _ => by kernel_rfl) ?_
                                  refine PL.take 2 29 (.slice a n c) (fun _ _ => by kernel_rfl) ?_
                                  refine PL.take 3 30 (iv (n : Int)) (fun _ _ => by kernel_rfl) ?_
                                  refine PL.take 4 31 (iv (IntKind.wrap .i64 ((n : Int) - 1))) (fun _ _ => by kernel_rfl) ?_
                                  refine PL.head (iv ((n : Int) - 1)) (congrArg (Value.int .i64) (IntWalk.i64_in _ (by omega))) ?_
                                  refine PL.takeOK 5 (fun w_ S_ => OK.index 32 71 4 a p24 n ((n : Int) - 1).toNat ((n : Int) - 1) (p24.add (((n : Int) - 1).toNat * 4)) (by kernel_rfl) (by kernel_rfl) hp24 (by omega) (by omega) rfl) rfl ?_
                                  refine PL.take 6 33 (.pointer (some ((p24.add (((n : Int) - 1).toNat * 4)).add 2))) (fun _ _ => by kernel_rfl) ?_
                                  refine PL.takeOK 7 (fun w_ S_ => OK.ldCells 34 39 ((p24.add (((n : Int) - 1).toNat * 4)).add 2) [iv ((L.getD ((n : Int) - 1).toNat tk0).gPlace_Line), iv ((L.getD ((n : Int) - 1).toNat tk0).gPlace_Column)] (by kernel_rfl) (by kernel_rfl) (by kernel_rfl) (fun j_ v_ hj_ => by rw [addr_add_add]; exact ((fun j_ v_ hj_ => S_.cell (hc24 j_ v_ hj_))) (2 + j_) v_ (by rcases j_ with _ | _ | j_ <;> first | exact hj_ | (cases hj_; done) | (simp at hj_; done)))) rfl ?_
                                  refine PL.stBox S117 5 27 0 (.agg kvD17_6) kvD17_2 [box b6 [iv rx1, iv rx2, iv rx3, iv rx4, iv 0] 48, box b5 kvD17_3 3, box b4 kvD17_4 3, box b3 kvD17_1 9, box b2 [iv 0, iv 0] 39, box b1 kvD17_2 27] (by kernel_rfl) rfl (by kernel_rfl) (by kernel_rfl) rfl ?_
                                  intro w109 S118
                                  refine PB.mk (S118.erase 4) ?_
                                  refine PL.stBox S118 4 39 0 (.agg #[iv ((L.getD ((n : Int) - 1).toNat tk0).gPlace_Line), iv ((L.getD ((n : Int) - 1).toNat tk0).gPlace_Column)]) [iv ((L.getD ((n : Int) - 1).toNat tk0).gPlace_Line), iv ((L.getD ((n : Int) - 1).toNat tk0).gPlace_Column)] [box b6 [iv rx1, iv rx2, iv rx3, iv rx4, iv 0] 48, box b5 kvD17_3 3, box b4 kvD17_4 3, box b3 kvD17_1 9, box b2 [iv ((L.getD ((n : Int) - 1).toNat tk0).gPlace_Line), iv ((L.getD ((n : Int) - 1).toNat tk0).gPlace_Column)] 39, box b1 kvD17_2 27] (by kernel_rfl) rfl (by kernel_rfl) (by kernel_rfl) rfl ?_
                                  intro w110 S119
                                  refine PB.mk (S119.erase 4) ?_
                                  refine PL.take 10 6 (iv 4) (fun _ _ => by kernel_rfl) ?_
                                  refine PL.done ?_
                                  refine J.run 0 (rRest K38_95) [(6, iv 4), (5, .pointer (some ⟨b2, 0, none⟩)), (4, .pointer (some ⟨b1, 0, none⟩))] w110 (by kernel_rfl) ?_
                                  refine J.ret Tryd.f38 [.agg kvD17_6, .agg #[iv ((L.getD ((n : Int) - 1).toNat tk0).gPlace_Line), iv ((L.getD ((n : Int) - 1).toNat tk0).gPlace_Column)], iv 4] Tryd.func38 ⟨⟨⟨b1, 0, none⟩, by kernel_rfl, ldV_run (S119.nth 5 rfl) (by kernel_rfl)⟩, ⟨⟨b2, 0, none⟩, by kernel_rfl, ldV_run (S119.nth 4 rfl) (by kernel_rfl)⟩, by kernel_rfl, trivial⟩ ?_
                                  refine hR _ _ ?_
                                  have h0_ : ls11 L false bf = some (4, (n : Int) - 1) := num_end hll s10 (by omega)
                                  have h_ : lineS L false bf = some (4, (n : Int) - 1) := up11 h0_
                                  obtain ⟨e1, ⟨e2, e3⟩, e4⟩ := rl_some h_
                                  exact ⟨by rw [e1, e2, e3, e4]; rfl, S119.nil⟩
                                 ·skip
                                  refine J.head (.bool false) (congrArg Value.bool (decide_eq_false fk32)) ?_
                                  refine J.run 6 K38_96 [(36, iv 9), (35, .slice a n c), (11, iv 9), (10, .pointer (some ⟨b6, 0, none⟩)), (9, .slice (some ⟨b5, 0, none⟩) 5 5), (8, .slice (some ⟨b4, 0, none⟩) 5 5), (7, .slice (some ⟨b3, 0, none⟩) 5 5), (5, .pointer (some ⟨b2, 0, none⟩)), (4, .pointer (some ⟨b1, 0, none⟩)), (0, .slice a n c), (1, iv bf)] w104 (by kernel_rfl) ?_
                                  obtain ⟨p25, hp25, hc25⟩ := hl.at tk0 9 (by omega)
                                  refine J.ok (OK.index 37 71 4 a p25 n 9 9 (p25.add (9 * 4)) (by kernel_rfl) (by kernel_rfl) hp25 (by omega) (by omega) rfl) ?_
                                  refine J.ok (OK.ldCells 38 78 (p25.add (9 * 4)) (tkE (L.getD 9 tk0)) (by kernel_rfl) (by kernel_rfl) (by kernel_rfl) (fun j_ v_ hj_ => S116.cell (hc25 j_ v_ hj_))) ?_
                                  refine J.new S116 12 kvD17_5 78 (by kernel_rfl) ?_
                                  intro b16 w111 S120
                                  refine J.stBox S120 0 78 0 (.agg #[iv ((L.getD 9 tk0).gKind), .string ((L.getD 9 tk0).gText), iv ((L.getD 9 tk0).gPlace_Line), iv ((L.getD 9 tk0).gPlace_Column)]) (tkE (L.getD 9 tk0)) [box b16 (tkE (L.getD 9 tk0)) 78, box b6 [iv rx1, iv rx2, iv rx3, iv rx4, iv 0] 48, box b5 kvD17_3 3, box b4 kvD17_4 3, box b3 kvD17_1 9, box b2 [iv 0, iv 0] 39, box b1 kvD17_2 27] (by kernel_rfl) rfl (by kernel_rfl) (by kernel_rfl) rfl ?_
                                  intro w112 S121
                                  refine J.run 13 K38_97 [(54, .pointer (some ⟨b16, 1, none⟩)), (12, .pointer (some ⟨b16, 0, none⟩)), (11, iv 9), (10, .pointer (some ⟨b6, 0, none⟩)), (9, .slice (some ⟨b5, 0, none⟩) 5 5), (8, .slice (some ⟨b4, 0, none⟩) 5 5), (7, .slice (some ⟨b3, 0, none⟩) 5 5), (5, .pointer (some ⟨b2, 0, none⟩)), (4, .pointer (some ⟨b1, 0, none⟩)), (0, .slice a n c), (1, iv bf)] w112 (by kernel_rfl) ?_
                                  refine J.ok (OK.ldBox S121 0 55 9 1 (.string ((L.getD 9 tk0).gText)) (by kernel_rfl) rfl (by kernel_rfl)) ?_
                                  refine J.callF 56 52 #[.string ((L.getD 9 tk0).gText)] hb52 (by kernel_rfl) (read_any ((L.getD 9 tk0).gText) _ (by have := hts 0; first | omega | exact Nat.le_trans (hts _) (by decide))) ?_
                                  rintro _ w113 ⟨rx5, rfl, hrx5, hbrx5, T5⟩
                                  have S122 : Sep w [box b16 (tkE (L.getD 9 tk0)) 78, box b6 [iv rx1, iv rx2, iv rx3, iv rx4, iv 0] 48, box b5 kvD17_3 3, box b4 kvD17_4 3, box b3 kvD17_1 9, box b2 [iv 0, iv 0] 39, box b1 kvD17_2 27] w113 := S121.trans T5
                                  clear T5 S121
                                  refine J.run 14 K38_98 [(61, .bool (!(formL (ls ((L.getD 9 tk0).gText))))), (15, .bool (formL (ls ((L.getD 9 tk0).gText)) && decide ((digL (ls ((L.getD 9 tk0).gText))).length ≤ 13))), (13, iv rx5), (12, .pointer (some ⟨b16, 0, none⟩)), (11, iv 9), (10, .pointer (some ⟨b6, 0, none⟩)), (9, .slice (some ⟨b5, 0, none⟩) 5 5), (8, .slice (some ⟨b4, 0, none⟩) 5 5), (7, .slice (some ⟨b3, 0, none⟩) 5 5), (5, .pointer (some ⟨b2, 0, none⟩)), (4, .pointer (some ⟨b1, 0, none⟩)), (0, .slice a n c), (1, iv bf)] w113 (by kernel_rfl) ?_
                                  rcases Bool.eq_false_or_eq_true (formL (ls ((L.getD 9 tk0).gText))) with fk33 | fk33
                                  ·skip
                                   refine J.head (.bool false) (congrArg Value.bool (by rw [fk33]; rfl)) ?_
                                   have hg9 := fk33
                                   refine J.run 8 K38_99 [(67, .bool (!(formL (ls ((L.getD 9 tk0).gText)) && decide ((digL (ls ((L.getD 9 tk0).gText))).length ≤ 13)))), (13, iv rx5), (12, .pointer (some ⟨b16, 0, none⟩)), (11, iv 9), (10, .pointer (some ⟨b6, 0, none⟩)), (9, .slice (some ⟨b5, 0, none⟩) 5 5), (8, .slice (some ⟨b4, 0, none⟩) 5 5), (7, .slice (some ⟨b3, 0, none⟩) 5 5), (5, .pointer (some ⟨b2, 0, none⟩)), (4, .pointer (some ⟨b1, 0, none⟩)), (0, .slice a n c), (1, iv bf)] w113 (by kernel_rfl) ?_
                                   rcases Bool.eq_false_or_eq_true (formL (ls ((L.getD 9 tk0).gText)) && decide ((digL (ls ((L.getD 9 tk0).gText))).length ≤ 13)) with fk34 | fk34
                                   ·skip
                                    refine J.head (.bool false) (congrArg Value.bool (by rw [fk34]; rfl)) ?_
                                    have hf9 := fk34
                                    have hv9 : rx5 = nm L 9 := hrx5 fk34
                                    refine J.run 4 K38_100 [(71, iv 4), (69, .slice (some ⟨b4, 0, none⟩) 5 5), (68, iv rx5), (67, .bool false), (13, iv rx5), (12, .pointer (some ⟨b16, 0, none⟩)), (11, iv 9), (10, .pointer (some ⟨b6, 0, none⟩)), (9, .slice (some ⟨b5, 0, none⟩) 5 5), (8, .slice (some ⟨b4, 0, none⟩) 5 5), (7, .slice (some ⟨b3, 0, none⟩) 5 5), (5, .pointer (some ⟨b2, 0, none⟩)), (4, .pointer (some ⟨b1, 0, none⟩)), (0, .slice a n c), (1, iv bf)] w113 (by kernel_rfl) ?_
                                    refine J.ok (OK.index 72 95 1 (some ⟨b4, 0, none⟩) ⟨b4, 0, none⟩ 5 4 4 ⟨b4, 4, none⟩ (by kernel_rfl) (by kernel_rfl) rfl (by omega) (by omega) (by rfl)) ?_
                                    refine J.ok (OK.ldBox S122 3 73 3 4 (iv (-500)) (by kernel_rfl) rfl (by kernel_rfl)) ?_
                                    refine J.run 3 K38_101 [(76, .bool (decide (rx5 < (-500)))), (13, iv rx5), (12, .pointer (some ⟨b16, 0, none⟩)), (11, iv 9), (10, .pointer (some ⟨b6, 0, none⟩)), (9, .slice (some ⟨b5, 0, none⟩) 5 5), (8, .slice (some ⟨b4, 0, none⟩) 5 5), (7, .slice (some ⟨b3, 0, none⟩) 5 5), (5, .pointer (some ⟨b2, 0, none⟩)), (4, .pointer (some ⟨b1, 0, none⟩)), (0, .slice a n c), (1, iv bf)] w113 (by kernel_rfl) ?_
                                    by_cases fk35 : rx5 < (-500)
                                    ·skip
                                     refine J.head (.bool true) (congrArg Value.bool (decide_eq_true fk35)) ?_
                                     refine J.run 11 K38_102 [(12, .pointer (some ⟨b16, 0, none⟩)), (5, .pointer (some ⟨b2, 0, none⟩)), (4, .pointer (some ⟨b1, 0, none⟩))] w113 (by kernel_rfl) ?_
                                     refine J.drawPlan (fun w_ => Sep w [box b16 (tkE (L.getD 9 tk0)) 78, box b6 [iv rx1, iv rx2, iv rx3, iv rx4, iv 0] 48, box b5 kvD17_3 3, box b4 kvD17_4 3, box b3 kvD17_1 9, box b1 kvD17_2 27] w_) [(0, true), (1, true), (2, true), (3, false), (4, false), (5, true)] S122 Tryd.mixed (by kernel_rfl) (planOK_of (T := [(0, some 85, 0), (0, some 86, 4096), (2, some 87, 77371252455336267181195264), (1, none, 38685626227668133590597648), (15, none, 154742504910672534362390560), (31, some 6, 0)]) (by kernel_rfl) (by kernel_rfl)) ?_
                                     intro w114 S123
                                     refine PB.mk (S123.erase 5) ?_
                                     refine PL.take 0 85 (.agg kvD17_6) (fun _ _ => by kernel_rfl) ?_
                                     refine PL.take 1 86 (.pointer (some ⟨b16, 2, none⟩)) (fun _ _ => by kernel_rfl) ?_
                                     refine PL.takeOK 2 (fun w_ S_ => OK.ldBox S_ 0 87 39 2 (.agg #[iv ((L.getD 9 tk0).gPlace_Line), iv ((L.getD 9 tk0).gPlace_Column)]) (by kernel_rfl) rfl (by kernel_rfl)) rfl ?_
                                     refine PL.stBox S123 6 27 0 (.agg kvD17_6) kvD17_2 [box b16 (tkE (L.getD 9 tk0)) 78, box b6 [iv rx1, iv rx2, iv rx3, iv rx4, iv 0] 48, box b5 kvD17_3 3, box b4 kvD17_4 3, box b3 kvD17_1 9, box b2 [iv 0, iv 0] 39, box b1 kvD17_2 27] (by kernel_rfl) rfl (by kernel_rfl) (by kernel_rfl) rfl ?_
                                     intro w115 S124
                                     refine PB.mk (S124.erase 5) ?_
                                     refine PL.stBox S124 5 39 0 (.agg #[iv ((L.getD 9 tk0).gPlace_Line), iv ((L.getD 9 tk0).gPlace_Column)]) [iv ((L.getD 9 tk0).gPlace_Line), iv ((L.getD 9 tk0).gPlace_Column)] [box b16 (tkE (L.getD 9 tk0)) 78, box b6 [iv rx1, iv rx2, iv rx3, iv rx4, iv 0] 48, box b5 kvD17_3 3, box b4 kvD17_4 3, box b3 kvD17_1 9, box b2 [iv ((L.getD 9 tk0).gPlace_Line), iv ((L.getD 9 tk0).gPlace_Column)] 39, box b1 kvD17_2 27] (by kernel_rfl) rfl (by kernel_rfl) (by kernel_rfl) rfl ?_
                                     intro w116 S125
                                     refine PB.mk (S125.erase 5) ?_
                                     refine PL.take 5 6 (iv 2) (fun _ _ => by kernel_rfl) ?_
                                     refine PL.done ?_
                                     refine J.run 0 (rRest K38_102) [(6, iv 2), (5, .pointer (some ⟨b2, 0, none⟩)), (4, .pointer (some ⟨b1, 0, none⟩))] w116 (by kernel_rfl) ?_
                                     refine J.ret Tryd.f38 [.agg kvD17_6, .agg #[iv ((L.getD 9 tk0).gPlace_Line), iv ((L.getD 9 tk0).gPlace_Column)], iv 2] Tryd.func38 ⟨⟨⟨b1, 0, none⟩, by kernel_rfl, ldV_run (S125.nth 6 rfl) (by kernel_rfl)⟩, ⟨⟨b2, 0, none⟩, by kernel_rfl, ldV_run (S125.nth 5 rfl) (by kernel_rfl)⟩, by kernel_rfl, trivial⟩ ?_
                                     refine hR _ _ ?_
                                     have h0_ : ls11 L false bf = some (2, 9) := num_rng hll s10 (by omega) hg9 (.inr (by rw [← hv9]; omega))
                                     have h_ : lineS L false bf = some (2, 9) := up11 h0_
                                     obtain ⟨e1, ⟨e2, e3⟩, e4⟩ := rl_some h_
                                     exact ⟨by rw [e1, e2, e3, e4]; rfl, S125.nil⟩
                                    ·skip
                                     refine J.head (.bool false) (congrArg Value.bool (decide_eq_false fk35)) ?_
                                     refine J.run 4 K38_103 [(80, iv 4), (78, .slice (some ⟨b5, 0, none⟩) 5 5), (77, iv rx5), (76, .bool false), (13, iv rx5), (12, .pointer (some ⟨b16, 0, none⟩)), (11, iv 9), (10, .pointer (some ⟨b6, 0, none⟩)), (9, .slice (some ⟨b5, 0, none⟩) 5 5), (8, .slice (some ⟨b4, 0, none⟩) 5 5), (7, .slice (some ⟨b3, 0, none⟩) 5 5), (5, .pointer (some ⟨b2, 0, none⟩)), (4, .pointer (some ⟨b1, 0, none⟩)), (0, .slice a n c), (1, iv bf)] w113 (by kernel_rfl) ?_
                                     refine J.ok (OK.index 81 95 1 (some ⟨b5, 0, none⟩) ⟨b5, 0, none⟩ 5 4 4 ⟨b5, 4, none⟩ (by kernel_rfl) (by kernel_rfl) rfl (by omega) (by omega) (by rfl)) ?_
                                     refine J.ok (OK.ldBox S122 2 82 3 4 (iv 2000) (by kernel_rfl) rfl (by kernel_rfl)) ?_
                                     refine J.run 3 K38_104 [(84, .bool (decide (rx5 > 2000))), (13, iv rx5), (12, .pointer (some ⟨b16, 0, none⟩)), (11, iv 9), (10, .pointer (some ⟨b6, 0, none⟩)), (9, .slice (some ⟨b5, 0, none⟩) 5 5), (8, .slice (some ⟨b4, 0, none⟩) 5 5), (7, .slice (some ⟨b3, 0, none⟩) 5 5), (5, .pointer (some ⟨b2, 0, none⟩)), (4, .pointer (some ⟨b1, 0, none⟩)), (0, .slice a n c), (1, iv bf)] w113 (by kernel_rfl) ?_
                                     by_cases fk36 : rx5 > 2000
                                     ·skip
                                      refine J.head (.bool true) (congrArg Value.bool (decide_eq_true fk36)) ?_
                                      refine J.run 2 K38_105 [(12, .pointer (some ⟨b16, 0, none⟩)), (5, .pointer (some ⟨b2, 0, none⟩)), (4, .pointer (some ⟨b1, 0, none⟩))] w113 (by kernel_rfl) ?_
                                      refine J.drawPlan (fun w_ => Sep w [box b16 (tkE (L.getD 9 tk0)) 78, box b6 [iv rx1, iv rx2, iv rx3, iv rx4, iv 0] 48, box b5 kvD17_3 3, box b4 kvD17_4 3, box b3 kvD17_1 9, box b1 kvD17_2 27] w_) [(0, true), (1, true), (2, true), (3, false), (4, false), (5, true)] S122 Tryd.mixed (by kernel_rfl) (planOK_of (T := [(0, some 85, 0), (0, some 86, 4096), (2, some 87, 77371252455336267181195264), (1, none, 38685626227668133590597648), (15, none, 154742504910672534362390560), (31, some 6, 0)]) (by kernel_rfl) (by kernel_rfl)) ?_
                                      intro w117 S126
                                      refine PB.mk (S126.erase 5) ?_
                                      refine PL.take 0 85 (.agg kvD17_6) (fun _ _ => by kernel_rfl) ?_
                                      refine PL.take 1 86 (.pointer (some ⟨b16, 2, none⟩)) (fun _ _ => by kernel_rfl) ?_
                                      refine PL.takeOK 2 (fun w_ S_ => OK.ldBox S_ 0 87 39 2 (.agg #[iv ((L.getD 9 tk0).gPlace_Line), iv ((L.getD 9 tk0).gPlace_Column)]) (by kernel_rfl) rfl (by kernel_rfl)) rfl ?_
                                      refine PL.stBox S126 6 27 0 (.agg kvD17_6) kvD17_2 [box b16 (tkE (L.getD 9 tk0)) 78, box b6 [iv rx1, iv rx2, iv rx3, iv rx4, iv 0] 48, box b5 kvD17_3 3, box b4 kvD17_4 3, box b3 kvD17_1 9, box b2 [iv 0, iv 0] 39, box b1 kvD17_2 27] (by kernel_rfl) rfl (by kernel_rfl) (by kernel_rfl) rfl ?_
                                      intro w118 S127
                                      refine PB.mk (S127.erase 5) ?_
                                      refine PL.stBox S127 5 39 0 (.agg #[iv ((L.getD 9 tk0).gPlace_Line), iv ((L.getD 9 tk0).gPlace_Column)]) [iv ((L.getD 9 tk0).gPlace_Line), iv ((L.getD 9 tk0).gPlace_Column)] [box b16 (tkE (L.getD 9 tk0)) 78, box b6 [iv rx1, iv rx2, iv rx3, iv rx4, iv 0] 48, box b5 kvD17_3 3, box b4 kvD17_4 3, box b3 kvD17_1 9, box b2 [iv ((L.getD 9 tk0).gPlace_Line), iv ((L.getD 9 tk0).gPlace_Column)] 39, box b1 kvD17_2 27] (by kernel_rfl) rfl (by kernel_rfl) (by kernel_rfl) rfl ?_
                                      intro w119 S128
                                      refine PB.mk (S128.erase 5) ?_
                                      refine PL.take 5 6 (iv 2) (fun _ _ => by kernel_rfl) ?_
                                      refine PL.done ?_
                                      refine J.run 0 (rRest K38_105) [(6, iv 2), (5, .pointer (some ⟨b2, 0, none⟩)), (4, .pointer (some ⟨b1, 0, none⟩))] w119 (by kernel_rfl) ?_
                                      refine J.ret Tryd.f38 [.agg kvD17_6, .agg #[iv ((L.getD 9 tk0).gPlace_Line), iv ((L.getD 9 tk0).gPlace_Column)], iv 2] Tryd.func38 ⟨⟨⟨b1, 0, none⟩, by kernel_rfl, ldV_run (S128.nth 6 rfl) (by kernel_rfl)⟩, ⟨⟨b2, 0, none⟩, by kernel_rfl, ldV_run (S128.nth 5 rfl) (by kernel_rfl)⟩, by kernel_rfl, trivial⟩ ?_
                                      refine hR _ _ ?_
                                      have h0_ : ls11 L false bf = some (2, 9) := num_rng hll s10 (by omega) hg9 (.inr (by rw [← hv9]; omega))
                                      have h_ : lineS L false bf = some (2, 9) := up11 h0_
                                      obtain ⟨e1, ⟨e2, e3⟩, e4⟩ := rl_some h_
                                      exact ⟨by rw [e1, e2, e3, e4]; rfl, S128.nil⟩
                                     ·skip
                                      refine J.head (.bool false) (congrArg Value.bool (decide_eq_false fk36)) ?_
                                      have s11 : ls11 L false bf = none := num_pass hll s10 (by omega) hg9 hf9 (by rw [← hv9]; omega)
                                      refine J.run 31 K38_106 [(112, iv rx5), (111, iv 4), (11, iv 9), (10, .pointer (some ⟨b6, 0, none⟩)), (9, .slice (some ⟨b5, 0, none⟩) 5 5), (8, .slice (some ⟨b4, 0, none⟩) 5 5), (7, .slice (some ⟨b3, 0, none⟩) 5 5), (5, .pointer (some ⟨b2, 0, none⟩)), (4, .pointer (some ⟨b1, 0, none⟩)), (0, .slice a n c), (1, iv bf)] w113 (by kernel_rfl) ?_
                                      refine J.ok (OK.indexP 113 48 5 1 b6 0 4 4 (by kernel_rfl) (by kernel_rfl) (by omega) (by omega)) ?_
                                      refine J.head (.pointer (some ⟨b6, 4, none⟩)) (by first | rfl | (rw [Nat.zero_add, Nat.mul_one])) ?_
                                      refine J.stBox S122 1 3 4 (iv rx5) [iv rx1, iv rx2, iv rx3, iv rx4, iv rx5] [box b16 (tkE (L.getD 9 tk0)) 78, box b6 [iv rx1, iv rx2, iv rx3, iv rx4, iv rx5] 48, box b5 kvD17_3 3, box b4 kvD17_4 3, box b3 kvD17_1 9, box b2 [iv 0, iv 0] 39, box b1 kvD17_2 27] (by kernel_rfl) rfl (by kernel_rfl) (by kernel_rfl) rfl ?_
                                      intro w120 S129
                                      refine J.run 8 K38_107 [(11, iv 10), (10, .pointer (some ⟨b6, 0, none⟩)), (9, .slice (some ⟨b5, 0, none⟩) 5 5), (8, .slice (some ⟨b4, 0, none⟩) 5 5), (7, .slice (some ⟨b3, 0, none⟩) 5 5), (5, .pointer (some ⟨b2, 0, none⟩)), (4, .pointer (some ⟨b1, 0, none⟩)), (0, .slice a n c), (1, iv bf)] w120 (by kernel_rfl) ?_
                                      have S130 : Sep w [box b6 [iv rx1, iv rx2, iv rx3, iv rx4, iv rx5] 48, box b5 kvD17_3 3, box b4 kvD17_4 3, box b3 kvD17_1 9, box b2 [iv 0, iv 0] 39, box b1 kvD17_2 27] w120 := S129.erase 0
                                      clear S129
                                      refine J.run 15 K38_108 [(116, .bool (decide ((n : Int) > 10))), (10, .pointer (some ⟨b6, 0, none⟩)), (5, .pointer (some ⟨b2, 0, none⟩)), (4, .pointer (some ⟨b1, 0, none⟩)), (0, .slice a n c)] w120 (by kernel_rfl) ?_
                                      by_cases fk37 : (n : Int) > 10
                                      ·skip
                                       refine J.head (.bool true) (congrArg Value.bool (decide_eq_true fk37)) ?_
                                       refine J.run 2 K38_109 [(5, .pointer (some ⟨b2, 0, none⟩)), (4, .pointer (some ⟨b1, 0, none⟩)), (0, .slice a n c)] w120 (by kernel_rfl) ?_
                                       obtain ⟨p26, hp26, hc26⟩ := hl.at tk0 10 (by omega)
                                       refine J.drawPlan (fun w_ => Sep w [box b6 [iv rx1, iv rx2, iv rx3, iv rx4, iv rx5] 48, box b5 kvD17_3 3, box b4 kvD17_4 3, box b3 kvD17_1 9, box b1 kvD17_2 27] w_) [(0, true), (1, true), (2, true), (3, true), (4, true), (5, false), (6, false), (7, true)] S130 Tryd.mixed (by kernel_rfl) (planOK_of (T := [(0, some 117, 0), (0, some 118, 1), (2, some 119, 332306998946228968225951765070086144), (4, some 120, 664613997892457936451903530140172288), (8, some 121, 1329227995784915872903807060280344576), (1, none, 166153499473114484112975882535043088), (63, none, 2658455991569831745807614120560689184), (127, some 6, 0)]) (by kernel_rfl) (by kernel_rfl)) ?_
                                       intro w121 S131
                                       refine PB.mk (S131.erase 4) ?_
                                       refine PL.take 0 117 (.agg kvD17_6) (fun _ _ => by kernel_rfl) ?_
                                       refine PL.take 1 118 (.slice a n c) (fun _ _ => by kernel_rfl) ?_
                                       refine PL.takeOK 2 (fun w_ S_ => OK.index 119 71 4 a p26 n 10 10 (p26.add (10 * 4)) (by kernel_rfl) (by kernel_rfl) hp26 (by omega) (by omega) rfl) rfl ?_
                                       refine PL.take 3 120 (.pointer (some ((p26.add (10 * 4)).add 2))) (fun _ _ => by kernel_rfl) ?_
                                       refine PL.takeOK 4 (fun w_ S_ => OK.ldCells 121 39 ((p26.add (10 * 4)).add 2) [iv ((L.getD 10 tk0).gPlace_Line), iv ((L.getD 10 tk0).gPlace_Column)] (by kernel_rfl) (by kernel_rfl) (by kernel_rfl) (fun j_ v_ hj_ => by rw [addr_add_add]; exact ((fun j_ v_ hj_ => S_.cell (hc26 j_ v_ hj_))) (2 + j_) v_ (by rcases j_ with _ | _ | j_ <;> first | exact hj_ | (cases hj_; done) | (simp at hj_; done)))) rfl ?_
                                       refine PL.stBox S131 5 27 0 (.agg kvD17_6) kvD17_2 [box b6 [iv rx1, iv rx2, iv rx3, iv rx4, iv rx5] 48, box b5 kvD17_3 3, box b4 kvD17_4 3, box b3 kvD17_1 9, box b2 [iv 0, iv 0] 39, box b1 kvD17_2 27] (by kernel_rfl) rfl (by kernel_rfl) (by kernel_rfl) rfl ?_
                                       intro w122 S132
                                       refine PB.mk (S132.erase 4) ?_
                                       refine PL.stBox S132 4 39 0 (.agg #[iv ((L.getD 10 tk0).gPlace_Line), iv ((L.getD 10 tk0).gPlace_Column)]) [iv ((L.getD 10 tk0).gPlace_Line), iv ((L.getD 10 tk0).gPlace_Column)] [box b6 [iv rx1, iv rx2, iv rx3, iv rx4, iv rx5] 48, box b5 kvD17_3 3, box b4 kvD17_4 3, box b3 kvD17_1 9, box b2 [iv ((L.getD 10 tk0).gPlace_Line), iv ((L.getD 10 tk0).gPlace_Column)] 39, box b1 kvD17_2 27] (by kernel_rfl) rfl (by kernel_rfl) (by kernel_rfl) rfl ?_
                                       intro w123 S133
                                       refine PB.mk (S133.erase 4) ?_
                                       refine PL.take 7 6 (iv 3) (fun _ _ => by kernel_rfl) ?_
                                       refine PL.done ?_
                                       refine J.run 0 (rRest K38_109) [(6, iv 3), (5, .pointer (some ⟨b2, 0, none⟩)), (4, .pointer (some ⟨b1, 0, none⟩))] w123 (by kernel_rfl) ?_
                                       refine J.ret Tryd.f38 [.agg kvD17_6, .agg #[iv ((L.getD 10 tk0).gPlace_Line), iv ((L.getD 10 tk0).gPlace_Column)], iv 3] Tryd.func38 ⟨⟨⟨b1, 0, none⟩, by kernel_rfl, ldV_run (S133.nth 5 rfl) (by kernel_rfl)⟩, ⟨⟨b2, 0, none⟩, by kernel_rfl, ldV_run (S133.nth 4 rfl) (by kernel_rfl)⟩, by kernel_rfl, trivial⟩ ?_
                                       refine hR _ _ ?_
                                       have h_ : lineS L false bf = some (3, 10) := chk_hit s11 (decide_eq_true (by omega))
                                       obtain ⟨e1, ⟨e2, e3⟩, e4⟩ := rl_some h_
                                       exact ⟨by rw [e1, e2, e3, e4]; rfl, S133.nil⟩
                                      ·skip
                                       refine J.head (.bool false) (congrArg Value.bool (decide_eq_false fk37)) ?_
                                       refine J.run 4 K38_110 [(10, .pointer (some ⟨b6, 0, none⟩)), (5, .pointer (some ⟨b2, 0, none⟩)), (4, .pointer (some ⟨b1, 0, none⟩))] w120 (by kernel_rfl) ?_
                                       refine J.ok (OK.indexP 122 48 5 1 b6 0 0 0 (by kernel_rfl) (by kernel_rfl) (by omega) (by omega)) ?_
                                       refine J.head (.pointer (some ⟨b6, 0, none⟩)) (by first | rfl | (rw [Nat.zero_add, Nat.mul_one])) ?_
                                       refine J.ok (OK.ldBox S130 0 123 3 0 (iv rx1) (by kernel_rfl) rfl (by kernel_rfl)) ?_
                                       refine J.ok (OK.indexP 124 48 5 1 b6 0 1 1 (by kernel_rfl) (by kernel_rfl) (by omega) (by omega)) ?_
                                       refine J.head (.pointer (some ⟨b6, 1, none⟩)) (by first | rfl | (rw [Nat.zero_add, Nat.mul_one])) ?_
                                       refine J.ok (OK.ldBox S130 0 125 3 1 (iv rx2) (by kernel_rfl) rfl (by kernel_rfl)) ?_
                                       refine J.ok (OK.indexP 126 48 5 1 b6 0 2 2 (by kernel_rfl) (by kernel_rfl) (by omega) (by omega)) ?_
                                       refine J.head (.pointer (some ⟨b6, 2, none⟩)) (by first | rfl | (rw [Nat.zero_add, Nat.mul_one])) ?_
                                       refine J.ok (OK.ldBox S130 0 127 3 2 (iv rx3) (by kernel_rfl) rfl (by kernel_rfl)) ?_
                                       refine J.ok (OK.indexP 128 48 5 1 b6 0 3 3 (by kernel_rfl) (by kernel_rfl) (by omega) (by omega)) ?_
                                       refine J.head (.pointer (some ⟨b6, 3, none⟩)) (by first | rfl | (rw [Nat.zero_add, Nat.mul_one])) ?_
                                       refine J.ok (OK.ldBox S130 0 129 3 3 (iv rx4) (by kernel_rfl) rfl (by kernel_rfl)) ?_
                                       refine J.ok (OK.indexP 130 48 5 1 b6 0 4 4 (by kernel_rfl) (by kernel_rfl) (by omega) (by omega)) ?_
                                       refine J.head (.pointer (some ⟨b6, 4, none⟩)) (by first | rfl | (rw [Nat.zero_add, Nat.mul_one])) ?_
                                       refine J.ok (OK.ldBox S130 0 131 3 4 (iv rx5) (by kernel_rfl) rfl (by kernel_rfl)) ?_
                                       refine J.run 2 K38_111 [(133, .agg #[iv 0, iv 0]), (132, .agg #[iv rx1, iv rx2, iv rx3, iv rx4, iv rx5]), (5, .pointer (some ⟨b2, 0, none⟩)), (4, .pointer (some ⟨b1, 0, none⟩))] w120 (by kernel_rfl) ?_
                                       refine J.stBox S130 5 27 0 (.agg #[iv rx1, iv rx2, iv rx3, iv rx4, iv rx5]) [iv rx1, iv rx2, iv rx3, iv rx4, iv rx5] [box b6 [iv rx1, iv rx2, iv rx3, iv rx4, iv rx5] 48, box b5 kvD17_3 3, box b4 kvD17_4 3, box b3 kvD17_1 9, box b2 [iv 0, iv 0] 39, box b1 [iv rx1, iv rx2, iv rx3, iv rx4, iv rx5] 27] (by kernel_rfl) rfl (by kernel_rfl) (by kernel_rfl) rfl ?_
                                       intro w124 S134
                                       refine J.stBox S134 4 39 0 (.agg #[iv 0, iv 0]) [iv 0, iv 0] [box b6 [iv rx1, iv rx2, iv rx3, iv rx4, iv rx5] 48, box b5 kvD17_3 3, box b4 kvD17_4 3, box b3 kvD17_1 9, box b2 [iv 0, iv 0] 39, box b1 [iv rx1, iv rx2, iv rx3, iv rx4, iv rx5] 27] (by kernel_rfl) rfl (by kernel_rfl) (by kernel_rfl) rfl ?_
                                       intro w125 S135
                                       refine J.run 2 K38_112 [(6, iv 0), (5, .pointer (some ⟨b2, 0, none⟩)), (4, .pointer (some ⟨b1, 0, none⟩))] w125 (by kernel_rfl) ?_
                                       refine J.ret Tryd.f38 [.agg #[iv rx1, iv rx2, iv rx3, iv rx4, iv rx5], .agg #[iv 0, iv 0], iv 0] Tryd.func38 ⟨⟨⟨b1, 0, none⟩, by kernel_rfl, ldV_run (S135.nth 5 rfl) (by kernel_rfl)⟩, ⟨⟨b2, 0, none⟩, by kernel_rfl, ldV_run (S135.nth 4 rfl) (by kernel_rfl)⟩, by kernel_rfl, trivial⟩ ?_
                                       refine hR _ _ ?_
                                       have h_ : lineS L false bf = none := chk_pass s11 (decide_eq_false (by omega))
                                       obtain ⟨e1, ⟨e2, e3⟩, e4⟩ := rl_none h_
                                       exact ⟨by rw [e1, e2, e3, e4, ← lineV_eq hv1 hv3 hv5 hv7 hv9]; rfl, S135.nil⟩
                                   ·skip
                                    refine J.head (.bool true) (congrArg Value.bool (by rw [fk34]; rfl)) ?_
                                    have hf9 := fk34
                                    refine J.run 20 K38_113 [(12, .pointer (some ⟨b16, 0, none⟩)), (5, .pointer (some ⟨b2, 0, none⟩)), (4, .pointer (some ⟨b1, 0, none⟩))] w113 (by kernel_rfl) ?_
                                    refine J.drawPlan (fun w_ => Sep w [box b16 (tkE (L.getD 9 tk0)) 78, box b6 [iv rx1, iv rx2, iv rx3, iv rx4, iv 0] 48, box b5 kvD17_3 3, box b4 kvD17_4 3, box b3 kvD17_1 9, box b1 kvD17_2 27] w_) [(0, true), (1, true), (2, true), (3, false), (4, false), (5, true)] S122 Tryd.mixed (by kernel_rfl) (planOK_of (T := [(0, some 85, 0), (0, some 86, 4096), (2, some 87, 77371252455336267181195264), (1, none, 38685626227668133590597648), (15, none, 154742504910672534362390560), (31, some 6, 0)]) (by kernel_rfl) (by kernel_rfl)) ?_
                                    intro w126 S136
                                    refine PB.mk (S136.erase 5) ?_
                                    refine PL.take 0 85 (.agg kvD17_6) (fun _ _ => by kernel_rfl) ?_
                                    refine PL.take 1 86 (.pointer (some ⟨b16, 2, none⟩)) (fun _ _ => by kernel_rfl) ?_
                                    refine PL.takeOK 2 (fun w_ S_ => OK.ldBox S_ 0 87 39 2 (.agg #[iv ((L.getD 9 tk0).gPlace_Line), iv ((L.getD 9 tk0).gPlace_Column)]) (by kernel_rfl) rfl (by kernel_rfl)) rfl ?_
                                    refine PL.stBox S136 6 27 0 (.agg kvD17_6) kvD17_2 [box b16 (tkE (L.getD 9 tk0)) 78, box b6 [iv rx1, iv rx2, iv rx3, iv rx4, iv 0] 48, box b5 kvD17_3 3, box b4 kvD17_4 3, box b3 kvD17_1 9, box b2 [iv 0, iv 0] 39, box b1 kvD17_2 27] (by kernel_rfl) rfl (by kernel_rfl) (by kernel_rfl) rfl ?_
                                    intro w127 S137
                                    refine PB.mk (S137.erase 5) ?_
                                    refine PL.stBox S137 5 39 0 (.agg #[iv ((L.getD 9 tk0).gPlace_Line), iv ((L.getD 9 tk0).gPlace_Column)]) [iv ((L.getD 9 tk0).gPlace_Line), iv ((L.getD 9 tk0).gPlace_Column)] [box b16 (tkE (L.getD 9 tk0)) 78, box b6 [iv rx1, iv rx2, iv rx3, iv rx4, iv 0] 48, box b5 kvD17_3 3, box b4 kvD17_4 3, box b3 kvD17_1 9, box b2 [iv ((L.getD 9 tk0).gPlace_Line), iv ((L.getD 9 tk0).gPlace_Column)] 39, box b1 kvD17_2 27] (by kernel_rfl) rfl (by kernel_rfl) (by kernel_rfl) rfl ?_
                                    intro w128 S138
                                    refine PB.mk (S138.erase 5) ?_
                                    refine PL.take 5 6 (iv 2) (fun _ _ => by kernel_rfl) ?_
                                    refine PL.done ?_
                                    refine J.run 0 (rRest K38_113) [(6, iv 2), (5, .pointer (some ⟨b2, 0, none⟩)), (4, .pointer (some ⟨b1, 0, none⟩))] w128 (by kernel_rfl) ?_
                                    refine J.ret Tryd.f38 [.agg kvD17_6, .agg #[iv ((L.getD 9 tk0).gPlace_Line), iv ((L.getD 9 tk0).gPlace_Column)], iv 2] Tryd.func38 ⟨⟨⟨b1, 0, none⟩, by kernel_rfl, ldV_run (S138.nth 6 rfl) (by kernel_rfl)⟩, ⟨⟨b2, 0, none⟩, by kernel_rfl, ldV_run (S138.nth 5 rfl) (by kernel_rfl)⟩, by kernel_rfl, trivial⟩ ?_
                                    refine hR _ _ ?_
                                    have h0_ : ls11 L false bf = some (2, 9) := num_rng hll s10 (by omega) hg9 (.inl hf9)
                                    have h_ : lineS L false bf = some (2, 9) := up11 h0_
                                    obtain ⟨e1, ⟨e2, e3⟩, e4⟩ := rl_some h_
                                    exact ⟨by rw [e1, e2, e3, e4]; rfl, S138.nil⟩
                                  ·skip
                                   refine J.head (.bool true) (congrArg Value.bool (by rw [fk33]; rfl)) ?_
                                   have hg9 := fk33
                                   refine J.run 2 K38_114 [(12, .pointer (some ⟨b16, 0, none⟩)), (5, .pointer (some ⟨b2, 0, none⟩)), (4, .pointer (some ⟨b1, 0, none⟩))] w113 (by kernel_rfl) ?_
                                   refine J.drawPlan (fun w_ => Sep w [box b16 (tkE (L.getD 9 tk0)) 78, box b6 [iv rx1, iv rx2, iv rx3, iv rx4, iv 0] 48, box b5 kvD17_3 3, box b4 kvD17_4 3, box b3 kvD17_1 9, box b1 kvD17_2 27] w_) [(0, true), (1, true), (2, true), (3, false), (4, false), (5, true)] S122 Tryd.mixed (by kernel_rfl) (planOK_of (T := [(0, some 62, 0), (0, some 63, 4096), (2, some 64, 9223372036854775808), (1, none, 4611686018427387920), (15, none, 18446744073709551648), (31, some 6, 0)]) (by kernel_rfl) (by kernel_rfl)) ?_
                                   intro w129 S139
                                   refine PB.mk (S139.erase 5) ?_
                                   refine PL.take 0 62 (.agg kvD17_6) (fun _ _ => by kernel_rfl) ?_
                                   refine PL.take 1 63 (.pointer (some ⟨b16, 2, none⟩)) (fun _ _ => by kernel_rfl) ?_
                                   refine PL.takeOK 2 (fun w_ S_ => OK.ldBox S_ 0 64 39 2 (.agg #[iv ((L.getD 9 tk0).gPlace_Line), iv ((L.getD 9 tk0).gPlace_Column)]) (by kernel_rfl) rfl (by kernel_rfl)) rfl ?_
                                   refine PL.stBox S139 6 27 0 (.agg kvD17_6) kvD17_2 [box b16 (tkE (L.getD 9 tk0)) 78, box b6 [iv rx1, iv rx2, iv rx3, iv rx4, iv 0] 48, box b5 kvD17_3 3, box b4 kvD17_4 3, box b3 kvD17_1 9, box b2 [iv 0, iv 0] 39, box b1 kvD17_2 27] (by kernel_rfl) rfl (by kernel_rfl) (by kernel_rfl) rfl ?_
                                   intro w130 S140
                                   refine PB.mk (S140.erase 5) ?_
                                   refine PL.stBox S140 5 39 0 (.agg #[iv ((L.getD 9 tk0).gPlace_Line), iv ((L.getD 9 tk0).gPlace_Column)]) [iv ((L.getD 9 tk0).gPlace_Line), iv ((L.getD 9 tk0).gPlace_Column)] [box b16 (tkE (L.getD 9 tk0)) 78, box b6 [iv rx1, iv rx2, iv rx3, iv rx4, iv 0] 48, box b5 kvD17_3 3, box b4 kvD17_4 3, box b3 kvD17_1 9, box b2 [iv ((L.getD 9 tk0).gPlace_Line), iv ((L.getD 9 tk0).gPlace_Column)] 39, box b1 kvD17_2 27] (by kernel_rfl) rfl (by kernel_rfl) (by kernel_rfl) rfl ?_
                                   intro w131 S141
                                   refine PB.mk (S141.erase 5) ?_
                                   refine PL.take 5 6 (iv 3) (fun _ _ => by kernel_rfl) ?_
                                   refine PL.done ?_
                                   refine J.run 0 (rRest K38_114) [(6, iv 3), (5, .pointer (some ⟨b2, 0, none⟩)), (4, .pointer (some ⟨b1, 0, none⟩))] w131 (by kernel_rfl) ?_
                                   refine J.ret Tryd.f38 [.agg kvD17_6, .agg #[iv ((L.getD 9 tk0).gPlace_Line), iv ((L.getD 9 tk0).gPlace_Column)], iv 3] Tryd.func38 ⟨⟨⟨b1, 0, none⟩, by kernel_rfl, ldV_run (S141.nth 6 rfl) (by kernel_rfl)⟩, ⟨⟨b2, 0, none⟩, by kernel_rfl, ldV_run (S141.nth 5 rfl) (by kernel_rfl)⟩, by kernel_rfl, trivial⟩ ?_
                                   refine hR _ _ ?_
                                   have h0_ : ls11 L false bf = some (3, 9) := num_form hll s10 (by omega) hg9
                                   have h_ : lineS L false bf = some (3, 9) := up11 h0_
                                   obtain ⟨e1, ⟨e2, e3⟩, e4⟩ := rl_some h_
                                   exact ⟨by rw [e1, e2, e3, e4]; rfl, S141.nil⟩
                            ·skip
                             refine J.head (.bool true) (congrArg Value.bool (by rw [fk27]; rfl)) ?_
                             have hf7 := fk27
                             refine J.run 20 K38_115 [(12, .pointer (some ⟨b14, 0, none⟩)), (5, .pointer (some ⟨b2, 0, none⟩)), (4, .pointer (some ⟨b1, 0, none⟩))] w91 (by kernel_rfl) ?_
                             refine J.drawPlan (fun w_ => Sep w [box b14 (tkE (L.getD 7 tk0)) 78, box b6 [iv rx1, iv rx2, iv rx3, iv 0, iv 0] 48, box b5 kvD17_3 3, box b4 kvD17_4 3, box b3 kvD17_1 9, box b1 kvD17_2 27] w_) [(0, true), (1, true), (2, true), (3, false), (4, false), (5, true)] S98 Tryd.mixed (by kernel_rfl) (planOK_of (T := [(0, some 85, 0), (0, some 86, 4096), (2, some 87, 77371252455336267181195264), (1, none, 38685626227668133590597648), (15, none, 154742504910672534362390560), (31, some 6, 0)]) (by kernel_rfl) (by kernel_rfl)) ?_
                             intro w132 S142
                             refine PB.mk (S142.erase 5) ?_
                             refine PL.take 0 85 (.agg kvD17_6) (fun _ _ => by kernel_rfl) ?_
                             refine PL.take 1 86 (.pointer (some ⟨b14, 2, none⟩)) (fun _ _ => by kernel_rfl) ?_
                             refine PL.takeOK 2 (fun w_ S_ => OK.ldBox S_ 0 87 39 2 (.agg #[iv ((L.getD 7 tk0).gPlace_Line), iv ((L.getD 7 tk0).gPlace_Column)]) (by kernel_rfl) rfl (by kernel_rfl)) rfl ?_
                             refine PL.stBox S142 6 27 0 (.agg kvD17_6) kvD17_2 [box b14 (tkE (L.getD 7 tk0)) 78, box b6 [iv rx1, iv rx2, iv rx3, iv 0, iv 0] 48, box b5 kvD17_3 3, box b4 kvD17_4 3, box b3 kvD17_1 9, box b2 [iv 0, iv 0] 39, box b1 kvD17_2 27] (by kernel_rfl) rfl (by kernel_rfl) (by kernel_rfl) rfl ?_
                             intro w133 S143
                             refine PB.mk (S143.erase 5) ?_
                             refine PL.stBox S143 5 39 0 (.agg #[iv ((L.getD 7 tk0).gPlace_Line), iv ((L.getD 7 tk0).gPlace_Column)]) [iv ((L.getD 7 tk0).gPlace_Line), iv ((L.getD 7 tk0).gPlace_Column)] [box b14 (tkE (L.getD 7 tk0)) 78, box b6 [iv rx1, iv rx2, iv rx3, iv 0, iv 0] 48, box b5 kvD17_3 3, box b4 kvD17_4 3, box b3 kvD17_1 9, box b2 [iv ((L.getD 7 tk0).gPlace_Line), iv ((L.getD 7 tk0).gPlace_Column)] 39, box b1 kvD17_2 27] (by kernel_rfl) rfl (by kernel_rfl) (by kernel_rfl) rfl ?_
                             intro w134 S144
                             refine PB.mk (S144.erase 5) ?_
                             refine PL.take 5 6 (iv 2) (fun _ _ => by kernel_rfl) ?_
                             refine PL.done ?_
                             refine J.run 0 (rRest K38_115) [(6, iv 2), (5, .pointer (some ⟨b2, 0, none⟩)), (4, .pointer (some ⟨b1, 0, none⟩))] w134 (by kernel_rfl) ?_
                             refine J.ret Tryd.f38 [.agg kvD17_6, .agg #[iv ((L.getD 7 tk0).gPlace_Line), iv ((L.getD 7 tk0).gPlace_Column)], iv 2] Tryd.func38 ⟨⟨⟨b1, 0, none⟩, by kernel_rfl, ldV_run (S144.nth 6 rfl) (by kernel_rfl)⟩, ⟨⟨b2, 0, none⟩, by kernel_rfl, ldV_run (S144.nth 5 rfl) (by kernel_rfl)⟩, by kernel_rfl, trivial⟩ ?_
                             refine hR _ _ ?_
                             have h0_ : ls9 L false bf = some (2, 7) := num_rng hll s8 (by omega) hg7 (.inl hf7)
                             have h_ : lineS L false bf = some (2, 7) := up9 h0_
                             obtain ⟨e1, ⟨e2, e3⟩, e4⟩ := rl_some h_
                             exact ⟨by rw [e1, e2, e3, e4]; rfl, S144.nil⟩
                           ·skip
                            refine J.head (.bool true) (congrArg Value.bool (by rw [fk26]; rfl)) ?_
                            have hg7 := fk26
                            refine J.run 2 K38_116 [(12, .pointer (some ⟨b14, 0, none⟩)), (5, .pointer (some ⟨b2, 0, none⟩)), (4, .pointer (some ⟨b1, 0, none⟩))] w91 (by kernel_rfl) ?_
                            refine J.drawPlan (fun w_ => Sep w [box b14 (tkE (L.getD 7 tk0)) 78, box b6 [iv rx1, iv rx2, iv rx3, iv 0, iv 0] 48, box b5 kvD17_3 3, box b4 kvD17_4 3, box b3 kvD17_1 9, box b1 kvD17_2 27] w_) [(0, true), (1, true), (2, true), (3, false), (4, false), (5, true)] S98 Tryd.mixed (by kernel_rfl) (planOK_of (T := [(0, some 62, 0), (0, some 63, 4096), (2, some 64, 9223372036854775808), (1, none, 4611686018427387920), (15, none, 18446744073709551648), (31, some 6, 0)]) (by kernel_rfl) (by kernel_rfl)) ?_
                            intro w135 S145
                            refine PB.mk (S145.erase 5) ?_
                            refine PL.take 0 62 (.agg kvD17_6) (fun _ _ => by kernel_rfl) ?_
                            refine PL.take 1 63 (.pointer (some ⟨b14, 2, none⟩)) (fun _ _ => by kernel_rfl) ?_
                            refine PL.takeOK 2 (fun w_ S_ => OK.ldBox S_ 0 64 39 2 (.agg #[iv ((L.getD 7 tk0).gPlace_Line), iv ((L.getD 7 tk0).gPlace_Column)]) (by kernel_rfl) rfl (by kernel_rfl)) rfl ?_
                            refine PL.stBox S145 6 27 0 (.agg kvD17_6) kvD17_2 [box b14 (tkE (L.getD 7 tk0)) 78, box b6 [iv rx1, iv rx2, iv rx3, iv 0, iv 0] 48, box b5 kvD17_3 3, box b4 kvD17_4 3, box b3 kvD17_1 9, box b2 [iv 0, iv 0] 39, box b1 kvD17_2 27] (by kernel_rfl) rfl (by kernel_rfl) (by kernel_rfl) rfl ?_
                            intro w136 S146
                            refine PB.mk (S146.erase 5) ?_
                            refine PL.stBox S146 5 39 0 (.agg #[iv ((L.getD 7 tk0).gPlace_Line), iv ((L.getD 7 tk0).gPlace_Column)]) [iv ((L.getD 7 tk0).gPlace_Line), iv ((L.getD 7 tk0).gPlace_Column)] [box b14 (tkE (L.getD 7 tk0)) 78, box b6 [iv rx1, iv rx2, iv rx3, iv 0, iv 0] 48, box b5 kvD17_3 3, box b4 kvD17_4 3, box b3 kvD17_1 9, box b2 [iv ((L.getD 7 tk0).gPlace_Line), iv ((L.getD 7 tk0).gPlace_Column)] 39, box b1 kvD17_2 27] (by kernel_rfl) rfl (by kernel_rfl) (by kernel_rfl) rfl ?_
                            intro w137 S147
                            refine PB.mk (S147.erase 5) ?_
                            refine PL.take 5 6 (iv 3) (fun _ _ => by kernel_rfl) ?_
                            refine PL.done ?_
                            refine J.run 0 (rRest K38_116) [(6, iv 3), (5, .pointer (some ⟨b2, 0, none⟩)), (4, .pointer (some ⟨b1, 0, none⟩))] w137 (by kernel_rfl) ?_
                            refine J.ret Tryd.f38 [.agg kvD17_6, .agg #[iv ((L.getD 7 tk0).gPlace_Line), iv ((L.getD 7 tk0).gPlace_Column)], iv 3] Tryd.func38 ⟨⟨⟨b1, 0, none⟩, by kernel_rfl, ldV_run (S147.nth 6 rfl) (by kernel_rfl)⟩, ⟨⟨b2, 0, none⟩, by kernel_rfl, ldV_run (S147.nth 5 rfl) (by kernel_rfl)⟩, by kernel_rfl, trivial⟩ ?_
                            refine hR _ _ ?_
                            have h0_ : ls9 L false bf = some (3, 7) := num_form hll s8 (by omega) hg7
                            have h_ : lineS L false bf = some (3, 7) := up9 h0_
                            obtain ⟨e1, ⟨e2, e3⟩, e4⟩ := rl_some h_
                            exact ⟨by rw [e1, e2, e3, e4]; rfl, S147.nil⟩
                     ·skip
                      refine J.head (.bool true) (congrArg Value.bool (by rw [fk20]; rfl)) ?_
                      have hf5 := fk20
                      refine J.run 20 K38_117 [(12, .pointer (some ⟨b12, 0, none⟩)), (5, .pointer (some ⟨b2, 0, none⟩)), (4, .pointer (some ⟨b1, 0, none⟩))] w69 (by kernel_rfl) ?_
                      refine J.drawPlan (fun w_ => Sep w [box b12 (tkE (L.getD 5 tk0)) 78, box b6 [iv rx1, iv rx2, iv 0, iv 0, iv 0] 48, box b5 kvD17_3 3, box b4 kvD17_4 3, box b3 kvD17_1 9, box b1 kvD17_2 27] w_) [(0, true), (1, true), (2, true), (3, false), (4, false), (5, true)] S74 Tryd.mixed (by kernel_rfl) (planOK_of (T := [(0, some 85, 0), (0, some 86, 4096), (2, some 87, 77371252455336267181195264), (1, none, 38685626227668133590597648), (15, none, 154742504910672534362390560), (31, some 6, 0)]) (by kernel_rfl) (by kernel_rfl)) ?_
                      intro w138 S148
                      refine PB.mk (S148.erase 5) ?_
                      refine PL.take 0 85 (.agg kvD17_6) (fun _ _ => by kernel_rfl) ?_
                      refine PL.take 1 86 (.pointer (some ⟨b12, 2, none⟩)) (fun _ _ => by kernel_rfl) ?_
                      refine PL.takeOK 2 (fun w_ S_ => OK.ldBox S_ 0 87 39 2 (.agg #[iv ((L.getD 5 tk0).gPlace_Line), iv ((L.getD 5 tk0).gPlace_Column)]) (by kernel_rfl) rfl (by kernel_rfl)) rfl ?_
                      refine PL.stBox S148 6 27 0 (.agg kvD17_6) kvD17_2 [box b12 (tkE (L.getD 5 tk0)) 78, box b6 [iv rx1, iv rx2, iv 0, iv 0, iv 0] 48, box b5 kvD17_3 3, box b4 kvD17_4 3, box b3 kvD17_1 9, box b2 [iv 0, iv 0] 39, box b1 kvD17_2 27] (by kernel_rfl) rfl (by kernel_rfl) (by kernel_rfl) rfl ?_
                      intro w139 S149
                      refine PB.mk (S149.erase 5) ?_
                      refine PL.stBox S149 5 39 0 (.agg #[iv ((L.getD 5 tk0).gPlace_Line), iv ((L.getD 5 tk0).gPlace_Column)]) [iv ((L.getD 5 tk0).gPlace_Line), iv ((L.getD 5 tk0).gPlace_Column)] [box b12 (tkE (L.getD 5 tk0)) 78, box b6 [iv rx1, iv rx2, iv 0, iv 0, iv 0] 48, box b5 kvD17_3 3, box b4 kvD17_4 3, box b3 kvD17_1 9, box b2 [iv ((L.getD 5 tk0).gPlace_Line), iv ((L.getD 5 tk0).gPlace_Column)] 39, box b1 kvD17_2 27] (by kernel_rfl) rfl (by kernel_rfl) (by kernel_rfl) rfl ?_
                      intro w140 S150
                      refine PB.mk (S150.erase 5) ?_
                      refine PL.take 5 6 (iv 2) (fun _ _ => by kernel_rfl) ?_
                      refine PL.done ?_
                      refine J.run 0 (rRest K38_117) [(6, iv 2), (5, .pointer (some ⟨b2, 0, none⟩)), (4, .pointer (some ⟨b1, 0, none⟩))] w140 (by kernel_rfl) ?_
                      refine J.ret Tryd.f38 [.agg kvD17_6, .agg #[iv ((L.getD 5 tk0).gPlace_Line), iv ((L.getD 5 tk0).gPlace_Column)], iv 2] Tryd.func38 ⟨⟨⟨b1, 0, none⟩, by kernel_rfl, ldV_run (S150.nth 6 rfl) (by kernel_rfl)⟩, ⟨⟨b2, 0, none⟩, by kernel_rfl, ldV_run (S150.nth 5 rfl) (by kernel_rfl)⟩, by kernel_rfl, trivial⟩ ?_
                      refine hR _ _ ?_
                      have h0_ : ls7 L false bf = some (2, 5) := num_rng hll s6 (by omega) hg5 (.inl hf5)
                      have h_ : lineS L false bf = some (2, 5) := up7 h0_
                      obtain ⟨e1, ⟨e2, e3⟩, e4⟩ := rl_some h_
                      exact ⟨by rw [e1, e2, e3, e4]; rfl, S150.nil⟩
                    ·skip
                     refine J.head (.bool true) (congrArg Value.bool (by rw [fk19]; rfl)) ?_
                     have hg5 := fk19
                     refine J.run 2 K38_118 [(12, .pointer (some ⟨b12, 0, none⟩)), (5, .pointer (some ⟨b2, 0, none⟩)), (4, .pointer (some ⟨b1, 0, none⟩))] w69 (by kernel_rfl) ?_
                     refine J.drawPlan (fun w_ => Sep w [box b12 (tkE (L.getD 5 tk0)) 78, box b6 [iv rx1, iv rx2, iv 0, iv 0, iv 0] 48, box b5 kvD17_3 3, box b4 kvD17_4 3, box b3 kvD17_1 9, box b1 kvD17_2 27] w_) [(0, true), (1, true), (2, true), (3, false), (4, false), (5, true)] S74 Tryd.mixed (by kernel_rfl) (planOK_of (T := [(0, some 62, 0), (0, some 63, 4096), (2, some 64, 9223372036854775808), (1, none, 4611686018427387920), (15, none, 18446744073709551648), (31, some 6, 0)]) (by kernel_rfl) (by kernel_rfl)) ?_
                     intro w141 S151
                     refine PB.mk (S151.erase 5) ?_
                     refine PL.take 0 62 (.agg kvD17_6) (fun _ _ => by kernel_rfl) ?_
                     refine PL.take 1 63 (.pointer (some ⟨b12, 2, none⟩)) (fun _ _ => by kernel_rfl) ?_
                     refine PL.takeOK 2 (fun w_ S_ => OK.ldBox S_ 0 64 39 2 (.agg #[iv ((L.getD 5 tk0).gPlace_Line), iv ((L.getD 5 tk0).gPlace_Column)]) (by kernel_rfl) rfl (by kernel_rfl)) rfl ?_
                     refine PL.stBox S151 6 27 0 (.agg kvD17_6) kvD17_2 [box b12 (tkE (L.getD 5 tk0)) 78, box b6 [iv rx1, iv rx2, iv 0, iv 0, iv 0] 48, box b5 kvD17_3 3, box b4 kvD17_4 3, box b3 kvD17_1 9, box b2 [iv 0, iv 0] 39, box b1 kvD17_2 27] (by kernel_rfl) rfl (by kernel_rfl) (by kernel_rfl) rfl ?_
                     intro w142 S152
                     refine PB.mk (S152.erase 5) ?_
                     refine PL.stBox S152 5 39 0 (.agg #[iv ((L.getD 5 tk0).gPlace_Line), iv ((L.getD 5 tk0).gPlace_Column)]) [iv ((L.getD 5 tk0).gPlace_Line), iv ((L.getD 5 tk0).gPlace_Column)] [box b12 (tkE (L.getD 5 tk0)) 78, box b6 [iv rx1, iv rx2, iv 0, iv 0, iv 0] 48, box b5 kvD17_3 3, box b4 kvD17_4 3, box b3 kvD17_1 9, box b2 [iv ((L.getD 5 tk0).gPlace_Line), iv ((L.getD 5 tk0).gPlace_Column)] 39, box b1 kvD17_2 27] (by kernel_rfl) rfl (by kernel_rfl) (by kernel_rfl) rfl ?_
                     intro w143 S153
                     refine PB.mk (S153.erase 5) ?_
                     refine PL.take 5 6 (iv 3) (fun _ _ => by kernel_rfl) ?_
                     refine PL.done ?_
                     refine J.run 0 (rRest K38_118) [(6, iv 3), (5, .pointer (some ⟨b2, 0, none⟩)), (4, .pointer (some ⟨b1, 0, none⟩))] w143 (by kernel_rfl) ?_
                     refine J.ret Tryd.f38 [.agg kvD17_6, .agg #[iv ((L.getD 5 tk0).gPlace_Line), iv ((L.getD 5 tk0).gPlace_Column)], iv 3] Tryd.func38 ⟨⟨⟨b1, 0, none⟩, by kernel_rfl, ldV_run (S153.nth 6 rfl) (by kernel_rfl)⟩, ⟨⟨b2, 0, none⟩, by kernel_rfl, ldV_run (S153.nth 5 rfl) (by kernel_rfl)⟩, by kernel_rfl, trivial⟩ ?_
                     refine hR _ _ ?_
                     have h0_ : ls7 L false bf = some (3, 5) := num_form hll s6 (by omega) hg5
                     have h_ : lineS L false bf = some (3, 5) := up7 h0_
                     obtain ⟨e1, ⟨e2, e3⟩, e4⟩ := rl_some h_
                     exact ⟨by rw [e1, e2, e3, e4]; rfl, S153.nil⟩
              ·skip
               refine J.head (.bool true) (congrArg Value.bool (by rw [fk13]; rfl)) ?_
               have hf3 := fk13
               refine J.run 20 K38_119 [(12, .pointer (some ⟨b10, 0, none⟩)), (5, .pointer (some ⟨b2, 0, none⟩)), (4, .pointer (some ⟨b1, 0, none⟩))] w47 (by kernel_rfl) ?_
               refine J.drawPlan (fun w_ => Sep w [box b10 (tkE (L.getD 3 tk0)) 78, box b6 [iv rx1, iv 0, iv 0, iv 0, iv 0] 48, box b5 kvD17_3 3, box b4 kvD17_4 3, box b3 kvD17_1 9, box b1 kvD17_2 27] w_) [(0, true), (1, true), (2, true), (3, false), (4, false), (5, true)] S50 Tryd.mixed (by kernel_rfl) (planOK_of (T := [(0, some 85, 0), (0, some 86, 4096), (2, some 87, 77371252455336267181195264), (1, none, 38685626227668133590597648), (15, none, 154742504910672534362390560), (31, some 6, 0)]) (by kernel_rfl) (by kernel_rfl)) ?_
               intro w144 S154
               refine PB.mk (S154.erase 5) ?_
               refine PL.take 0 85 (.agg kvD17_6) (fun _ _ => by kernel_rfl) ?_
               refine PL.take 1 86 (.pointer (some ⟨b10, 2, none⟩)) (fun _ _ => by kernel_rfl) ?_
               refine PL.takeOK 2 (fun w_ S_ => OK.ldBox S_ 0 87 39 2 (.agg #[iv ((L.getD 3 tk0).gPlace_Line), iv ((L.getD 3 tk0).gPlace_Column)]) (by kernel_rfl) rfl (by kernel_rfl)) rfl ?_
               refine PL.stBox S154 6 27 0 (.agg kvD17_6) kvD17_2 [box b10 (tkE (L.getD 3 tk0)) 78, box b6 [iv rx1, iv 0, iv 0, iv 0, iv 0] 48, box b5 kvD17_3 3, box b4 kvD17_4 3, box b3 kvD17_1 9, box b2 [iv 0, iv 0] 39, box b1 kvD17_2 27] (by kernel_rfl) rfl (by kernel_rfl) (by kernel_rfl) rfl ?_
               intro w145 S155
               refine PB.mk (S155.erase 5) ?_
               refine PL.stBox S155 5 39 0 (.agg #[iv ((L.getD 3 tk0).gPlace_Line), iv ((L.getD 3 tk0).gPlace_Column)]) [iv ((L.getD 3 tk0).gPlace_Line), iv ((L.getD 3 tk0).gPlace_Column)] [box b10 (tkE (L.getD 3 tk0)) 78, box b6 [iv rx1, iv 0, iv 0, iv 0, iv 0] 48, box b5 kvD17_3 3, box b4 kvD17_4 3, box b3 kvD17_1 9, box b2 [iv ((L.getD 3 tk0).gPlace_Line), iv ((L.getD 3 tk0).gPlace_Column)] 39, box b1 kvD17_2 27] (by kernel_rfl) rfl (by kernel_rfl) (by kernel_rfl) rfl ?_
               intro w146 S156
               refine PB.mk (S156.erase 5) ?_
               refine PL.take 5 6 (iv 2) (fun _ _ => by kernel_rfl) ?_
               refine PL.done ?_
               refine J.run 0 (rRest K38_119) [(6, iv 2), (5, .pointer (some ⟨b2, 0, none⟩)), (4, .pointer (some ⟨b1, 0, none⟩))] w146 (by kernel_rfl) ?_
               refine J.ret Tryd.f38 [.agg kvD17_6, .agg #[iv ((L.getD 3 tk0).gPlace_Line), iv ((L.getD 3 tk0).gPlace_Column)], iv 2] Tryd.func38 ⟨⟨⟨b1, 0, none⟩, by kernel_rfl, ldV_run (S156.nth 6 rfl) (by kernel_rfl)⟩, ⟨⟨b2, 0, none⟩, by kernel_rfl, ldV_run (S156.nth 5 rfl) (by kernel_rfl)⟩, by kernel_rfl, trivial⟩ ?_
               refine hR _ _ ?_
               have h0_ : ls5 L false bf = some (2, 3) := num_rng hll s4 (by omega) hg3 (.inl hf3)
               have h_ : lineS L false bf = some (2, 3) := up5 h0_
               obtain ⟨e1, ⟨e2, e3⟩, e4⟩ := rl_some h_
               exact ⟨by rw [e1, e2, e3, e4]; rfl, S156.nil⟩
             ·skip
              refine J.head (.bool true) (congrArg Value.bool (by rw [fk12]; rfl)) ?_
              have hg3 := fk12
              refine J.run 2 K38_120 [(12, .pointer (some ⟨b10, 0, none⟩)), (5, .pointer (some ⟨b2, 0, none⟩)), (4, .pointer (some ⟨b1, 0, none⟩))] w47 (by kernel_rfl) ?_
              refine J.drawPlan (fun w_ => Sep w [box b10 (tkE (L.getD 3 tk0)) 78, box b6 [iv rx1, iv 0, iv 0, iv 0, iv 0] 48, box b5 kvD17_3 3, box b4 kvD17_4 3, box b3 kvD17_1 9, box b1 kvD17_2 27] w_) [(0, true), (1, true), (2, true), (3, false), (4, false), (5, true)] S50 Tryd.mixed (by kernel_rfl) (planOK_of (T := [(0, some 62, 0), (0, some 63, 4096), (2, some 64, 9223372036854775808), (1, none, 4611686018427387920), (15, none, 18446744073709551648), (31, some 6, 0)]) (by kernel_rfl) (by kernel_rfl)) ?_
              intro w147 S157
              refine PB.mk (S157.erase 5) ?_
              refine PL.take 0 62 (.agg kvD17_6) (fun _ _ => by kernel_rfl) ?_
              refine PL.take 1 63 (.pointer (some ⟨b10, 2, none⟩)) (fun _ _ => by kernel_rfl) ?_
              refine PL.takeOK 2 (fun w_ S_ => OK.ldBox S_ 0 64 39 2 (.agg #[iv ((L.getD 3 tk0).gPlace_Line), iv ((L.getD 3 tk0).gPlace_Column)]) (by kernel_rfl) rfl (by kernel_rfl)) rfl ?_
              refine PL.stBox S157 6 27 0 (.agg kvD17_6) kvD17_2 [box b10 (tkE (L.getD 3 tk0)) 78, box b6 [iv rx1, iv 0, iv 0, iv 0, iv 0] 48, box b5 kvD17_3 3, box b4 kvD17_4 3, box b3 kvD17_1 9, box b2 [iv 0, iv 0] 39, box b1 kvD17_2 27] (by kernel_rfl) rfl (by kernel_rfl) (by kernel_rfl) rfl ?_
              intro w148 S158
              refine PB.mk (S158.erase 5) ?_
              refine PL.stBox S158 5 39 0 (.agg #[iv ((L.getD 3 tk0).gPlace_Line), iv ((L.getD 3 tk0).gPlace_Column)]) [iv ((L.getD 3 tk0).gPlace_Line), iv ((L.getD 3 tk0).gPlace_Column)] [box b10 (tkE (L.getD 3 tk0)) 78, box b6 [iv rx1, iv 0, iv 0, iv 0, iv 0] 48, box b5 kvD17_3 3, box b4 kvD17_4 3, box b3 kvD17_1 9, box b2 [iv ((L.getD 3 tk0).gPlace_Line), iv ((L.getD 3 tk0).gPlace_Column)] 39, box b1 kvD17_2 27] (by kernel_rfl) rfl (by kernel_rfl) (by kernel_rfl) rfl ?_
              intro w149 S159
              refine PB.mk (S159.erase 5) ?_
              refine PL.take 5 6 (iv 3) (fun _ _ => by kernel_rfl) ?_
              refine PL.done ?_
              refine J.run 0 (rRest K38_120) [(6, iv 3), (5, .pointer (some ⟨b2, 0, none⟩)), (4, .pointer (some ⟨b1, 0, none⟩))] w149 (by kernel_rfl) ?_
              refine J.ret Tryd.f38 [.agg kvD17_6, .agg #[iv ((L.getD 3 tk0).gPlace_Line), iv ((L.getD 3 tk0).gPlace_Column)], iv 3] Tryd.func38 ⟨⟨⟨b1, 0, none⟩, by kernel_rfl, ldV_run (S159.nth 6 rfl) (by kernel_rfl)⟩, ⟨⟨b2, 0, none⟩, by kernel_rfl, ldV_run (S159.nth 5 rfl) (by kernel_rfl)⟩, by kernel_rfl, trivial⟩ ?_
              refine hR _ _ ?_
              have h0_ : ls5 L false bf = some (3, 3) := num_form hll s4 (by omega) hg3
              have h_ : lineS L false bf = some (3, 3) := up5 h0_
              obtain ⟨e1, ⟨e2, e3⟩, e4⟩ := rl_some h_
              exact ⟨by rw [e1, e2, e3, e4]; rfl, S159.nil⟩
        refine J.run 7 K38_121 [(93, .bool (decide (bf < 0))), (90, .bool true), (13, iv rx1), (12, .pointer (some ⟨b8, 0, none⟩)), (11, iv 1), (10, .pointer (some ⟨b6, 0, none⟩)), (9, .slice (some ⟨b5, 0, none⟩) 5 5), (8, .slice (some ⟨b4, 0, none⟩) 5 5), (7, .slice (some ⟨b3, 0, none⟩) 5 5), (5, .pointer (some ⟨b2, 0, none⟩)), (4, .pointer (some ⟨b1, 0, none⟩)), (0, .slice a n c), (1, iv bf)] w21 (by kernel_rfl) ?_
        by_cases fk38 : bf < 0
        ·skip
         refine J.head (.bool true) (congrArg Value.bool (decide_eq_true fk38)) ?_
         refine J.run 4 K38_122 [(97, .bool (rx1 != 0)), (90, .bool true), (13, iv rx1), (12, .pointer (some ⟨b8, 0, none⟩)), (11, iv 1), (10, .pointer (some ⟨b6, 0, none⟩)), (9, .slice (some ⟨b5, 0, none⟩) 5 5), (8, .slice (some ⟨b4, 0, none⟩) 5 5), (7, .slice (some ⟨b3, 0, none⟩) 5 5), (5, .pointer (some ⟨b2, 0, none⟩)), (4, .pointer (some ⟨b1, 0, none⟩)), (0, .slice a n c), (1, iv bf)] w21 (by kernel_rfl) ?_
         by_cases fk39 : rx1 = 0
         ·skip
          refine J.head (.bool false) (congrArg Value.bool (bne_eq_false_iff_eq.2 fk39)) ?_
          refine J.run 3 K38_123 [(100, .bool (decide (bf ≥ 0))), (97, .bool false), (90, .bool true), (13, iv rx1), (12, .pointer (some ⟨b8, 0, none⟩)), (11, iv 1), (10, .pointer (some ⟨b6, 0, none⟩)), (9, .slice (some ⟨b5, 0, none⟩) 5 5), (8, .slice (some ⟨b4, 0, none⟩) 5 5), (7, .slice (some ⟨b3, 0, none⟩) 5 5), (5, .pointer (some ⟨b2, 0, none⟩)), (4, .pointer (some ⟨b1, 0, none⟩)), (0, .slice a n c), (1, iv bf)] w21 (by kernel_rfl) ?_
          by_cases fk40 : bf ≥ 0
          ·skip
           refine J.head (.bool true) (congrArg Value.bool (decide_eq_true fk40)) ?_
           refine J.run 7 K38_24 [(13, iv rx1), (12, .pointer (some ⟨b8, 0, none⟩)), (11, iv 1), (10, .pointer (some ⟨b6, 0, none⟩)), (9, .slice (some ⟨b5, 0, none⟩) 5 5), (8, .slice (some ⟨b4, 0, none⟩) 5 5), (7, .slice (some ⟨b3, 0, none⟩) 5 5), (5, .pointer (some ⟨b2, 0, none⟩)), (4, .pointer (some ⟨b1, 0, none⟩)), (0, .slice a n c), (1, iv bf), (106, .bool (decide (rx1 ≤ bf)))] w21 (by kernel_rfl) ?_
           exact X1 (decide (rx1 ≤ bf)) w21 ((by unfold timeB; first | (rw [if_pos (by omega)] <;> first | rfl | exact (decide_eq_true (by omega)).symm | exact (decide_eq_false (by omega)).symm | exact bneq_dec _ _) | (rw [if_neg (by omega)] <;> first | rfl | exact (decide_eq_true (by omega)).symm | exact (decide_eq_false (by omega)).symm))) S22
          ·skip
           refine J.head (.bool false) (congrArg Value.bool (decide_eq_false fk40)) ?_
           refine J.run 7 K38_24 [(13, iv rx1), (12, .pointer (some ⟨b8, 0, none⟩)), (11, iv 1), (10, .pointer (some ⟨b6, 0, none⟩)), (9, .slice (some ⟨b5, 0, none⟩) 5 5), (8, .slice (some ⟨b4, 0, none⟩) 5 5), (7, .slice (some ⟨b3, 0, none⟩) 5 5), (5, .pointer (some ⟨b2, 0, none⟩)), (4, .pointer (some ⟨b1, 0, none⟩)), (0, .slice a n c), (1, iv bf), (106, .bool false)] w21 (by kernel_rfl) ?_
           exact X1 false w21 ((by unfold timeB; first | (rw [if_pos (by omega)] <;> first | rfl | exact (decide_eq_true (by omega)).symm | exact (decide_eq_false (by omega)).symm | exact bneq_dec _ _) | (rw [if_neg (by omega)] <;> first | rfl | exact (decide_eq_true (by omega)).symm | exact (decide_eq_false (by omega)).symm))) S22
         ·skip
          refine J.head (.bool true) (congrArg Value.bool (bne_iff_ne.2 fk39)) ?_
          refine J.run 10 K38_24 [(13, iv rx1), (12, .pointer (some ⟨b8, 0, none⟩)), (11, iv 1), (10, .pointer (some ⟨b6, 0, none⟩)), (9, .slice (some ⟨b5, 0, none⟩) 5 5), (8, .slice (some ⟨b4, 0, none⟩) 5 5), (7, .slice (some ⟨b3, 0, none⟩) 5 5), (5, .pointer (some ⟨b2, 0, none⟩)), (4, .pointer (some ⟨b1, 0, none⟩)), (0, .slice a n c), (1, iv bf), (106, .bool true)] w21 (by kernel_rfl) ?_
          exact X1 true w21 ((by unfold timeB; first | (rw [if_pos (by omega)] <;> first | rfl | exact (decide_eq_true (by omega)).symm | exact (decide_eq_false (by omega)).symm | exact bneq_dec _ _) | (rw [if_neg (by omega)] <;> first | rfl | exact (decide_eq_true (by omega)).symm | exact (decide_eq_false (by omega)).symm))) S22
        ·skip
         refine J.head (.bool false) (congrArg Value.bool (decide_eq_false fk38)) ?_
         refine J.run 7 K38_124 [(100, .bool (decide (bf ≥ 0))), (97, .bool false), (90, .bool true), (13, iv rx1), (12, .pointer (some ⟨b8, 0, none⟩)), (11, iv 1), (10, .pointer (some ⟨b6, 0, none⟩)), (9, .slice (some ⟨b5, 0, none⟩) 5 5), (8, .slice (some ⟨b4, 0, none⟩) 5 5), (7, .slice (some ⟨b3, 0, none⟩) 5 5), (5, .pointer (some ⟨b2, 0, none⟩)), (4, .pointer (some ⟨b1, 0, none⟩)), (0, .slice a n c), (1, iv bf)] w21 (by kernel_rfl) ?_
         by_cases fk41 : bf ≥ 0
         ·skip
          refine J.head (.bool true) (congrArg Value.bool (decide_eq_true fk41)) ?_
          refine J.run 7 K38_24 [(13, iv rx1), (12, .pointer (some ⟨b8, 0, none⟩)), (11, iv 1), (10, .pointer (some ⟨b6, 0, none⟩)), (9, .slice (some ⟨b5, 0, none⟩) 5 5), (8, .slice (some ⟨b4, 0, none⟩) 5 5), (7, .slice (some ⟨b3, 0, none⟩) 5 5), (5, .pointer (some ⟨b2, 0, none⟩)), (4, .pointer (some ⟨b1, 0, none⟩)), (0, .slice a n c), (1, iv bf), (106, .bool (decide (rx1 ≤ bf)))] w21 (by kernel_rfl) ?_
          exact X1 (decide (rx1 ≤ bf)) w21 ((by unfold timeB; first | (rw [if_pos (by omega)] <;> first | rfl | exact (decide_eq_true (by omega)).symm | exact (decide_eq_false (by omega)).symm | exact bneq_dec _ _) | (rw [if_neg (by omega)] <;> first | rfl | exact (decide_eq_true (by omega)).symm | exact (decide_eq_false (by omega)).symm))) S22
         ·skip
          refine J.head (.bool false) (congrArg Value.bool (decide_eq_false fk41)) ?_
          refine J.run 7 K38_24 [(13, iv rx1), (12, .pointer (some ⟨b8, 0, none⟩)), (11, iv 1), (10, .pointer (some ⟨b6, 0, none⟩)), (9, .slice (some ⟨b5, 0, none⟩) 5 5), (8, .slice (some ⟨b4, 0, none⟩) 5 5), (7, .slice (some ⟨b3, 0, none⟩) 5 5), (5, .pointer (some ⟨b2, 0, none⟩)), (4, .pointer (some ⟨b1, 0, none⟩)), (0, .slice a n c), (1, iv bf), (106, .bool false)] w21 (by kernel_rfl) ?_
          exact X1 false w21 ((by unfold timeB; first | (rw [if_pos (by omega)] <;> first | rfl | exact (decide_eq_true (by omega)).symm | exact (decide_eq_false (by omega)).symm | exact bneq_dec _ _) | (rw [if_neg (by omega)] <;> first | rfl | exact (decide_eq_true (by omega)).symm | exact (decide_eq_false (by omega)).symm))) S22
     ·skip
      refine J.head (.bool true) (congrArg Value.bool (by rw [fk5]; rfl)) ?_
      have hf1 := fk5
      refine J.run 20 K38_125 [(12, .pointer (some ⟨b8, 0, none⟩)), (5, .pointer (some ⟨b2, 0, none⟩)), (4, .pointer (some ⟨b1, 0, none⟩))] w21 (by kernel_rfl) ?_
      refine J.drawPlan (fun w_ => Sep w [box b8 (tkE (L.getD 1 tk0)) 78, box b6 kvD17_2 48, box b5 kvD17_3 3, box b4 kvD17_4 3, box b3 kvD17_1 9, box b1 kvD17_2 27] w_) [(0, true), (1, true), (2, true), (3, false), (4, false), (5, true)] S22 Tryd.mixed (by kernel_rfl) (planOK_of (T := [(0, some 85, 0), (0, some 86, 4096), (2, some 87, 77371252455336267181195264), (1, none, 38685626227668133590597648), (15, none, 154742504910672534362390560), (31, some 6, 0)]) (by kernel_rfl) (by kernel_rfl)) ?_
      intro w150 S160
      refine PB.mk (S160.erase 5) ?_
      refine PL.take 0 85 (.agg kvD17_6) (fun _ _ => by kernel_rfl) ?_
      refine PL.take 1 86 (.pointer (some ⟨b8, 2, none⟩)) (fun _ _ => by kernel_rfl) ?_
      refine PL.takeOK 2 (fun w_ S_ => OK.ldBox S_ 0 87 39 2 (.agg #[iv ((L.getD 1 tk0).gPlace_Line), iv ((L.getD 1 tk0).gPlace_Column)]) (by kernel_rfl) rfl (by kernel_rfl)) rfl ?_
      refine PL.stBox S160 6 27 0 (.agg kvD17_6) kvD17_2 [box b8 (tkE (L.getD 1 tk0)) 78, box b6 kvD17_2 48, box b5 kvD17_3 3, box b4 kvD17_4 3, box b3 kvD17_1 9, box b2 [iv 0, iv 0] 39, box b1 kvD17_2 27] (by kernel_rfl) rfl (by kernel_rfl) (by kernel_rfl) rfl ?_
      intro w151 S161
      refine PB.mk (S161.erase 5) ?_
      refine PL.stBox S161 5 39 0 (.agg #[iv ((L.getD 1 tk0).gPlace_Line), iv ((L.getD 1 tk0).gPlace_Column)]) [iv ((L.getD 1 tk0).gPlace_Line), iv ((L.getD 1 tk0).gPlace_Column)] [box b8 (tkE (L.getD 1 tk0)) 78, box b6 kvD17_2 48, box b5 kvD17_3 3, box b4 kvD17_4 3, box b3 kvD17_1 9, box b2 [iv ((L.getD 1 tk0).gPlace_Line), iv ((L.getD 1 tk0).gPlace_Column)] 39, box b1 kvD17_2 27] (by kernel_rfl) rfl (by kernel_rfl) (by kernel_rfl) rfl ?_
      intro w152 S162
      refine PB.mk (S162.erase 5) ?_
      refine PL.take 5 6 (iv 2) (fun _ _ => by kernel_rfl) ?_
      refine PL.done ?_
      refine J.run 0 (rRest K38_125) [(6, iv 2), (5, .pointer (some ⟨b2, 0, none⟩)), (4, .pointer (some ⟨b1, 0, none⟩))] w152 (by kernel_rfl) ?_
      refine J.ret Tryd.f38 [.agg kvD17_6, .agg #[iv ((L.getD 1 tk0).gPlace_Line), iv ((L.getD 1 tk0).gPlace_Column)], iv 2] Tryd.func38 ⟨⟨⟨b1, 0, none⟩, by kernel_rfl, ldV_run (S162.nth 6 rfl) (by kernel_rfl)⟩, ⟨⟨b2, 0, none⟩, by kernel_rfl, ldV_run (S162.nth 5 rfl) (by kernel_rfl)⟩, by kernel_rfl, trivial⟩ ?_
      refine hR _ _ ?_
      have h0_ : ls2 L false = some (2, 1) := num_rng hll s1 (by omega) hg1 (.inl hf1)
      have h_ : lineS L false bf = some (2, 1) := up2 h0_
      obtain ⟨e1, ⟨e2, e3⟩, e4⟩ := rl_some h_
      exact ⟨by rw [e1, e2, e3, e4]; rfl, S162.nil⟩
    ·skip
     refine J.head (.bool true) (congrArg Value.bool (by rw [fk4]; rfl)) ?_
     have hg1 := fk4
     refine J.run 2 K38_126 [(12, .pointer (some ⟨b8, 0, none⟩)), (5, .pointer (some ⟨b2, 0, none⟩)), (4, .pointer (some ⟨b1, 0, none⟩))] w21 (by kernel_rfl) ?_
     refine J.drawPlan (fun w_ => Sep w [box b8 (tkE (L.getD 1 tk0)) 78, box b6 kvD17_2 48, box b5 kvD17_3 3, box b4 kvD17_4 3, box b3 kvD17_1 9, box b1 kvD17_2 27] w_) [(0, true), (1, true), (2, true), (3, false), (4, false), (5, true)] S22 Tryd.mixed (by kernel_rfl) (planOK_of (T := [(0, some 62, 0), (0, some 63, 4096), (2, some 64, 9223372036854775808), (1, none, 4611686018427387920), (15, none, 18446744073709551648), (31, some 6, 0)]) (by kernel_rfl) (by kernel_rfl)) ?_
     intro w153 S163
     refine PB.mk (S163.erase 5) ?_
     refine PL.take 0 62 (.agg kvD17_6) (fun _ _ => by kernel_rfl) ?_
     refine PL.take 1 63 (.pointer (some ⟨b8, 2, none⟩)) (fun _ _ => by kernel_rfl) ?_
     refine PL.takeOK 2 (fun w_ S_ => OK.ldBox S_ 0 64 39 2 (.agg #[iv ((L.getD 1 tk0).gPlace_Line), iv ((L.getD 1 tk0).gPlace_Column)]) (by kernel_rfl) rfl (by kernel_rfl)) rfl ?_
     refine PL.stBox S163 6 27 0 (.agg kvD17_6) kvD17_2 [box b8 (tkE (L.getD 1 tk0)) 78, box b6 kvD17_2 48, box b5 kvD17_3 3, box b4 kvD17_4 3, box b3 kvD17_1 9, box b2 [iv 0, iv 0] 39, box b1 kvD17_2 27] (by kernel_rfl) rfl (by kernel_rfl) (by kernel_rfl) rfl ?_
     intro w154 S164
     refine PB.mk (S164.erase 5) ?_
     refine PL.stBox S164 5 39 0 (.agg #[iv ((L.getD 1 tk0).gPlace_Line), iv ((L.getD 1 tk0).gPlace_Column)]) [iv ((L.getD 1 tk0).gPlace_Line), iv ((L.getD 1 tk0).gPlace_Column)] [box b8 (tkE (L.getD 1 tk0)) 78, box b6 kvD17_2 48, box b5 kvD17_3 3, box b4 kvD17_4 3, box b3 kvD17_1 9, box b2 [iv ((L.getD 1 tk0).gPlace_Line), iv ((L.getD 1 tk0).gPlace_Column)] 39, box b1 kvD17_2 27] (by kernel_rfl) rfl (by kernel_rfl) (by kernel_rfl) rfl ?_
     intro w155 S165
     refine PB.mk (S165.erase 5) ?_
     refine PL.take 5 6 (iv 3) (fun _ _ => by kernel_rfl) ?_
     refine PL.done ?_
     refine J.run 0 (rRest K38_126) [(6, iv 3), (5, .pointer (some ⟨b2, 0, none⟩)), (4, .pointer (some ⟨b1, 0, none⟩))] w155 (by kernel_rfl) ?_
     refine J.ret Tryd.f38 [.agg kvD17_6, .agg #[iv ((L.getD 1 tk0).gPlace_Line), iv ((L.getD 1 tk0).gPlace_Column)], iv 3] Tryd.func38 ⟨⟨⟨b1, 0, none⟩, by kernel_rfl, ldV_run (S165.nth 6 rfl) (by kernel_rfl)⟩, ⟨⟨b2, 0, none⟩, by kernel_rfl, ldV_run (S165.nth 5 rfl) (by kernel_rfl)⟩, by kernel_rfl, trivial⟩ ?_
     refine hR _ _ ?_
     have h0_ : ls2 L false = some (3, 1) := num_form hll s1 (by omega) hg1
     have h_ : lineS L false bf = some (3, 1) := up2 h0_
     obtain ⟨e1, ⟨e2, e3⟩, e4⟩ := rl_some h_
     exact ⟨by rw [e1, e2, e3, e4]; rfl, S165.nil⟩

end Go.Proofs.YthhdaackhfffiaaDoor

