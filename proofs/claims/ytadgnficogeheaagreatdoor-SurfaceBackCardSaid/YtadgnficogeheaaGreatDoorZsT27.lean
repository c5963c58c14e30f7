/- Walks of functions of this seat, printed by a program over the engine. Conditions: as each theorem says. -/
import Derived.Test.YtadgnficogeheaaGreatDoorZsT26
namespace Go.Proofs.YtadgnficogeheaaGreatDoor
noncomputable section
open Go.Eng Go.RowKit
set_option linter.unusedSimpArgs false
set_option linter.unusedVariables false
theorem hb3 : HasBody Tryz.prog 3 := fun _ _ => by kernel_rfl
def K3_0 := adv 2 [] (bodyOf Tryz.f3)
def K3_1 := adv 5 [] (popK K3_0)
def K3_2 := adv 7 [false] (popK K3_1)
def K3_3 := adv 2 [] (popK (popK K3_2))
def K3_4 := adv 5 [] K3_3
def K3_5 := adv 5 [true] K3_4
def K3_6 := adv 6 [false] K3_4
def K3_7 := adv 3 [] (popK K3_6)
def K3_8 := adv 3 [] (popK (popK K3_7))
def K3_9 := List.drop 1 K3_8
def K3_10 := adv 4 [false] K3_9
def K3_11 := adv 5 [] (popK (popK K3_10))
def K3_12 := adv 2 [] (popK (popK K3_11))
def K3_13 := adv 5 [false] K3_12
def K3_14 := adv 3 [] (popK K3_13)
def K3_15 := adv 9 [] (popK (popK K3_14))
def K3_16 := adv 7 [true] K3_15
def K3_17 := adv 8 [false] K3_15
def K3_18 := adv 6 [false] (popK (popK (popK K3_17)))
def K3_19 := adv 2 [] (rRest K3_18)
def K3_20 := adv 3 [] (popK K3_19)
def K3_21 := adv 3 [] (popK K3_20)
def K3_22 := adv 8 [] (popK (popK K3_21))
def K3_23 := adv 4 [false] K3_22
def K3_24 := adv 3 [false] (rRest K3_23)
def K3_25 := List.drop 1 K3_24
def K3_26 := adv 1 [] K3_25
def K3_27 := adv 4 [] K3_24
def K3_28 := adv 2 [] K3_27
def K3_29 := adv 2 [] (popK K3_28)
def K3_30 := adv 3 [] (popK (popK K3_29))
def K3_31 := adv 2 [] K3_30
def K3_32 := adv 1 [] K3_31
def K3_33 := adv 3 [] (popK K3_32)
def K3_34 := adv 2 [] K3_33
def K3_35 := adv 2 [] (popK K3_34)
def K3_36 := adv 4 [] (popK (popK K3_35))
def K3_37 := adv 3 [] K3_36
def K3_38 := adv 2 [] K3_37
def K3_39 := adv 2 [] (popK K3_38)
def K3_40 := adv 4 [] (popK (popK K3_39))
def K3_41 := adv 2 [] K3_40
def K3_42 := adv 1 [] K3_41
def K3_43 := adv 3 [] (popK K3_42)
def K3_44 := adv 2 [] K3_43
def K3_45 := adv 2 [] (popK K3_44)
def K3_46 := adv 13 [] K3_37
def K3_47 := adv 1 [] K3_46
def K3_48 := adv 3 [] (popK K3_47)
def K3_49 := adv 2 [] K3_48
def K3_50 := adv 2 [] (popK K3_49)
def K3_51 := adv 14 [] K3_33
def K3_52 := adv 2 [] K3_51
def K3_53 := adv 2 [] (popK K3_52)
def K3_54 := adv 4 [] (popK (popK K3_53))
def K3_55 := adv 2 [] K3_54
def K3_56 := adv 1 [] K3_55
def K3_57 := adv 3 [] (popK K3_56)
def K3_58 := adv 2 [] K3_57
def K3_59 := adv 2 [] (popK K3_58)
def K3_60 := adv 13 [] K3_51
def K3_61 := adv 1 [] K3_60
def K3_62 := adv 3 [] (popK K3_61)
def K3_63 := adv 2 [] K3_62
def K3_64 := adv 2 [] (popK K3_63)
def K3_65 := adv 12 [] K3_27
def K3_66 := adv 1 [] K3_65
def K3_67 := adv 3 [] (popK K3_66)
def K3_68 := adv 2 [] K3_67
def K3_69 := adv 2 [] (popK K3_68)
def K3_70 := adv 4 [] (popK (popK K3_69))
def K3_71 := adv 3 [] K3_70
def K3_72 := adv 2 [] K3_71
def K3_73 := adv 2 [] (popK K3_72)
def K3_74 := adv 4 [] (popK (popK K3_73))
def K3_75 := adv 2 [] K3_74
def K3_76 := adv 1 [] K3_75
def K3_77 := adv 3 [] (popK K3_76)
def K3_78 := adv 2 [] K3_77
def K3_79 := adv 2 [] (popK K3_78)
def K3_80 := adv 13 [] K3_71
def K3_81 := adv 1 [] K3_80
def K3_82 := adv 3 [] (popK K3_81)
def K3_83 := adv 2 [] K3_82
def K3_84 := adv 2 [] (popK K3_83)
def K3_85 := adv 14 [] K3_67
def K3_86 := adv 2 [] K3_85
def K3_87 := adv 2 [] (popK K3_86)
def K3_88 := adv 4 [] (popK (popK K3_87))
def K3_89 := adv 2 [] K3_88
def K3_90 := adv 1 [] K3_89
def K3_91 := adv 3 [] (popK K3_90)
def K3_92 := adv 2 [] K3_91
def K3_93 := adv 2 [] (popK K3_92)
def K3_94 := adv 13 [] K3_85
def K3_95 := adv 1 [] K3_94
def K3_96 := adv 3 [] (popK K3_95)
def K3_97 := adv 2 [] K3_96
def K3_98 := adv 2 [] (popK K3_97)
def K3_99 := adv 6 [true] K3_22
def K3_100 := adv 3 [] K3_99
def K3_101 := adv 6 [] K3_100
def K3_102 := adv 6 [] K3_100
def K3_103 := adv 5 [true] K3_12
def K3_104 := adv 2 [] K3_103
def K3_105 := adv 4 [] K3_8
def K3_106 := adv 2 [] (popK (popK K3_105))
def K3_107 := adv 10 [true] K3_3
set_option maxRecDepth 20000 in
set_option maxHeartbeats 20000000 in
theorem lawback_any (m : Mp) (i j z x y : Int) (s : ByteArray) (w : World) (hm : mpQ w m) (hi : 0 ≤ i ∧ i ≤ 255) (hj : 0 ≤ j ∧ j ≤ 255) (hs : s.size ≤ 9223372036854775807) (hW : TabW w) : Ret Tryz.prog 3 #[.agg #[.slice m.gX_a m.gX_n m.gX_c, .slice m.gY_a m.gY_n m.gY_c, .slice m.gZ_a m.gZ_n m.gZ_c], .int .u8 i, .int .u8 j, iv z, iv x, iv y, .string s] w (fun v w' => v = .bool true ∧ Sep w [] w') := by
 have S0 := Sep.refl w
 refine Ret.named fun R hR => ?_
 refine Ret.of_J (N := 194) [(0, .agg #[.slice m.gX_a m.gX_n m.gX_c, .slice m.gY_a m.gY_n m.gY_c, .slice m.gZ_a m.gZ_n m.gZ_c]), (1, .int .u8 i), (2, .int .u8 j), (3, iv z), (4, iv x), (5, iv y), (6, .string s)] Tryz.func3 rfl rfl (Nat.le_of_ble_eq_true (by kernel_rfl)) (by kernel_rfl) ?_
 obtain ⟨q1, q2, q3, q4, q5, q6, q7, q8, q9, _⟩ := id hm
 have ql1 := q2.len_eq
 have ql2 := q5.len_eq
 have ql3 := q8.len_eq
 refine J.run 2 K3_0 [(0, .agg #[.slice m.gX_a m.gX_n m.gX_c, .slice m.gY_a m.gY_n m.gY_c, .slice m.gZ_a m.gZ_n m.gZ_c]), (1, .int .u8 i), (2, .int .u8 j), (3, iv z), (4, iv x), (5, iv y), (6, .string s)] w (by kernel_rfl) ?_
 refine J.new S0 7 [.slice m.gX_a m.gX_n m.gX_c, .slice m.gY_a m.gY_n m.gY_c, .slice m.gZ_a m.gZ_n m.gZ_c] 25 (by kernel_rfl) ?_
 intro b1 w1 S1
 refine J.run 5 K3_1 [(7, .pointer (some ⟨b1, 0, none⟩)), (1, .int .u8 i), (2, .int .u8 j), (3, iv z), (4, iv x), (5, iv y), (6, .string s)] w1 (by kernel_rfl) ?_
 refine J.callF 25 4 #[] hb4 (by kernel_rfl) (awake_any  _) ?_
 rintro _ w2 ⟨rfl, T1⟩
 have S2 : Sep w [box b1 [.slice m.gX_a m.gX_n m.gX_c, .slice m.gY_a m.gY_n m.gY_c, .slice m.gZ_a m.gZ_n m.gZ_c] 25] w2 := S1.trans T1
 clear T1 S1
 refine J.run 7 K3_2 [(7, .pointer (some ⟨b1, 0, none⟩)), (1, .int .u8 i), (2, .int .u8 j), (3, iv z), (4, iv x), (5, iv y), (6, .string s)] w2 (by kernel_rfl) ?_
 refine J.ok (OK.ldBox S2 0 27 25 0 (.agg #[.slice m.gX_a m.gX_n m.gX_c, .slice m.gY_a m.gY_n m.gY_c, .slice m.gZ_a m.gZ_n m.gZ_c]) (by kernel_rfl) rfl (by kernel_rfl)) ?_
 refine J.callF 28 5 #[.agg #[.slice m.gX_a m.gX_n m.gX_c, .slice m.gY_a m.gY_n m.gY_c, .slice m.gZ_a m.gZ_n m.gZ_c]] hb5 (by kernel_rfl) (few_any m _ (mpQ_sep hm S2)) ?_
 rintro _ w3 ⟨rfl, T2⟩
 have S3 : Sep w [box b1 [.slice m.gX_a m.gX_n m.gX_c, .slice m.gY_a m.gY_n m.gY_c, .slice m.gZ_a m.gZ_n m.gZ_c] 25] w3 := S2.trans T2
 clear T2 S2
 refine J.run 2 K3_3 [(30, .bool (!(fewB m))), (7, .pointer (some ⟨b1, 0, none⟩)), (1, .int .u8 i), (2, .int .u8 j), (3, iv z), (4, iv x), (5, iv y), (6, .string s)] w3 (by kernel_rfl) ?_
 rcases Bool.eq_false_or_eq_true (fewB m) with fk1 | fk1
 rotate_left
 ·skip
  refine J.head (.bool true) (congrArg Value.bool (by rw [fk1]; rfl)) ?_
  refine J.run 10 K3_107 [(14, .bool true)] w3 (by kernel_rfl) ?_
  refine J.ret Tryz.f3 [.bool true] Tryz.func3 ⟨by kernel_rfl, trivial⟩ ?_
  refine hR _ _ ?_
  exact ⟨rfl, S3.nil⟩
 refine J.head (.bool false) (congrArg Value.bool (by rw [fk1]; rfl)) ?_
 refine J.run 5 K3_4 [(34, .bool (decide ((s.size : Int) > 3000))), (7, .pointer (some ⟨b1, 0, none⟩)), (1, .int .u8 i), (2, .int .u8 j), (3, iv z), (4, iv x), (5, iv y), (6, .string s)] w3 (by kernel_rfl) ?_
 by_cases fk2 : (s.size : Int) > 3000
 ·skip
  refine J.head (.bool true) (congrArg Value.bool (decide_eq_true fk2)) ?_
  refine J.run 5 K3_5 [(14, .bool true)] w3 (by kernel_rfl) ?_
  refine J.ret Tryz.f3 [.bool true] Tryz.func3 ⟨by kernel_rfl, trivial⟩ ?_
  refine hR _ _ ?_
  exact ⟨rfl, S3.nil⟩
 refine J.head (.bool false) (congrArg Value.bool (decide_eq_false fk2)) ?_
 refine J.run 6 K3_6 [(36, .string s), (7, .pointer (some ⟨b1, 0, none⟩)), (1, .int .u8 i), (2, .int .u8 j), (3, iv z), (4, iv x), (5, iv y), (6, .string s)] w3 (by kernel_rfl) ?_
 refine J.callF 37 6 #[.string s] hb6 (by kernel_rfl) (parse6_any s _ (by omega) (tabW_sep hW S3)) ?_
 rintro _ w4 ⟨pm1, hl_pm1, hk_pm1, hv_pm1, rfl, T3⟩
 have S4 : Sep w (rowOf Eng.encI pm1.gX_a pm1.gX_c 3 1 pm1.gX_l :: rowOf Eng.encI pm1.gY_a pm1.gY_c 3 1 pm1.gY_l :: rowOf rwE pm1.gZ_a pm1.gZ_c 22 1 pm1.gZ_l :: box b1 [.slice m.gX_a m.gX_n m.gX_c, .slice m.gY_a m.gY_n m.gY_c, .slice m.gZ_a m.gZ_n m.gZ_c] 25 :: tlR pm1.gZ_l) w4 := clm_tl1 [box b1 [.slice m.gX_a m.gX_n m.gX_c, .slice m.gY_a m.gY_n m.gY_c, .slice m.gZ_a m.gZ_n m.gZ_c] 25] (S3.trans T3)
 clear T3
 refine J.run 3 K3_7 [(39, iv (prE s)), (38, .agg #[.slice pm1.gX_a pm1.gX_n pm1.gX_c, .slice pm1.gY_a pm1.gY_n pm1.gY_c, .slice pm1.gZ_a pm1.gZ_n pm1.gZ_c]), (7, .pointer (some ⟨b1, 0, none⟩)), (1, .int .u8 i), (2, .int .u8 j), (3, iv z), (4, iv x), (5, iv y), (6, .string s)] w4 (by kernel_rfl) ?_
 refine J.new S4 15 [.slice none 0 0, .slice none 0 0, .slice none 0 0] 25 (by kernel_rfl) ?_
 intro b2 w5 S5
 refine J.stBox S5 0 25 0 (.agg #[.slice pm1.gX_a pm1.gX_n pm1.gX_c, .slice pm1.gY_a pm1.gY_n pm1.gY_c, .slice pm1.gZ_a pm1.gZ_n pm1.gZ_c]) [.slice pm1.gX_a pm1.gX_n pm1.gX_c, .slice pm1.gY_a pm1.gY_n pm1.gY_c, .slice pm1.gZ_a pm1.gZ_n pm1.gZ_c] (box b2 [.slice pm1.gX_a pm1.gX_n pm1.gX_c, .slice pm1.gY_a pm1.gY_n pm1.gY_c, .slice pm1.gZ_a pm1.gZ_n pm1.gZ_c] 25 :: rowOf Eng.encI pm1.gX_a pm1.gX_c 3 1 pm1.gX_l :: rowOf Eng.encI pm1.gY_a pm1.gY_c 3 1 pm1.gY_l :: rowOf rwE pm1.gZ_a pm1.gZ_c 22 1 pm1.gZ_l :: box b1 [.slice m.gX_a m.gX_n m.gX_c, .slice m.gY_a m.gY_n m.gY_c, .slice m.gZ_a m.gZ_n m.gZ_c] 25 :: tlR pm1.gZ_l) (by kernel_rfl) rfl (by kernel_rfl) (by kernel_rfl) rfl ?_
 intro w6 S6
 refine J.run 3 K3_8 [(16, iv (prE s)), (15, .pointer (some ⟨b2, 0, none⟩)), (7, .pointer (some ⟨b1, 0, none⟩)), (1, .int .u8 i), (2, .int .u8 j), (3, iv z), (4, iv x), (5, iv y), (6, .string s)] w6 (by kernel_rfl) ?_
 have X1 : ∀ (w7 : World), Sep w (box b2 [.slice pm1.gX_a pm1.gX_n pm1.gX_c, .slice pm1.gY_a pm1.gY_n pm1.gY_c, .slice pm1.gZ_a pm1.gZ_n pm1.gZ_c] 25 :: rowOf Eng.encI pm1.gX_a pm1.gX_c 3 1 pm1.gX_l :: rowOf Eng.encI pm1.gY_a pm1.gY_c 3 1 pm1.gY_l :: rowOf rwE pm1.gZ_a pm1.gZ_c 22 1 pm1.gZ_l :: box b1 [.slice m.gX_a m.gX_n m.gX_c, .slice m.gY_a m.gY_n m.gY_c, .slice m.gZ_a m.gZ_n m.gZ_c] 25 :: tlR pm1.gZ_l) w7 → J Tryz.prog 3 194 R K3_9 [(7, .pointer (some ⟨b1, 0, none⟩)), (1, .int .u8 i), (2, .int .u8 j), (3, iv z), (4, iv x), (5, iv y), (47, .bool false)] w7 := by
  intro w7 S7
  refine J.run 4 K3_10 [(7, .pointer (some ⟨b1, 0, none⟩)), (1, .int .u8 i), (2, .int .u8 j), (3, iv z), (4, iv x), (5, iv y)] w7 (by kernel_rfl) ?_
  refine J.ok (OK.ldBox S7 4 48 25 0 (.agg #[.slice m.gX_a m.gX_n m.gX_c, .slice m.gY_a m.gY_n m.gY_c, .slice m.gZ_a m.gZ_n m.gZ_c]) (by kernel_rfl) rfl (by kernel_rfl)) ?_
  refine J.callF 49 7 #[.agg #[.slice m.gX_a m.gX_n m.gX_c, .slice m.gY_a m.gY_n m.gY_c, .slice m.gZ_a m.gZ_n m.gZ_c]] hb7 (by kernel_rfl) (text6_any m _ (mpQ_sep hm S7) (tabW_sep hW S7)) ?_
  rintro _ w8 ⟨rfl, T4⟩
  have S8 : Sep w (box b2 [.slice pm1.gX_a pm1.gX_n pm1.gX_c, .slice pm1.gY_a pm1.gY_n pm1.gY_c, .slice pm1.gZ_a pm1.gZ_n pm1.gZ_c] 25 :: rowOf Eng.encI pm1.gX_a pm1.gX_c 3 1 pm1.gX_l :: rowOf Eng.encI pm1.gY_a pm1.gY_c 3 1 pm1.gY_l :: rowOf rwE pm1.gZ_a pm1.gZ_c 22 1 pm1.gZ_l :: box b1 [.slice m.gX_a m.gX_n m.gX_c, .slice m.gY_a m.gY_n m.gY_c, .slice m.gZ_a m.gZ_n m.gZ_c] 25 :: tlR pm1.gZ_l) w8 := S7.trans T4
  clear T4 S7
  refine J.run 5 K3_11 [(17, .string (txM m)), (7, .pointer (some ⟨b1, 0, none⟩)), (1, .int .u8 i), (2, .int .u8 j), (3, iv z), (4, iv x), (5, iv y)] w8 (by kernel_rfl) ?_
  refine J.ok (OK.ldBox S8 4 50 25 0 (.agg #[.slice m.gX_a m.gX_n m.gX_c, .slice m.gY_a m.gY_n m.gY_c, .slice m.gZ_a m.gZ_n m.gZ_c]) (by kernel_rfl) rfl (by kernel_rfl)) ?_
  refine J.callF 51 8 #[.agg #[.slice m.gX_a m.gX_n m.gX_c, .slice m.gY_a m.gY_n m.gY_c, .slice m.gZ_a m.gZ_n m.gZ_c]] hb8 (by kernel_rfl) (valid_any m _ (mpQ_sep hm S8)) ?_
  rintro _ w9 ⟨rfl, T5⟩
  have S9 : Sep w (box b2 [.slice pm1.gX_a pm1.gX_n pm1.gX_c, .slice pm1.gY_a pm1.gY_n pm1.gY_c, .slice pm1.gZ_a pm1.gZ_n pm1.gZ_c] 25 :: rowOf Eng.encI pm1.gX_a pm1.gX_c 3 1 pm1.gX_l :: rowOf Eng.encI pm1.gY_a pm1.gY_c 3 1 pm1.gY_l :: rowOf rwE pm1.gZ_a pm1.gZ_c 22 1 pm1.gZ_l :: box b1 [.slice m.gX_a m.gX_n m.gX_c, .slice m.gY_a m.gY_n m.gY_c, .slice m.gZ_a m.gZ_n m.gZ_c] 25 :: tlR pm1.gZ_l) w9 := S8.trans T5
  clear T5 S8
  refine J.run 2 K3_12 [(52, .bool (!(validM m))), (17, .string (txM m)), (7, .pointer (some ⟨b1, 0, none⟩)), (1, .int .u8 i), (2, .int .u8 j), (3, iv z), (4, iv x), (5, iv y)] w9 (by kernel_rfl) ?_
  rcases Bool.eq_false_or_eq_true (validM m) with fk3 | fk3
  rotate_left
  ·skip
   refine J.head (.bool true) (congrArg Value.bool (by rw [fk3]; rfl)) ?_
   have hnv := tx_none fk3
   refine J.run 5 K3_103 [(54, .bool ((txM m).toList == (⟨#[]⟩ : ByteArray).toList))] w9 (by kernel_rfl) ?_
   refine J.head (.bool (((txM m).size : Int) == 0)) (congrArg Value.bool (beq_nil_eql _)) ?_
   refine J.run 2 K3_104 [(14, .bool (((txM m).size : Int) == 0))] w9 (by kernel_rfl) ?_
   refine J.ret Tryz.f3 [.bool (((txM m).size : Int) == 0)] Tryz.func3 ⟨by kernel_rfl, trivial⟩ ?_
   refine hR _ _ ?_
   exact ⟨congrArg Value.bool (by first | rfl | (simp only [beq_iff_eq, decide_eq_true_eq, bne_iff_ne]; omega) | (rw [hnv]; rfl) | exact beq_iff_eq.2 (pr5 (by omega))), S9.nil⟩
  refine J.head (.bool false) (congrArg Value.bool (by rw [fk3]; rfl)) ?_
  have hv := fk3
  obtain ⟨hv1, hv2, hv3, hv4⟩ := valid_facts fk3
  obtain ⟨hx1, hx2, hx3⟩ := axis_facts hv1
  obtain ⟨hy1, hy2, hy3⟩ := axis_facts hv2
  have htb := tx_bd hm hv
  refine J.run 5 K3_13 [(56, .string (txM m)), (17, .string (txM m)), (7, .pointer (some ⟨b1, 0, none⟩)), (1, .int .u8 i), (2, .int .u8 j), (3, iv z), (4, iv x), (5, iv y)] w9 (by kernel_rfl) ?_
  refine J.callF 57 6 #[.string (txM m)] hb6 (by kernel_rfl) (parse6_any (txM m) _ (by omega) (tabW_sep hW S9)) ?_
  rintro _ w10 ⟨pm2, hl_pm2, hk_pm2, hv_pm2, rfl, T6⟩
  have S10 : Sep w (rowOf Eng.encI pm2.gX_a pm2.gX_c 3 1 pm2.gX_l :: rowOf Eng.encI pm2.gY_a pm2.gY_c 3 1 pm2.gY_l :: rowOf rwE pm2.gZ_a pm2.gZ_c 22 1 pm2.gZ_l :: box b2 [.slice pm1.gX_a pm1.gX_n pm1.gX_c, .slice pm1.gY_a pm1.gY_n pm1.gY_c, .slice pm1.gZ_a pm1.gZ_n pm1.gZ_c] 25 :: rowOf Eng.encI pm1.gX_a pm1.gX_c 3 1 pm1.gX_l :: rowOf Eng.encI pm1.gY_a pm1.gY_c 3 1 pm1.gY_l :: rowOf rwE pm1.gZ_a pm1.gZ_c 22 1 pm1.gZ_l :: box b1 [.slice m.gX_a m.gX_n m.gX_c, .slice m.gY_a m.gY_n m.gY_c, .slice m.gZ_a m.gZ_n m.gZ_c] 25 :: (tlR pm2.gZ_l ++ tlR pm1.gZ_l)) w10 := clm_tl2 [box b2 [.slice pm1.gX_a pm1.gX_n pm1.gX_c, .slice pm1.gY_a pm1.gY_n pm1.gY_c, .slice pm1.gZ_a pm1.gZ_n pm1.gZ_c] 25, rowOf Eng.encI pm1.gX_a pm1.gX_c 3 1 pm1.gX_l, rowOf Eng.encI pm1.gY_a pm1.gY_c 3 1 pm1.gY_l, rowOf rwE pm1.gZ_a pm1.gZ_c 22 1 pm1.gZ_l, box b1 [.slice m.gX_a m.gX_n m.gX_c, .slice m.gY_a m.gY_n m.gY_c, .slice m.gZ_a m.gZ_n m.gZ_c] 25] (S9.trans T6)
  clear T6
  refine J.run 3 K3_14 [(59, iv (prE (txM m))), (58, .agg #[.slice pm2.gX_a pm2.gX_n pm2.gX_c, .slice pm2.gY_a pm2.gY_n pm2.gY_c, .slice pm2.gZ_a pm2.gZ_n pm2.gZ_c]), (17, .string (txM m)), (7, .pointer (some ⟨b1, 0, none⟩)), (1, .int .u8 i), (2, .int .u8 j), (3, iv z), (4, iv x), (5, iv y)] w10 (by kernel_rfl) ?_
  refine J.new S10 18 [.slice none 0 0, .slice none 0 0, .slice none 0 0] 25 (by kernel_rfl) ?_
  intro b3 w11 S11
  refine J.stBox S11 0 25 0 (.agg #[.slice pm2.gX_a pm2.gX_n pm2.gX_c, .slice pm2.gY_a pm2.gY_n pm2.gY_c, .slice pm2.gZ_a pm2.gZ_n pm2.gZ_c]) [.slice pm2.gX_a pm2.gX_n pm2.gX_c, .slice pm2.gY_a pm2.gY_n pm2.gY_c, .slice pm2.gZ_a pm2.gZ_n pm2.gZ_c] (box b3 [.slice pm2.gX_a pm2.gX_n pm2.gX_c, .slice pm2.gY_a pm2.gY_n pm2.gY_c, .slice pm2.gZ_a pm2.gZ_n pm2.gZ_c] 25 :: rowOf Eng.encI pm2.gX_a pm2.gX_c 3 1 pm2.gX_l :: rowOf Eng.encI pm2.gY_a pm2.gY_c 3 1 pm2.gY_l :: rowOf rwE pm2.gZ_a pm2.gZ_c 22 1 pm2.gZ_l :: box b2 [.slice pm1.gX_a pm1.gX_n pm1.gX_c, .slice pm1.gY_a pm1.gY_n pm1.gY_c, .slice pm1.gZ_a pm1.gZ_n pm1.gZ_c] 25 :: rowOf Eng.encI pm1.gX_a pm1.gX_c 3 1 pm1.gX_l :: rowOf Eng.encI pm1.gY_a pm1.gY_c 3 1 pm1.gY_l :: rowOf rwE pm1.gZ_a pm1.gZ_c 22 1 pm1.gZ_l :: box b1 [.slice m.gX_a m.gX_n m.gX_c, .slice m.gY_a m.gY_n m.gY_c, .slice m.gZ_a m.gZ_n m.gZ_c] 25 :: (tlR pm2.gZ_l ++ tlR pm1.gZ_l)) (by kernel_rfl) rfl (by kernel_rfl) (by kernel_rfl) rfl ?_
  intro w12 S12
  refine J.run 9 K3_15 [(62, .bool (decide (((txM m).size : Int) > 16384))), (19, iv (prE (txM m))), (18, .pointer (some ⟨b3, 0, none⟩)), (7, .pointer (some ⟨b1, 0, none⟩)), (1, .int .u8 i), (2, .int .u8 j), (3, iv z), (4, iv x), (5, iv y)] w12 (by kernel_rfl) ?_
  by_cases fk4 : ((txM m).size : Int) > 16384
  ·skip
   refine J.head (.bool true) (congrArg Value.bool (decide_eq_true fk4)) ?_
   refine J.run 7 K3_16 [(14, .bool ((prE (txM m)) == 5))] w12 (by kernel_rfl) ?_
   refine J.ret Tryz.f3 [.bool ((prE (txM m)) == 5)] Tryz.func3 ⟨by kernel_rfl, trivial⟩ ?_
   refine hR _ _ ?_
   exact ⟨congrArg Value.bool (by first | rfl | (simp only [beq_iff_eq, decide_eq_true_eq, bne_iff_ne]; omega) | (rw [hnv]; rfl) | exact beq_iff_eq.2 (pr5 (by omega))), S12.nil⟩
  refine J.head (.bool false) (congrArg Value.bool (decide_eq_false fk4)) ?_
  have htw := tx_own hm hv (by omega)
  refine J.run 8 K3_17 [(67, .bool ((prE (txM m)) != 0)), (18, .pointer (some ⟨b3, 0, none⟩)), (7, .pointer (some ⟨b1, 0, none⟩)), (1, .int .u8 i), (2, .int .u8 j), (3, iv z), (4, iv x), (5, iv y)] w12 (by kernel_rfl) ?_
  have fk6 : (prE (txM m)) = 0 := htw.1
  refine J.head (.bool false) (congrArg Value.bool (bne_eq_false_iff_eq.2 fk6)) ?_
  refine J.ok (OK.ldBox S12 0 68 25 0 (.agg #[.slice pm2.gX_a pm2.gX_n pm2.gX_c, .slice pm2.gY_a pm2.gY_n pm2.gY_c, .slice pm2.gZ_a pm2.gZ_n pm2.gZ_c]) (by kernel_rfl) rfl (by kernel_rfl)) ?_
  refine J.ok (OK.ldBox S12 8 69 25 0 (.agg #[.slice m.gX_a m.gX_n m.gX_c, .slice m.gY_a m.gY_n m.gY_c, .slice m.gZ_a m.gZ_n m.gZ_c]) (by kernel_rfl) rfl (by kernel_rfl)) ?_
  refine J.callF 70 9 #[.agg #[.slice pm2.gX_a pm2.gX_n pm2.gX_c, .slice pm2.gY_a pm2.gY_n pm2.gY_c, .slice pm2.gZ_a pm2.gZ_n pm2.gZ_c], .agg #[.slice m.gX_a m.gX_n m.gX_c, .slice m.gY_a m.gY_n m.gY_c, .slice m.gZ_a m.gZ_n m.gZ_c]] hb9 (by kernel_rfl) (same6_any pm2 m _ (mp_q S12 hl_pm2 hk_pm2 (S12.nth 1 rfl) (S12.nth 2 rfl) (S12.nth 3 rfl) (fun c_ h_ => (show c_ ∈ [box b3 [.slice pm2.gX_a pm2.gX_n pm2.gX_c, .slice pm2.gY_a pm2.gY_n pm2.gY_c, .slice pm2.gZ_a pm2.gZ_n pm2.gZ_c] 25, rowOf Eng.encI pm2.gX_a pm2.gX_c 3 1 pm2.gX_l, rowOf Eng.encI pm2.gY_a pm2.gY_c 3 1 pm2.gY_l, rowOf rwE pm2.gZ_a pm2.gZ_c 22 1 pm2.gZ_l, box b2 [.slice pm1.gX_a pm1.gX_n pm1.gX_c, .slice pm1.gY_a pm1.gY_n pm1.gY_c, .slice pm1.gZ_a pm1.gZ_n pm1.gZ_c] 25, rowOf Eng.encI pm1.gX_a pm1.gX_c 3 1 pm1.gX_l, rowOf Eng.encI pm1.gY_a pm1.gY_c 3 1 pm1.gY_l, rowOf rwE pm1.gZ_a pm1.gZ_c 22 1 pm1.gZ_l, box b1 [.slice m.gX_a m.gX_n m.gX_c, .slice m.gY_a m.gY_n m.gY_c, .slice m.gZ_a m.gZ_n m.gZ_c] 25] ++ (tlR pm2.gZ_l ++ tlR pm1.gZ_l) from List.mem_append.2 (.inr (List.mem_append.2 (.inl h_)))))) (mpQ_sep hm S12) ((hv_pm2 htw.1).trans htw.2)) ?_
  rintro _ w13 ⟨rfl, T7⟩
  have S13 : Sep w (box b3 [.slice pm2.gX_a pm2.gX_n pm2.gX_c, .slice pm2.gY_a pm2.gY_n pm2.gY_c, .slice pm2.gZ_a pm2.gZ_n pm2.gZ_c] 25 :: rowOf Eng.encI pm2.gX_a pm2.gX_c 3 1 pm2.gX_l :: rowOf Eng.encI pm2.gY_a pm2.gY_c 3 1 pm2.gY_l :: rowOf rwE pm2.gZ_a pm2.gZ_c 22 1 pm2.gZ_l :: box b2 [.slice pm1.gX_a pm1.gX_n pm1.gX_c, .slice pm1.gY_a pm1.gY_n pm1.gY_c, .slice pm1.gZ_a pm1.gZ_n pm1.gZ_c] 25 :: rowOf Eng.encI pm1.gX_a pm1.gX_c 3 1 pm1.gX_l :: rowOf Eng.encI pm1.gY_a pm1.gY_c 3 1 pm1.gY_l :: rowOf rwE pm1.gZ_a pm1.gZ_c 22 1 pm1.gZ_l :: box b1 [.slice m.gX_a m.gX_n m.gX_c, .slice m.gY_a m.gY_n m.gY_c, .slice m.gZ_a m.gZ_n m.gZ_c] 25 :: (tlR pm2.gZ_l ++ tlR pm1.gZ_l)) w13 := S12.trans T7
  clear T7 S12
  refine J.run 6 K3_18 [(7, .pointer (some ⟨b1, 0, none⟩)), (1, .int .u8 i), (2, .int .u8 j), (3, iv z), (4, iv x), (5, iv y)] w13 (by kernel_rfl) ?_
  refine J.drawStill S13 14 Tryz.mixed (by kernel_rfl) (by kernel_rfl) (by kernel_rfl) ?_
  intro w14 S14
  refine SL.ok (by decide) (OK.run 73 (.int .u8 i) (by kernel_rfl)) ?_
  refine SL.ok (by decide) (OK.run 74 (iv (IntKind.wrap .i64 i)) (by kernel_rfl)) ?_
  refine SL.head (iv i) (congrArg (Value.int .i64) (IntWalk.i64_in _ (by omega))) ?_
  refine SL.ok (by decide) (OK.run 75 (.pointer (some ⟨b1, 0, none⟩)) (by kernel_rfl)) ?_
  refine SL.ok (by decide) (OK.ldBox S14 8 76 22 0 (.slice m.gX_a m.gX_n m.gX_c) (by kernel_rfl) rfl (by kernel_rfl)) ?_
  refine SL.ok (by decide) (OK.run 77 (iv (m.gX_n : Int)) (by kernel_rfl)) ?_
  refine SL.ok (by decide) (OK.rem 78 .i64 i (m.gX_n : Int) (by kernel_rfl) (by omega)) ?_
  have hm1 := Int.emod_nonneg i (show (m.gX_n : Int) ≠ 0 by omega)
  have hm2 := Int.emod_lt_of_pos i (show 0 < (m.gX_n : Int) by omega)
  refine SL.head (iv (i % (m.gX_n : Int))) (congrArg (Value.int .i64) (IntWalk.rem_in _ _ (by omega))) ?_
  refine SL.ok (by decide) (OK.run 79 (.int .u8 j) (by kernel_rfl)) ?_
  refine SL.ok (by decide) (OK.run 80 (iv (IntKind.wrap .i64 j)) (by kernel_rfl)) ?_
  refine SL.head (iv j) (congrArg (Value.int .i64) (IntWalk.i64_in _ (by omega))) ?_
  refine SL.ok (by decide) (OK.run 81 (.pointer (some ⟨b1, 1, none⟩)) (by kernel_rfl)) ?_
  refine SL.ok (by decide) (OK.ldBox S14 8 82 22 1 (.slice m.gY_a m.gY_n m.gY_c) (by kernel_rfl) rfl (by kernel_rfl)) ?_
  refine SL.ok (by decide) (OK.run 83 (iv (m.gY_n : Int)) (by kernel_rfl)) ?_
  refine SL.ok (by decide) (OK.rem 84 .i64 j (m.gY_n : Int) (by kernel_rfl) (by omega)) ?_
  have hm1 := Int.emod_nonneg j (show (m.gY_n : Int) ≠ 0 by omega)
  have hm2 := Int.emod_lt_of_pos j (show 0 < (m.gY_n : Int) by omega)
  refine SL.head (iv (j % (m.gY_n : Int))) (congrArg (Value.int .i64) (IntWalk.rem_in _ _ (by omega))) ?_
  refine SL.ok (by decide) (OK.run 20 (iv (i % (m.gX_n : Int))) (by kernel_rfl)) ?_
  refine SL.ok (by decide) (OK.run 21 (iv (j % (m.gY_n : Int))) (by kernel_rfl)) ?_
  refine SL.done ?_
  refine TL.done (by kernel_rfl) ?_
  refine J.run 0 (rRest K3_18) [(21, iv (j % (m.gY_n : Int))), (20, iv (i % (m.gX_n : Int))), (7, .pointer (some ⟨b1, 0, none⟩)), (3, iv z), (4, iv x), (5, iv y)] w14 (by kernel_rfl) ?_
  refine J.run 2 K3_19 [(21, iv (j % (m.gY_n : Int))), (20, iv (i % (m.gX_n : Int))), (7, .pointer (some ⟨b1, 0, none⟩)), (3, iv z), (4, iv x), (5, iv y)] w14 (by kernel_rfl) ?_
  refine J.ok (OK.ldBox S14 8 86 25 0 (.agg #[.slice m.gX_a m.gX_n m.gX_c, .slice m.gY_a m.gY_n m.gY_c, .slice m.gZ_a m.gZ_n m.gZ_c]) (by kernel_rfl) rfl (by kernel_rfl)) ?_
  refine J.run 3 K3_20 [(89, iv z), (88, iv (j % (m.gY_n : Int))), (87, iv (i % (m.gX_n : Int))), (86, .agg #[.slice m.gX_a m.gX_n m.gX_c, .slice m.gY_a m.gY_n m.gY_c, .slice m.gZ_a m.gZ_n m.gZ_c]), (21, iv (j % (m.gY_n : Int))), (20, iv (i % (m.gX_n : Int))), (7, .pointer (some ⟨b1, 0, none⟩)), (3, iv z), (4, iv x), (5, iv y)] w14 (by kernel_rfl) ?_
  obtain ⟨a_, ha_⟩ : ∃ x : Int, x = i % (m.gX_n : Int) := ⟨_, rfl⟩
  obtain ⟨b_, hb_⟩ : ∃ x : Int, x = j % (m.gY_n : Int) := ⟨_, rfl⟩
  have hab : (0 ≤ a_ ∧ a_ < (m.gX_n : Int)) ∧ 0 ≤ b_ ∧ b_ < (m.gY_n : Int) := by omega
  refine J.cast (env' := [(89, iv z), (88, iv b_), (87, iv a_), (86, .agg #[.slice m.gX_a m.gX_n m.gX_c, .slice m.gY_a m.gY_n m.gY_c, .slice m.gZ_a m.gZ_n m.gZ_c]), (21, iv b_), (20, iv a_), (7, .pointer (some ⟨b1, 0, none⟩)), (3, iv z), (4, iv x), (5, iv y)]) (by rw [ha_, hb_]) ?_
  refine J.callF 90 10 #[.agg #[.slice m.gX_a m.gX_n m.gX_c, .slice m.gY_a m.gY_n m.gY_c, .slice m.gZ_a m.gZ_n m.gZ_c], iv a_, iv b_, iv z] hb10 (by kernel_rfl) (set_any m a_ b_ z _ (mpQ_sep hm S14)) ?_
  rintro _ w15 ⟨pm3, hl_pm3, hk_pm3, hv_pm3, rfl, T8⟩
  have S15 : Sep w (rowOf Eng.encI pm3.gX_a pm3.gX_c 3 1 pm3.gX_l :: rowOf Eng.encI pm3.gY_a pm3.gY_c 3 1 pm3.gY_l :: rowOf rwE pm3.gZ_a pm3.gZ_c 22 1 pm3.gZ_l :: box b3 [.slice pm2.gX_a pm2.gX_n pm2.gX_c, .slice pm2.gY_a pm2.gY_n pm2.gY_c, .slice pm2.gZ_a pm2.gZ_n pm2.gZ_c] 25 :: rowOf Eng.encI pm2.gX_a pm2.gX_c 3 1 pm2.gX_l :: rowOf Eng.encI pm2.gY_a pm2.gY_c 3 1 pm2.gY_l :: rowOf rwE pm2.gZ_a pm2.gZ_c 22 1 pm2.gZ_l :: box b2 [.slice pm1.gX_a pm1.gX_n pm1.gX_c, .slice pm1.gY_a pm1.gY_n pm1.gY_c, .slice pm1.gZ_a pm1.gZ_n pm1.gZ_c] 25 :: rowOf Eng.encI pm1.gX_a pm1.gX_c 3 1 pm1.gX_l :: rowOf Eng.encI pm1.gY_a pm1.gY_c 3 1 pm1.gY_l :: rowOf rwE pm1.gZ_a pm1.gZ_c 22 1 pm1.gZ_l :: box b1 [.slice m.gX_a m.gX_n m.gX_c, .slice m.gY_a m.gY_n m.gY_c, .slice m.gZ_a m.gZ_n m.gZ_c] 25 :: (tlR pm3.gZ_l ++ (tlR pm2.gZ_l ++ tlR pm1.gZ_l))) w15 := clm_tl2 [box b3 [.slice pm2.gX_a pm2.gX_n pm2.gX_c, .slice pm2.gY_a pm2.gY_n pm2.gY_c, .slice pm2.gZ_a pm2.gZ_n pm2.gZ_c] 25, rowOf Eng.encI pm2.gX_a pm2.gX_c 3 1 pm2.gX_l, rowOf Eng.encI pm2.gY_a pm2.gY_c 3 1 pm2.gY_l, rowOf rwE pm2.gZ_a pm2.gZ_c 22 1 pm2.gZ_l, box b2 [.slice pm1.gX_a pm1.gX_n pm1.gX_c, .slice pm1.gY_a pm1.gY_n pm1.gY_c, .slice pm1.gZ_a pm1.gZ_n pm1.gZ_c] 25, rowOf Eng.encI pm1.gX_a pm1.gX_c 3 1 pm1.gX_l, rowOf Eng.encI pm1.gY_a pm1.gY_c 3 1 pm1.gY_l, rowOf rwE pm1.gZ_a pm1.gZ_c 22 1 pm1.gZ_l, box b1 [.slice m.gX_a m.gX_n m.gX_c, .slice m.gY_a m.gY_n m.gY_c, .slice m.gZ_a m.gZ_n m.gZ_c] 25] (S14.trans T8)
  clear T8
  refine J.run 3 K3_21 [(92, iv (setE m a_ b_ z)), (91, .agg #[.slice pm3.gX_a pm3.gX_n pm3.gX_c, .slice pm3.gY_a pm3.gY_n pm3.gY_c, .slice pm3.gZ_a pm3.gZ_n pm3.gZ_c]), (21, iv b_), (20, iv a_), (7, .pointer (some ⟨b1, 0, none⟩)), (3, iv z), (4, iv x), (5, iv y)] w15 (by kernel_rfl) ?_
  refine J.new S15 22 [.slice none 0 0, .slice none 0 0, .slice none 0 0] 25 (by kernel_rfl) ?_
  intro b4 w16 S16
  refine J.stBox S16 0 25 0 (.agg #[.slice pm3.gX_a pm3.gX_n pm3.gX_c, .slice pm3.gY_a pm3.gY_n pm3.gY_c, .slice pm3.gZ_a pm3.gZ_n pm3.gZ_c]) [.slice pm3.gX_a pm3.gX_n pm3.gX_c, .slice pm3.gY_a pm3.gY_n pm3.gY_c, .slice pm3.gZ_a pm3.gZ_n pm3.gZ_c] (box b4 [.slice pm3.gX_a pm3.gX_n pm3.gX_c, .slice pm3.gY_a pm3.gY_n pm3.gY_c, .slice pm3.gZ_a pm3.gZ_n pm3.gZ_c] 25 :: rowOf Eng.encI pm3.gX_a pm3.gX_c 3 1 pm3.gX_l :: rowOf Eng.encI pm3.gY_a pm3.gY_c 3 1 pm3.gY_l :: rowOf rwE pm3.gZ_a pm3.gZ_c 22 1 pm3.gZ_l :: box b3 [.slice pm2.gX_a pm2.gX_n pm2.gX_c, .slice pm2.gY_a pm2.gY_n pm2.gY_c, .slice pm2.gZ_a pm2.gZ_n pm2.gZ_c] 25 :: rowOf Eng.encI pm2.gX_a pm2.gX_c 3 1 pm2.gX_l :: rowOf Eng.encI pm2.gY_a pm2.gY_c 3 1 pm2.gY_l :: rowOf rwE pm2.gZ_a pm2.gZ_c 22 1 pm2.gZ_l :: box b2 [.slice pm1.gX_a pm1.gX_n pm1.gX_c, .slice pm1.gY_a pm1.gY_n pm1.gY_c, .slice pm1.gZ_a pm1.gZ_n pm1.gZ_c] 25 :: rowOf Eng.encI pm1.gX_a pm1.gX_c 3 1 pm1.gX_l :: rowOf Eng.encI pm1.gY_a pm1.gY_c 3 1 pm1.gY_l :: rowOf rwE pm1.gZ_a pm1.gZ_c 22 1 pm1.gZ_l :: box b1 [.slice m.gX_a m.gX_n m.gX_c, .slice m.gY_a m.gY_n m.gY_c, .slice m.gZ_a m.gZ_n m.gZ_c] 25 :: (tlR pm3.gZ_l ++ (tlR pm2.gZ_l ++ tlR pm1.gZ_l))) (by kernel_rfl) rfl (by kernel_rfl) (by kernel_rfl) rfl ?_
  intro w17 S17
  refine J.run 8 K3_22 [(94, .bool ((setE m a_ b_ z) != 0)), (23, iv (setE m a_ b_ z)), (22, .pointer (some ⟨b4, 0, none⟩)), (21, iv b_), (20, iv a_), (7, .pointer (some ⟨b1, 0, none⟩)), (3, iv z), (4, iv x), (5, iv y)] w17 (by kernel_rfl) ?_
  by_cases fk7 : (setE m a_ b_ z) = 0
  rotate_left
  ·skip
   refine J.head (.bool true) (congrArg Value.bool (bne_iff_ne.2 fk7)) ?_
   obtain ⟨hs2, hsz⟩ := set_cases hv hab.1 hab.2 fk7
   refine J.run 6 K3_99 [(97, .bool ((setE m a_ b_ z) == 2)), (3, iv z)] w17 (by kernel_rfl) ?_
   have fk34 : (setE m a_ b_ z) = 2 := hs2
   refine J.head (.bool true) (congrArg Value.bool (beq_iff_eq.2 fk34)) ?_
   refine J.run 3 K3_100 [(100, .bool (decide (z > 1073741824))), (97, .bool true), (3, iv z)] w17 (by kernel_rfl) ?_
   by_cases fk35 : z > 1073741824
   ·skip
    refine J.head (.bool true) (congrArg Value.bool (decide_eq_true fk35)) ?_
    refine J.run 6 K3_101 [(14, .bool true)] w17 (by kernel_rfl) ?_
    refine J.ret Tryz.f3 [.bool true] Tryz.func3 ⟨by kernel_rfl, trivial⟩ ?_
    refine hR _ _ ?_
    exact ⟨rfl, S17.nil⟩
   refine J.head (.bool false) (congrArg Value.bool (decide_eq_false fk35)) ?_
   refine J.run 6 K3_102 [(14, .bool (decide (z < (-1073741824))))] w17 (by kernel_rfl) ?_
   refine J.ret Tryz.f3 [.bool (decide (z < (-1073741824)))] Tryz.func3 ⟨by kernel_rfl, trivial⟩ ?_
   refine hR _ _ ?_
   exact ⟨congrArg Value.bool (by first | rfl | (simp only [beq_iff_eq, decide_eq_true_eq, bne_iff_ne]; omega) | (rw [hnv]; rfl) | exact beq_iff_eq.2 (pr5 (by omega))), S17.nil⟩
  refine J.head (.bool false) (congrArg Value.bool (bne_eq_false_iff_eq.2 fk7)) ?_
  have hsg := set_good hm hl_pm3 hv hab.1 hab.2 hv_pm3 fk7
  refine J.run 4 K3_23 [(22, .pointer (some ⟨b4, 0, none⟩)), (21, iv b_), (20, iv a_), (7, .pointer (some ⟨b1, 0, none⟩)), (3, iv z), (4, iv x), (5, iv y)] w17 (by kernel_rfl) ?_
  obtain ⟨p1, hp1, hc1⟩ := q2.at 0 (a_).toNat (by omega)
  have hel1 := getD_Q q3 0 (n := (a_).toNat) (by have := q2.len_eq; omega)
  obtain ⟨p2, hp2, hc2⟩ := q5.at 0 (b_).toNat (by omega)
  have hel2 := getD_Q q6 0 (n := (b_).toNat) (by have := q5.len_eq; omega)
  refine J.drawPlan (fun w_ => Sep w (box b4 [.slice pm3.gX_a pm3.gX_n pm3.gX_c, .slice pm3.gY_a pm3.gY_n pm3.gY_c, .slice pm3.gZ_a pm3.gZ_n pm3.gZ_c] 25 :: rowOf Eng.encI pm3.gX_a pm3.gX_c 3 1 pm3.gX_l :: rowOf Eng.encI pm3.gY_a pm3.gY_c 3 1 pm3.gY_l :: rowOf rwE pm3.gZ_a pm3.gZ_c 22 1 pm3.gZ_l :: box b3 [.slice pm2.gX_a pm2.gX_n pm2.gX_c, .slice pm2.gY_a pm2.gY_n pm2.gY_c, .slice pm2.gZ_a pm2.gZ_n pm2.gZ_c] 25 :: rowOf Eng.encI pm2.gX_a pm2.gX_c 3 1 pm2.gX_l :: rowOf Eng.encI pm2.gY_a pm2.gY_c 3 1 pm2.gY_l :: rowOf rwE pm2.gZ_a pm2.gZ_c 22 1 pm2.gZ_l :: box b2 [.slice pm1.gX_a pm1.gX_n pm1.gX_c, .slice pm1.gY_a pm1.gY_n pm1.gY_c, .slice pm1.gZ_a pm1.gZ_n pm1.gZ_c] 25 :: rowOf Eng.encI pm1.gX_a pm1.gX_c 3 1 pm1.gX_l :: rowOf Eng.encI pm1.gY_a pm1.gY_c 3 1 pm1.gY_l :: rowOf rwE pm1.gZ_a pm1.gZ_c 22 1 pm1.gZ_l :: box b1 [.slice m.gX_a m.gX_n m.gX_c, .slice m.gY_a m.gY_n m.gY_c, .slice m.gZ_a m.gZ_n m.gZ_c] 25 :: (tlR pm3.gZ_l ++ (tlR pm2.gZ_l ++ tlR pm1.gZ_l))) w_) [(0, true), (1, true), (2, true), (3, true), (4, true), (5, true), (6, true), (7, true), (8, true), (9, true), (10, true), (12, true), (11, false), (13, true)] S17 Tryz.mixed (by kernel_rfl) (planOK_of (T := [(0, some 105, 4194304), (0, some 106, 128), (2, some 107, 81129638414606681695789005144064), (0, some 108, 1048576), (12, some 109, 486777830487640090174734030864384), (16, some 110, 649037107316853453566312041152512), (0, some 111, 128), (64, some 112, 2596148429267413814265248164610048), (0, some 113, 2097152), (384, some 114, 15576890575604482885591488987660288), (512, some 115, 20769187434139310514121985316880384), (1057, some 116, 42877013902119631276224489218637824), (0, some 117, 8), (6144, some 118, 249230249209671726169463823802564608)]) (by kernel_rfl) (by kernel_rfl)) ?_
  intro w18 S18
  refine PB.mk S18 ?_
  refine PL.takeOK 0 (fun w_ S_ => OK.ldBox S_ 0 105 25 0 (.agg #[.slice pm3.gX_a pm3.gX_n pm3.gX_c, .slice pm3.gY_a pm3.gY_n pm3.gY_c, .slice pm3.gZ_a pm3.gZ_n pm3.gZ_c]) (by kernel_rfl) rfl (by kernel_rfl)) rfl ?_
  refine PL.take 1 106 (.pointer (some ⟨b1, 0, none⟩)) (fun _ _ => by kernel_rfl) ?_
  refine PL.takeOK 2 (fun w_ S_ => OK.ldBox S_ 12 107 22 0 (.slice m.gX_a m.gX_n m.gX_c) (by kernel_rfl) rfl (by kernel_rfl)) rfl ?_
  refine PL.take 3 108 (iv a_) (fun _ _ => by kernel_rfl) ?_
  refine PL.takeOK 4 (fun w_ S_ => OK.index 109 22 1 m.gX_a p1 m.gX_n (a_).toNat a_ (p1.add (a_).toNat) (by kernel_rfl) (by kernel_rfl) hp1 (by omega) (by omega) (by rw [Nat.mul_one])) rfl ?_
  refine PL.takeOK 5 (fun w_ S_ => OK.ldCell 110 3 (p1.add (a_).toNat) (iv (m.gX_l.getD (a_).toNat 0)) (by kernel_rfl) (by kernel_rfl) (S_.cell hc1)) rfl ?_
  refine PL.take 6 111 (.pointer (some ⟨b1, 1, none⟩)) (fun _ _ => by kernel_rfl) ?_
  refine PL.takeOK 7 (fun w_ S_ => OK.ldBox S_ 12 112 22 1 (.slice m.gY_a m.gY_n m.gY_c) (by kernel_rfl) rfl (by kernel_rfl)) rfl ?_
  refine PL.take 8 113 (iv b_) (fun _ _ => by kernel_rfl) ?_
  refine PL.takeOK 9 (fun w_ S_ => OK.index 114 22 1 m.gY_a p2 m.gY_n (b_).toNat b_ (p2.add (b_).toNat) (by kernel_rfl) (by kernel_rfl) hp2 (by omega) (by omega) (by rw [Nat.mul_one])) rfl ?_
  refine PL.takeOK 10 (fun w_ S_ => OK.ldCell 115 3 (p2.add (b_).toNat) (iv (m.gY_l.getD (b_).toNat 0)) (by kernel_rfl) (by kernel_rfl) (S_.cell hc2)) rfl ?_
  refine PL.take 12 117 (iv z) (fun _ _ => by kernel_rfl) ?_
  refine PL.callF 116 11 #[.agg #[.slice pm3.gX_a pm3.gX_n pm3.gX_c, .slice pm3.gY_a pm3.gY_n pm3.gY_c, .slice pm3.gZ_a pm3.gZ_n pm3.gZ_c], iv (m.gX_l.getD (a_).toNat 0), iv (m.gY_l.getD (b_).toNat 0)] hb11 (by kernel_rfl) (At_any pm3 (m.gX_l.getD (a_).toNat 0) (m.gY_l.getD (b_).toNat 0) _ (mp_q S18 hl_pm3 hk_pm3 (S18.nth 1 rfl) (S18.nth 2 rfl) (S18.nth 3 rfl) (fun c_ h_ => (show c_ ∈ [box b4 [.slice pm3.gX_a pm3.gX_n pm3.gX_c, .slice pm3.gY_a pm3.gY_n pm3.gY_c, .slice pm3.gZ_a pm3.gZ_n pm3.gZ_c] 25, rowOf Eng.encI pm3.gX_a pm3.gX_c 3 1 pm3.gX_l, rowOf Eng.encI pm3.gY_a pm3.gY_c 3 1 pm3.gY_l, rowOf rwE pm3.gZ_a pm3.gZ_c 22 1 pm3.gZ_l, box b3 [.slice pm2.gX_a pm2.gX_n pm2.gX_c, .slice pm2.gY_a pm2.gY_n pm2.gY_c, .slice pm2.gZ_a pm2.gZ_n pm2.gZ_c] 25, rowOf Eng.encI pm2.gX_a pm2.gX_c 3 1 pm2.gX_l, rowOf Eng.encI pm2.gY_a pm2.gY_c 3 1 pm2.gY_l, rowOf rwE pm2.gZ_a pm2.gZ_c 22 1 pm2.gZ_l, box b2 [.slice pm1.gX_a pm1.gX_n pm1.gX_c, .slice pm1.gY_a pm1.gY_n pm1.gY_c, .slice pm1.gZ_a pm1.gZ_n pm1.gZ_c] 25, rowOf Eng.encI pm1.gX_a pm1.gX_c 3 1 pm1.gX_l, rowOf Eng.encI pm1.gY_a pm1.gY_c 3 1 pm1.gY_l, rowOf rwE pm1.gZ_a pm1.gZ_c 22 1 pm1.gZ_l, box b1 [.slice m.gX_a m.gX_n m.gX_c, .slice m.gY_a m.gY_n m.gY_c, .slice m.gZ_a m.gZ_n m.gZ_c] 25] ++ (tlR pm3.gZ_l ++ (tlR pm2.gZ_l ++ tlR pm1.gZ_l)) from List.mem_append.2 (.inr (List.mem_append.2 (.inl h_))))))) ?_
  rintro _ w19 ⟨rfl, T9⟩
  have S19 : Sep w (box b4 [.slice pm3.gX_a pm3.gX_n pm3.gX_c, .slice pm3.gY_a pm3.gY_n pm3.gY_c, .slice pm3.gZ_a pm3.gZ_n pm3.gZ_c] 25 :: rowOf Eng.encI pm3.gX_a pm3.gX_c 3 1 pm3.gX_l :: rowOf Eng.encI pm3.gY_a pm3.gY_c 3 1 pm3.gY_l :: rowOf rwE pm3.gZ_a pm3.gZ_c 22 1 pm3.gZ_l :: box b3 [.slice pm2.gX_a pm2.gX_n pm2.gX_c, .slice pm2.gY_a pm2.gY_n pm2.gY_c, .slice pm2.gZ_a pm2.gZ_n pm2.gZ_c] 25 :: rowOf Eng.encI pm2.gX_a pm2.gX_c 3 1 pm2.gX_l :: rowOf Eng.encI pm2.gY_a pm2.gY_c 3 1 pm2.gY_l :: rowOf rwE pm2.gZ_a pm2.gZ_c 22 1 pm2.gZ_l :: box b2 [.slice pm1.gX_a pm1.gX_n pm1.gX_c, .slice pm1.gY_a pm1.gY_n pm1.gY_c, .slice pm1.gZ_a pm1.gZ_n pm1.gZ_c] 25 :: rowOf Eng.encI pm1.gX_a pm1.gX_c 3 1 pm1.gX_l :: rowOf Eng.encI pm1.gY_a pm1.gY_c 3 1 pm1.gY_l :: rowOf rwE pm1.gZ_a pm1.gZ_c 22 1 pm1.gZ_l :: box b1 [.slice m.gX_a m.gX_n m.gX_c, .slice m.gY_a m.gY_n m.gY_c, .slice m.gZ_a m.gZ_n m.gZ_c] 25 :: (tlR pm3.gZ_l ++ (tlR pm2.gZ_l ++ tlR pm1.gZ_l))) w19 := S18.trans T9
  clear T9 S18
  refine PB.mk S19 ?_
  refine PL.take 13 118 (.bool ((atF pm3 (m.gX_l.getD (a_).toNat 0) (m.gY_l.getD (b_).toNat 0)) != z)) (fun _ _ => by kernel_rfl) ?_
  refine PL.done ?_
  refine J.run 0 (rRest K3_23) [(118, .bool ((atF pm3 (m.gX_l.getD (a_).toNat 0) (m.gY_l.getD (b_).toNat 0)) != z)), (22, .pointer (some ⟨b4, 0, none⟩)), (21, iv b_), (20, iv a_), (7, .pointer (some ⟨b1, 0, none⟩)), (4, iv x), (5, iv y)] w19 (by kernel_rfl) ?_
  have fk9 : (atF pm3 (m.gX_l.getD (a_).toNat 0) (m.gY_l.getD (b_).toNat 0)) = z := set_at hm hl_pm3 hv hab.1 hab.2 hsg
  refine J.head (.bool false) (congrArg Value.bool (bne_eq_false_iff_eq.2 fk9)) ?_
  refine J.run 3 K3_24 [(22, .pointer (some ⟨b4, 0, none⟩)), (21, iv b_), (20, iv a_), (7, .pointer (some ⟨b1, 0, none⟩)), (4, iv x), (5, iv y)] w19 (by kernel_rfl) ?_
  have X2 : ∀ (far : Bool) (w20 : World), (far = true → ((0 < a_ ∧ x ≤ m.gX_l.getD (a_ - 1).toNat 0) ∨ (a_ + 1 < (m.gX_n : Int) ∧ m.gX_l.getD (a_ + 1).toNat 0 ≤ x)) ∨ ((0 < b_ ∧ y ≤ m.gY_l.getD (b_ - 1).toNat 0) ∨ (b_ + 1 < (m.gY_n : Int) ∧ m.gY_l.getD (b_ + 1).toNat 0 ≤ y))) → Sep w (box b4 [.slice pm3.gX_a pm3.gX_n pm3.gX_c, .slice pm3.gY_a pm3.gY_n pm3.gY_c, .slice pm3.gZ_a pm3.gZ_n pm3.gZ_c] 25 :: rowOf Eng.encI pm3.gX_a pm3.gX_c 3 1 pm3.gX_l :: rowOf Eng.encI pm3.gY_a pm3.gY_c 3 1 pm3.gY_l :: rowOf rwE pm3.gZ_a pm3.gZ_c 22 1 pm3.gZ_l :: box b3 [.slice pm2.gX_a pm2.gX_n pm2.gX_c, .slice pm2.gY_a pm2.gY_n pm2.gY_c, .slice pm2.gZ_a pm2.gZ_n pm2.gZ_c] 25 :: rowOf Eng.encI pm2.gX_a pm2.gX_c 3 1 pm2.gX_l :: rowOf Eng.encI pm2.gY_a pm2.gY_c 3 1 pm2.gY_l :: rowOf rwE pm2.gZ_a pm2.gZ_c 22 1 pm2.gZ_l :: box b2 [.slice pm1.gX_a pm1.gX_n pm1.gX_c, .slice pm1.gY_a pm1.gY_n pm1.gY_c, .slice pm1.gZ_a pm1.gZ_n pm1.gZ_c] 25 :: rowOf Eng.encI pm1.gX_a pm1.gX_c 3 1 pm1.gX_l :: rowOf Eng.encI pm1.gY_a pm1.gY_c 3 1 pm1.gY_l :: rowOf rwE pm1.gZ_a pm1.gZ_c 22 1 pm1.gZ_l :: box b1 [.slice m.gX_a m.gX_n m.gX_c, .slice m.gY_a m.gY_n m.gY_c, .slice m.gZ_a m.gZ_n m.gZ_c] 25 :: (tlR pm3.gZ_l ++ (tlR pm2.gZ_l ++ tlR pm1.gZ_l))) w20 → J Tryz.prog 3 194 R K3_25 [(22, .pointer (some ⟨b4, 0, none⟩)), (7, .pointer (some ⟨b1, 0, none⟩)), (4, iv x), (5, iv y), (24, .bool far)] w20 := by
   intro far w20 hfar S20
   refine J.run 1 K3_26 [(22, .pointer (some ⟨b4, 0, none⟩)), (7, .pointer (some ⟨b1, 0, none⟩)), (4, iv x), (5, iv y), (24, .bool far)] w20 (by kernel_rfl) ?_
   rcases Bool.eq_false_or_eq_true far with fk10 | fk10
   rotate_left
   ·skip
    refine J.drawPlan (fun w_ => Sep w (box b4 [.slice pm3.gX_a pm3.gX_n pm3.gX_c, .slice pm3.gY_a pm3.gY_n pm3.gY_c, .slice pm3.gZ_a pm3.gZ_n pm3.gZ_c] 25 :: rowOf Eng.encI pm3.gX_a pm3.gX_c 3 1 pm3.gX_l :: rowOf Eng.encI pm3.gY_a pm3.gY_c 3 1 pm3.gY_l :: rowOf rwE pm3.gZ_a pm3.gZ_c 22 1 pm3.gZ_l :: box b3 [.slice pm2.gX_a pm2.gX_n pm2.gX_c, .slice pm2.gY_a pm2.gY_n pm2.gY_c, .slice pm2.gZ_a pm2.gZ_n pm2.gZ_c] 25 :: rowOf Eng.encI pm2.gX_a pm2.gX_c 3 1 pm2.gX_l :: rowOf Eng.encI pm2.gY_a pm2.gY_c 3 1 pm2.gY_l :: rowOf rwE pm2.gZ_a pm2.gZ_c 22 1 pm2.gZ_l :: box b2 [.slice pm1.gX_a pm1.gX_n pm1.gX_c, .slice pm1.gY_a pm1.gY_n pm1.gY_c, .slice pm1.gZ_a pm1.gZ_n pm1.gZ_c] 25 :: rowOf Eng.encI pm1.gX_a pm1.gX_c 3 1 pm1.gX_l :: rowOf Eng.encI pm1.gY_a pm1.gY_c 3 1 pm1.gY_l :: rowOf rwE pm1.gZ_a pm1.gZ_c 22 1 pm1.gZ_l :: box b1 [.slice m.gX_a m.gX_n m.gX_c, .slice m.gY_a m.gY_n m.gY_c, .slice m.gZ_a m.gZ_n m.gZ_c] 25 :: (tlR pm3.gZ_l ++ (tlR pm2.gZ_l ++ tlR pm1.gZ_l))) w_) [(0, true), (1, true), (2, true), (3, true), (4, true), (5, true), (6, true), (7, true), (8, true), (9, true), (10, true), (11, true), (12, true), (13, true)] S20 Tryz.mixed (by kernel_rfl) (planOK_of (T := [(0, some 181, 16777216), (1, some 182, 3064991081731777716716694054300618367237478244367204352), (2, some 183, 6129982163463555433433388108601236734474956488734408704), (4, some 184, 12259964326927110866866776217202473468949912977473011712), (4, some 185, 12259964326927110866866776217202473468949912977468817424), (4, some 186, 12259964326927110866866776217202473468949912977468817440), (60, some 187, 183899464903906663003001643258037102034248694662032261120), (4, some 188, 12259964326927110866866776217202473468949912977468817536), (4, some 189, 12259964326927110866866776217202473468949912977468817424), (4, some 190, 12259964326927110866866776217202473468949912977468817440), (964, some 191, 2758491973558599945045024648870556530513730419930483916800), (1092, some 192, 3346970261251101266654629907296275257023326242848987152384), (2052, some 193, 6289361699713607874702656199424868889571305357441503330304), (8191, some 14, 12554203470773361527671578846415332832204710888928069025792)]) (by kernel_rfl) (by kernel_rfl)) ?_
    intro w24 S24
    refine PB.mk S24 ?_
    refine PL.take 0 181 (.bool far) (fun _ _ => by kernel_rfl) ?_
    refine PL.head (.bool false) (congrArg Value.bool fk10) ?_
    refine PL.take 1 182 (.bool true) (fun _ _ => by kernel_rfl) ?_
    refine PL.take 2 183 (.bool true) (fun _ _ => by kernel_rfl) ?_
    refine PL.takePass 3 (some 184) (by kernel_rfl) ?_
    refine PL.takePass 4 (some 185) (by kernel_rfl) ?_
    refine PL.takePass 5 (some 186) (by kernel_rfl) ?_
    refine PL.takePass 6 (some 187) (by kernel_rfl) ?_
    refine PL.takePass 7 (some 188) (by kernel_rfl) ?_
    refine PL.takePass 8 (some 189) (by kernel_rfl) ?_
    refine PL.takePass 9 (some 190) (by kernel_rfl) ?_
    refine PL.takePass 10 (some 191) (by kernel_rfl) ?_
    refine PL.takePass 11 (some 192) (by kernel_rfl) ?_
    refine PL.take 12 193 (.bool true) (fun _ _ => by kernel_rfl) ?_
    refine PL.take 13 14 (.bool true) (fun _ _ => by kernel_rfl) ?_
    refine PL.done ?_
    refine J.run 0 (rRest K3_26) [(14, .bool true)] w24 (by kernel_rfl) ?_
    refine J.ret Tryz.f3 [.bool true] Tryz.func3 ⟨by kernel_rfl, trivial⟩ ?_
    refine hR _ _ ?_
    exact ⟨rfl, S24.nil⟩
   refine J.drawPlan (fun w_ => Sep w (box b4 [.slice pm3.gX_a pm3.gX_n pm3.gX_c, .slice pm3.gY_a pm3.gY_n pm3.gY_c, .slice pm3.gZ_a pm3.gZ_n pm3.gZ_c] 25 :: rowOf Eng.encI pm3.gX_a pm3.gX_c 3 1 pm3.gX_l :: rowOf Eng.encI pm3.gY_a pm3.gY_c 3 1 pm3.gY_l :: rowOf rwE pm3.gZ_a pm3.gZ_c 22 1 pm3.gZ_l :: box b3 [.slice pm2.gX_a pm2.gX_n pm2.gX_c, .slice pm2.gY_a pm2.gY_n pm2.gY_c, .slice pm2.gZ_a pm2.gZ_n pm2.gZ_c] 25 :: rowOf Eng.encI pm2.gX_a pm2.gX_c 3 1 pm2.gX_l :: rowOf Eng.encI pm2.gY_a pm2.gY_c 3 1 pm2.gY_l :: rowOf rwE pm2.gZ_a pm2.gZ_c 22 1 pm2.gZ_l :: box b2 [.slice pm1.gX_a pm1.gX_n pm1.gX_c, .slice pm1.gY_a pm1.gY_n pm1.gY_c, .slice pm1.gZ_a pm1.gZ_n pm1.gZ_c] 25 :: rowOf Eng.encI pm1.gX_a pm1.gX_c 3 1 pm1.gX_l :: rowOf Eng.encI pm1.gY_a pm1.gY_c 3 1 pm1.gY_l :: rowOf rwE pm1.gZ_a pm1.gZ_c 22 1 pm1.gZ_l :: box b1 [.slice m.gX_a m.gX_n m.gX_c, .slice m.gY_a m.gY_n m.gY_c, .slice m.gZ_a m.gZ_n m.gZ_c] 25 :: (tlR pm3.gZ_l ++ (tlR pm2.gZ_l ++ tlR pm1.gZ_l))) w_) [(0, true), (1, true), (2, true), (3, true), (4, true), (5, true), (7, true), (8, true), (9, true), (6, false), (10, false), (11, true), (12, true), (13, true)] S20 Tryz.mixed (by kernel_rfl) (planOK_of (T := [(0, some 181, 16777216), (1, some 182, 3064991081731777716716694054300618367237478244367204352), (2, some 183, 6129982163463555433433388108601236734474956488734408704), (4, some 184, 12259964326927110866866776217202473468949912977473011712), (4, some 185, 12259964326927110866866776217202473468949912977468817424), (4, some 186, 12259964326927110866866776217202473468949912977468817440), (60, some 187, 183899464903906663003001643258037102034248694662032261120), (4, some 188, 12259964326927110866866776217202473468949912977468817536), (4, some 189, 12259964326927110866866776217202473468949912977468817424), (4, some 190, 12259964326927110866866776217202473468949912977468817440), (964, some 191, 2758491973558599945045024648870556530513730419930483916800), (1092, some 192, 3346970261251101266654629907296275257023326242848987152384), (2052, some 193, 6289361699713607874702656199424868889571305357441503330304), (8191, some 14, 12554203470773361527671578846415332832204710888928069025792)]) (by kernel_rfl) (by kernel_rfl)) ?_
   intro w21 S21
   refine PB.mk S21 ?_
   refine PL.take 0 181 (.bool far) (fun _ _ => by kernel_rfl) ?_
   refine PL.head (.bool true) (congrArg Value.bool fk10) ?_
   refine PL.take 1 182 (.bool false) (fun _ _ => by kernel_rfl) ?_
   refine PL.take 2 183 (.bool false) (fun _ _ => by kernel_rfl) ?_
   refine PL.takeOK 3 (fun w_ S_ => OK.ldBox S_ 0 184 25 0 (.agg #[.slice pm3.gX_a pm3.gX_n pm3.gX_c, .slice pm3.gY_a pm3.gY_n pm3.gY_c, .slice pm3.gZ_a pm3.gZ_n pm3.gZ_c]) (by kernel_rfl) rfl (by kernel_rfl)) rfl ?_
   refine PL.take 4 185 (iv x) (fun _ _ => by kernel_rfl) ?_
   refine PL.take 5 186 (iv y) (fun _ _ => by kernel_rfl) ?_
   refine PL.takeOK 7 (fun w_ S_ => OK.ldBox S_ 12 188 25 0 (.agg #[.slice m.gX_a m.gX_n m.gX_c, .slice m.gY_a m.gY_n m.gY_c, .slice m.gZ_a m.gZ_n m.gZ_c]) (by kernel_rfl) rfl (by kernel_rfl)) rfl ?_
   refine PL.take 8 189 (iv x) (fun _ _ => by kernel_rfl) ?_
   refine PL.take 9 190 (iv y) (fun _ _ => by kernel_rfl) ?_
   refine PL.callF 187 11 #[.agg #[.slice pm3.gX_a pm3.gX_n pm3.gX_c, .slice pm3.gY_a pm3.gY_n pm3.gY_c, .slice pm3.gZ_a pm3.gZ_n pm3.gZ_c], iv x, iv y] hb11 (by kernel_rfl) (At_any pm3 x y _ (mp_q S21 hl_pm3 hk_pm3 (S21.nth 1 rfl) (S21.nth 2 rfl) (S21.nth 3 rfl) (fun c_ h_ => (show c_ ∈ [box b4 [.slice pm3.gX_a pm3.gX_n pm3.gX_c, .slice pm3.gY_a pm3.gY_n pm3.gY_c, .slice pm3.gZ_a pm3.gZ_n pm3.gZ_c] 25, rowOf Eng.encI pm3.gX_a pm3.gX_c 3 1 pm3.gX_l, rowOf Eng.encI pm3.gY_a pm3.gY_c 3 1 pm3.gY_l, rowOf rwE pm3.gZ_a pm3.gZ_c 22 1 pm3.gZ_l, box b3 [.slice pm2.gX_a pm2.gX_n pm2.gX_c, .slice pm2.gY_a pm2.gY_n pm2.gY_c, .slice pm2.gZ_a pm2.gZ_n pm2.gZ_c] 25, rowOf Eng.encI pm2.gX_a pm2.gX_c 3 1 pm2.gX_l, rowOf Eng.encI pm2.gY_a pm2.gY_c 3 1 pm2.gY_l, rowOf rwE pm2.gZ_a pm2.gZ_c 22 1 pm2.gZ_l, box b2 [.slice pm1.gX_a pm1.gX_n pm1.gX_c, .slice pm1.gY_a pm1.gY_n pm1.gY_c, .slice pm1.gZ_a pm1.gZ_n pm1.gZ_c] 25, rowOf Eng.encI pm1.gX_a pm1.gX_c 3 1 pm1.gX_l, rowOf Eng.encI pm1.gY_a pm1.gY_c 3 1 pm1.gY_l, rowOf rwE pm1.gZ_a pm1.gZ_c 22 1 pm1.gZ_l, box b1 [.slice m.gX_a m.gX_n m.gX_c, .slice m.gY_a m.gY_n m.gY_c, .slice m.gZ_a m.gZ_n m.gZ_c] 25] ++ (tlR pm3.gZ_l ++ (tlR pm2.gZ_l ++ tlR pm1.gZ_l)) from List.mem_append.2 (.inr (List.mem_append.2 (.inl h_))))))) ?_
   rintro _ w22 ⟨rfl, T10⟩
   have S22 : Sep w (box b4 [.slice pm3.gX_a pm3.gX_n pm3.gX_c, .slice pm3.gY_a pm3.gY_n pm3.gY_c, .slice pm3.gZ_a pm3.gZ_n pm3.gZ_c] 25 :: rowOf Eng.encI pm3.gX_a pm3.gX_c 3 1 pm3.gX_l :: rowOf Eng.encI pm3.gY_a pm3.gY_c 3 1 pm3.gY_l :: rowOf rwE pm3.gZ_a pm3.gZ_c 22 1 pm3.gZ_l :: box b3 [.slice pm2.gX_a pm2.gX_n pm2.gX_c, .slice pm2.gY_a pm2.gY_n pm2.gY_c, .slice pm2.gZ_a pm2.gZ_n pm2.gZ_c] 25 :: rowOf Eng.encI pm2.gX_a pm2.gX_c 3 1 pm2.gX_l :: rowOf Eng.encI pm2.gY_a pm2.gY_c 3 1 pm2.gY_l :: rowOf rwE pm2.gZ_a pm2.gZ_c 22 1 pm2.gZ_l :: box b2 [.slice pm1.gX_a pm1.gX_n pm1.gX_c, .slice pm1.gY_a pm1.gY_n pm1.gY_c, .slice pm1.gZ_a pm1.gZ_n pm1.gZ_c] 25 :: rowOf Eng.encI pm1.gX_a pm1.gX_c 3 1 pm1.gX_l :: rowOf Eng.encI pm1.gY_a pm1.gY_c 3 1 pm1.gY_l :: rowOf rwE pm1.gZ_a pm1.gZ_c 22 1 pm1.gZ_l :: box b1 [.slice m.gX_a m.gX_n m.gX_c, .slice m.gY_a m.gY_n m.gY_c, .slice m.gZ_a m.gZ_n m.gZ_c] 25 :: (tlR pm3.gZ_l ++ (tlR pm2.gZ_l ++ tlR pm1.gZ_l))) w22 := S21.trans T10
   clear T10 S21
   refine PB.mk S22 ?_
   refine PL.callF 191 11 #[.agg #[.slice m.gX_a m.gX_n m.gX_c, .slice m.gY_a m.gY_n m.gY_c, .slice m.gZ_a m.gZ_n m.gZ_c], iv x, iv y] hb11 (by kernel_rfl) (At_any m x y _ (mpQ_sep hm S22)) ?_
   rintro _ w23 ⟨rfl, T11⟩
   have S23 : Sep w (box b4 [.slice pm3.gX_a pm3.gX_n pm3.gX_c, .slice pm3.gY_a pm3.gY_n pm3.gY_c, .slice pm3.gZ_a pm3.gZ_n pm3.gZ_c] 25 :: rowOf Eng.encI pm3.gX_a pm3.gX_c 3 1 pm3.gX_l :: rowOf Eng.encI pm3.gY_a pm3.gY_c 3 1 pm3.gY_l :: rowOf rwE pm3.gZ_a pm3.gZ_c 22 1 pm3.gZ_l :: box b3 [.slice pm2.gX_a pm2.gX_n pm2.gX_c, .slice pm2.gY_a pm2.gY_n pm2.gY_c, .slice pm2.gZ_a pm2.gZ_n pm2.gZ_c] 25 :: rowOf Eng.encI pm2.gX_a pm2.gX_c 3 1 pm2.gX_l :: rowOf Eng.encI pm2.gY_a pm2.gY_c 3 1 pm2.gY_l :: rowOf rwE pm2.gZ_a pm2.gZ_c 22 1 pm2.gZ_l :: box b2 [.slice pm1.gX_a pm1.gX_n pm1.gX_c, .slice pm1.gY_a pm1.gY_n pm1.gY_c, .slice pm1.gZ_a pm1.gZ_n pm1.gZ_c] 25 :: rowOf Eng.encI pm1.gX_a pm1.gX_c 3 1 pm1.gX_l :: rowOf Eng.encI pm1.gY_a pm1.gY_c 3 1 pm1.gY_l :: rowOf rwE pm1.gZ_a pm1.gZ_c 22 1 pm1.gZ_l :: box b1 [.slice m.gX_a m.gX_n m.gX_c, .slice m.gY_a m.gY_n m.gY_c, .slice m.gZ_a m.gZ_n m.gZ_c] 25 :: (tlR pm3.gZ_l ++ (tlR pm2.gZ_l ++ tlR pm1.gZ_l))) w23 := S22.trans T11
   clear T11 S22
   refine PB.mk S23 ?_
   refine PL.take 11 192 (.bool ((atF pm3 x y) == (atF m x y))) (fun _ _ => by kernel_rfl) ?_
   refine PL.take 12 193 (.bool ((atF pm3 x y) == (atF m x y))) (fun _ _ => by kernel_rfl) ?_
   refine PL.take 13 14 (.bool ((atF pm3 x y) == (atF m x y))) (fun _ _ => by kernel_rfl) ?_
   refine PL.done ?_
   refine J.run 0 (rRest K3_26) [(14, .bool ((atF pm3 x y) == (atF m x y)))] w23 (by kernel_rfl) ?_
   refine J.ret Tryz.f3 [.bool ((atF pm3 x y) == (atF m x y))] Tryz.func3 ⟨by kernel_rfl, trivial⟩ ?_
   refine hR _ _ ?_
   exact ⟨congrArg Value.bool (beq_iff_eq.2 (set_away hm hl_pm3 hv hab.1 hab.2 hsg (hfar fk10))), S23.nil⟩
  refine J.run 4 K3_27 [(121, .bool (decide (a_ > 0))), (22, .pointer (some ⟨b4, 0, none⟩)), (21, iv b_), (20, iv a_), (7, .pointer (some ⟨b1, 0, none⟩)), (4, iv x), (5, iv y)] w19 (by kernel_rfl) ?_
  by_cases fk11 : a_ > 0
  rotate_left
  ·skip
   refine J.head (.bool false) (congrArg Value.bool (decide_eq_false fk11)) ?_
   refine J.run 12 K3_65 [(133, iv (IntKind.wrap .i64 (a_ + 1))), (131, .bool false), (22, .pointer (some ⟨b4, 0, none⟩)), (21, iv b_), (20, iv a_), (7, .pointer (some ⟨b1, 0, none⟩)), (4, iv x), (5, iv y)] w19 (by kernel_rfl) ?_
   refine J.head (iv (a_ + 1)) (congrArg (Value.int .i64) (IntWalk.i64_in _ (by omega))) ?_
   refine J.run 1 K3_66 [(134, .pointer (some ⟨b1, 0, none⟩)), (133, iv (a_ + 1)), (131, .bool false), (22, .pointer (some ⟨b4, 0, none⟩)), (21, iv b_), (20, iv a_), (7, .pointer (some ⟨b1, 0, none⟩)), (4, iv x), (5, iv y)] w19 (by kernel_rfl) ?_
   refine J.ok (OK.ldBox S19 12 135 22 0 (.slice m.gX_a m.gX_n m.gX_c) (by kernel_rfl) rfl (by kernel_rfl)) ?_
   refine J.run 3 K3_67 [(138, .bool (decide ((a_ + 1) < (m.gX_n : Int)))), (131, .bool false), (22, .pointer (some ⟨b4, 0, none⟩)), (21, iv b_), (20, iv a_), (7, .pointer (some ⟨b1, 0, none⟩)), (4, iv x), (5, iv y)] w19 (by kernel_rfl) ?_
   by_cases fk23 : (a_ + 1) < (m.gX_n : Int)
   rotate_left
   ·skip
    refine J.head (.bool false) (congrArg Value.bool (decide_eq_false fk23)) ?_
    refine J.run 14 K3_85 [(152, .bool (decide (b_ > 0))), (149, .bool false), (22, .pointer (some ⟨b4, 0, none⟩)), (21, iv b_), (7, .pointer (some ⟨b1, 0, none⟩)), (4, iv x), (5, iv y)] w19 (by kernel_rfl) ?_
    by_cases fk29 : b_ > 0
    rotate_left
    ·skip
     refine J.head (.bool false) (congrArg Value.bool (decide_eq_false fk29)) ?_
     refine J.run 13 K3_94 [(165, iv (IntKind.wrap .i64 (b_ + 1))), (163, .bool false), (22, .pointer (some ⟨b4, 0, none⟩)), (21, iv b_), (7, .pointer (some ⟨b1, 0, none⟩)), (4, iv x), (5, iv y)] w19 (by kernel_rfl) ?_
     refine J.head (iv (b_ + 1)) (congrArg (Value.int .i64) (IntWalk.i64_in _ (by omega))) ?_
     refine J.run 1 K3_95 [(166, .pointer (some ⟨b1, 1, none⟩)), (165, iv (b_ + 1)), (163, .bool false), (22, .pointer (some ⟨b4, 0, none⟩)), (21, iv b_), (7, .pointer (some ⟨b1, 0, none⟩)), (4, iv x), (5, iv y)] w19 (by kernel_rfl) ?_
     refine J.ok (OK.ldBox S19 12 167 22 1 (.slice m.gY_a m.gY_n m.gY_c) (by kernel_rfl) rfl (by kernel_rfl)) ?_
     refine J.run 3 K3_96 [(170, .bool (decide ((b_ + 1) < (m.gY_n : Int)))), (163, .bool false), (22, .pointer (some ⟨b4, 0, none⟩)), (21, iv b_), (7, .pointer (some ⟨b1, 0, none⟩)), (4, iv x), (5, iv y)] w19 (by kernel_rfl) ?_
     by_cases fk32 : (b_ + 1) < (m.gY_n : Int)
     rotate_left
     ·skip
      refine J.head (.bool false) (congrArg Value.bool (decide_eq_false fk32)) ?_
      refine J.run 12 K3_25 [(22, .pointer (some ⟨b4, 0, none⟩)), (7, .pointer (some ⟨b1, 0, none⟩)), (4, iv x), (5, iv y), (24, .bool false)] w19 (by kernel_rfl) ?_
      exact X2 false w19 ((by intro h_; cases h_)) S19
     refine J.head (.bool true) (congrArg Value.bool (decide_eq_true fk32)) ?_
     refine J.run 2 K3_97 [(172, .pointer (some ⟨b1, 1, none⟩)), (171, iv y), (170, .bool true), (163, .bool false), (22, .pointer (some ⟨b4, 0, none⟩)), (21, iv b_), (7, .pointer (some ⟨b1, 0, none⟩)), (4, iv x), (5, iv y)] w19 (by kernel_rfl) ?_
     refine J.ok (OK.ldBox S19 12 173 22 1 (.slice m.gY_a m.gY_n m.gY_c) (by kernel_rfl) rfl (by kernel_rfl)) ?_
     refine J.run 2 K3_98 [(175, iv (IntKind.wrap .i64 (b_ + 1))), (173, .slice m.gY_a m.gY_n m.gY_c), (171, iv y), (170, .bool true), (163, .bool false), (22, .pointer (some ⟨b4, 0, none⟩)), (7, .pointer (some ⟨b1, 0, none⟩)), (4, iv x), (5, iv y)] w19 (by kernel_rfl) ?_
     refine J.head (iv (b_ + 1)) (congrArg (Value.int .i64) (IntWalk.i64_in _ (by omega))) ?_
     obtain ⟨p17, hp17, hc17⟩ := q5.at 0 (b_ + 1).toNat (by omega)
     have hel17 := getD_Q q6 0 (n := (b_ + 1).toNat) (by have := q5.len_eq; omega)
     refine J.ok (OK.index 176 22 1 m.gY_a p17 m.gY_n (b_ + 1).toNat (b_ + 1) (p17.add (b_ + 1).toNat) (by kernel_rfl) (by kernel_rfl) hp17 (by omega) (by omega) (by rw [Nat.mul_one])) ?_
     refine J.ok (OK.ldCell 177 3 (p17.add (b_ + 1).toNat) (iv (m.gY_l.getD (b_ + 1).toNat 0)) (by kernel_rfl) (by kernel_rfl) (S19.cell hc17)) ?_
     refine J.run 5 K3_25 [(22, .pointer (some ⟨b4, 0, none⟩)), (7, .pointer (some ⟨b1, 0, none⟩)), (4, iv x), (5, iv y), (24, .bool (decide (y ≥ (m.gY_l.getD (b_ + 1).toNat 0))))] w19 (by kernel_rfl) ?_
     exact X2 (decide (y ≥ (m.gY_l.getD (b_ + 1).toNat 0))) w19 ((by intro h_; have h2_ := of_decide_eq_true h_; omega)) S19
    refine J.head (.bool true) (congrArg Value.bool (decide_eq_true fk29)) ?_
    refine J.run 2 K3_86 [(154, .pointer (some ⟨b1, 1, none⟩)), (153, iv y), (152, .bool true), (149, .bool false), (22, .pointer (some ⟨b4, 0, none⟩)), (21, iv b_), (7, .pointer (some ⟨b1, 0, none⟩)), (4, iv x), (5, iv y)] w19 (by kernel_rfl) ?_
    refine J.ok (OK.ldBox S19 12 155 22 1 (.slice m.gY_a m.gY_n m.gY_c) (by kernel_rfl) rfl (by kernel_rfl)) ?_
    refine J.run 2 K3_87 [(157, iv (IntKind.wrap .i64 (b_ - 1))), (155, .slice m.gY_a m.gY_n m.gY_c), (153, iv y), (152, .bool true), (149, .bool false), (22, .pointer (some ⟨b4, 0, none⟩)), (21, iv b_), (7, .pointer (some ⟨b1, 0, none⟩)), (4, iv x), (5, iv y)] w19 (by kernel_rfl) ?_
    refine J.head (iv (b_ - 1)) (congrArg (Value.int .i64) (IntWalk.i64_in _ (by omega))) ?_
    obtain ⟨p15, hp15, hc15⟩ := q5.at 0 (b_ - 1).toNat (by omega)
    have hel15 := getD_Q q6 0 (n := (b_ - 1).toNat) (by have := q5.len_eq; omega)
    refine J.ok (OK.index 158 22 1 m.gY_a p15 m.gY_n (b_ - 1).toNat (b_ - 1) (p15.add (b_ - 1).toNat) (by kernel_rfl) (by kernel_rfl) hp15 (by omega) (by omega) (by rw [Nat.mul_one])) ?_
    refine J.ok (OK.ldCell 159 3 (p15.add (b_ - 1).toNat) (iv (m.gY_l.getD (b_ - 1).toNat 0)) (by kernel_rfl) (by kernel_rfl) (S19.cell hc15)) ?_
    refine J.run 4 K3_88 [(163, .bool (decide (y ≤ (m.gY_l.getD (b_ - 1).toNat 0)))), (22, .pointer (some ⟨b4, 0, none⟩)), (21, iv b_), (7, .pointer (some ⟨b1, 0, none⟩)), (4, iv x), (5, iv y)] w19 (by kernel_rfl) ?_
    by_cases fk30 : y ≤ (m.gY_l.getD (b_ - 1).toNat 0)
    ·skip
     refine J.head (.bool true) (congrArg Value.bool (decide_eq_true fk30)) ?_
     refine J.run 19 K3_25 [(22, .pointer (some ⟨b4, 0, none⟩)), (7, .pointer (some ⟨b1, 0, none⟩)), (4, iv x), (5, iv y), (24, .bool true)] w19 (by kernel_rfl) ?_
     exact X2 true w19 ((by intro _; omega)) S19
    refine J.head (.bool false) (congrArg Value.bool (decide_eq_false fk30)) ?_
    refine J.run 2 K3_89 [(165, iv (IntKind.wrap .i64 (b_ + 1))), (163, .bool false), (22, .pointer (some ⟨b4, 0, none⟩)), (21, iv b_), (7, .pointer (some ⟨b1, 0, none⟩)), (4, iv x), (5, iv y)] w19 (by kernel_rfl) ?_
    refine J.head (iv (b_ + 1)) (congrArg (Value.int .i64) (IntWalk.i64_in _ (by omega))) ?_
    refine J.run 1 K3_90 [(166, .pointer (some ⟨b1, 1, none⟩)), (165, iv (b_ + 1)), (163, .bool false), (22, .pointer (some ⟨b4, 0, none⟩)), (21, iv b_), (7, .pointer (some ⟨b1, 0, none⟩)), (4, iv x), (5, iv y)] w19 (by kernel_rfl) ?_
    refine J.ok (OK.ldBox S19 12 167 22 1 (.slice m.gY_a m.gY_n m.gY_c) (by kernel_rfl) rfl (by kernel_rfl)) ?_
    refine J.run 3 K3_91 [(170, .bool (decide ((b_ + 1) < (m.gY_n : Int)))), (163, .bool false), (22, .pointer (some ⟨b4, 0, none⟩)), (21, iv b_), (7, .pointer (some ⟨b1, 0, none⟩)), (4, iv x), (5, iv y)] w19 (by kernel_rfl) ?_
    by_cases fk31 : (b_ + 1) < (m.gY_n : Int)
    rotate_left
    ·skip
     refine J.head (.bool false) (congrArg Value.bool (decide_eq_false fk31)) ?_
     refine J.run 12 K3_25 [(22, .pointer (some ⟨b4, 0, none⟩)), (7, .pointer (some ⟨b1, 0, none⟩)), (4, iv x), (5, iv y), (24, .bool false)] w19 (by kernel_rfl) ?_
     exact X2 false w19 ((by intro h_; cases h_)) S19
    refine J.head (.bool true) (congrArg Value.bool (decide_eq_true fk31)) ?_
    refine J.run 2 K3_92 [(172, .pointer (some ⟨b1, 1, none⟩)), (171, iv y), (170, .bool true), (163, .bool false), (22, .pointer (some ⟨b4, 0, none⟩)), (21, iv b_), (7, .pointer (some ⟨b1, 0, none⟩)), (4, iv x), (5, iv y)] w19 (by kernel_rfl) ?_
    refine J.ok (OK.ldBox S19 12 173 22 1 (.slice m.gY_a m.gY_n m.gY_c) (by kernel_rfl) rfl (by kernel_rfl)) ?_
    refine J.run 2 K3_93 [(175, iv (IntKind.wrap .i64 (b_ + 1))), (173, .slice m.gY_a m.gY_n m.gY_c), (171, iv y), (170, .bool true), (163, .bool false), (22, .pointer (some ⟨b4, 0, none⟩)), (7, .pointer (some ⟨b1, 0, none⟩)), (4, iv x), (5, iv y)] w19 (by kernel_rfl) ?_
    refine J.head (iv (b_ + 1)) (congrArg (Value.int .i64) (IntWalk.i64_in _ (by omega))) ?_
    obtain ⟨p16, hp16, hc16⟩ := q5.at 0 (b_ + 1).toNat (by omega)
    have hel16 := getD_Q q6 0 (n := (b_ + 1).toNat) (by have := q5.len_eq; omega)
    refine J.ok (OK.index 176 22 1 m.gY_a p16 m.gY_n (b_ + 1).toNat (b_ + 1) (p16.add (b_ + 1).toNat) (by kernel_rfl) (by kernel_rfl) hp16 (by omega) (by omega) (by rw [Nat.mul_one])) ?_
    refine J.ok (OK.ldCell 177 3 (p16.add (b_ + 1).toNat) (iv (m.gY_l.getD (b_ + 1).toNat 0)) (by kernel_rfl) (by kernel_rfl) (S19.cell hc16)) ?_
    refine J.run 5 K3_25 [(22, .pointer (some ⟨b4, 0, none⟩)), (7, .pointer (some ⟨b1, 0, none⟩)), (4, iv x), (5, iv y), (24, .bool (decide (y ≥ (m.gY_l.getD (b_ + 1).toNat 0))))] w19 (by kernel_rfl) ?_
    exact X2 (decide (y ≥ (m.gY_l.getD (b_ + 1).toNat 0))) w19 ((by intro h_; have h2_ := of_decide_eq_true h_; omega)) S19
   refine J.head (.bool true) (congrArg Value.bool (decide_eq_true fk23)) ?_
   refine J.run 2 K3_68 [(140, .pointer (some ⟨b1, 0, none⟩)), (139, iv x), (138, .bool true), (131, .bool false), (22, .pointer (some ⟨b4, 0, none⟩)), (21, iv b_), (20, iv a_), (7, .pointer (some ⟨b1, 0, none⟩)), (4, iv x), (5, iv y)] w19 (by kernel_rfl) ?_
   refine J.ok (OK.ldBox S19 12 141 22 0 (.slice m.gX_a m.gX_n m.gX_c) (by kernel_rfl) rfl (by kernel_rfl)) ?_
   refine J.run 2 K3_69 [(143, iv (IntKind.wrap .i64 (a_ + 1))), (141, .slice m.gX_a m.gX_n m.gX_c), (139, iv x), (138, .bool true), (131, .bool false), (22, .pointer (some ⟨b4, 0, none⟩)), (21, iv b_), (7, .pointer (some ⟨b1, 0, none⟩)), (4, iv x), (5, iv y)] w19 (by kernel_rfl) ?_
   refine J.head (iv (a_ + 1)) (congrArg (Value.int .i64) (IntWalk.i64_in _ (by omega))) ?_
   obtain ⟨p11, hp11, hc11⟩ := q2.at 0 (a_ + 1).toNat (by omega)
   have hel11 := getD_Q q3 0 (n := (a_ + 1).toNat) (by have := q2.len_eq; omega)
   refine J.ok (OK.index 144 22 1 m.gX_a p11 m.gX_n (a_ + 1).toNat (a_ + 1) (p11.add (a_ + 1).toNat) (by kernel_rfl) (by kernel_rfl) hp11 (by omega) (by omega) (by rw [Nat.mul_one])) ?_
   refine J.ok (OK.ldCell 145 3 (p11.add (a_ + 1).toNat) (iv (m.gX_l.getD (a_ + 1).toNat 0)) (by kernel_rfl) (by kernel_rfl) (S19.cell hc11)) ?_
   refine J.run 4 K3_70 [(149, .bool (decide (x ≥ (m.gX_l.getD (a_ + 1).toNat 0)))), (22, .pointer (some ⟨b4, 0, none⟩)), (21, iv b_), (7, .pointer (some ⟨b1, 0, none⟩)), (4, iv x), (5, iv y)] w19 (by kernel_rfl) ?_
   by_cases fk24 : x ≥ (m.gX_l.getD (a_ + 1).toNat 0)
   ·skip
    refine J.head (.bool true) (congrArg Value.bool (decide_eq_true fk24)) ?_
    refine J.run 33 K3_25 [(22, .pointer (some ⟨b4, 0, none⟩)), (7, .pointer (some ⟨b1, 0, none⟩)), (4, iv x), (5, iv y), (24, .bool true)] w19 (by kernel_rfl) ?_
    exact X2 true w19 ((by intro _; omega)) S19
   refine J.head (.bool false) (congrArg Value.bool (decide_eq_false fk24)) ?_
   refine J.run 3 K3_71 [(152, .bool (decide (b_ > 0))), (149, .bool false), (22, .pointer (some ⟨b4, 0, none⟩)), (21, iv b_), (7, .pointer (some ⟨b1, 0, none⟩)), (4, iv x), (5, iv y)] w19 (by kernel_rfl) ?_
   by_cases fk25 : b_ > 0
   rotate_left
   ·skip
    refine J.head (.bool false) (congrArg Value.bool (decide_eq_false fk25)) ?_
    refine J.run 13 K3_80 [(165, iv (IntKind.wrap .i64 (b_ + 1))), (163, .bool false), (22, .pointer (some ⟨b4, 0, none⟩)), (21, iv b_), (7, .pointer (some ⟨b1, 0, none⟩)), (4, iv x), (5, iv y)] w19 (by kernel_rfl) ?_
    refine J.head (iv (b_ + 1)) (congrArg (Value.int .i64) (IntWalk.i64_in _ (by omega))) ?_
    refine J.run 1 K3_81 [(166, .pointer (some ⟨b1, 1, none⟩)), (165, iv (b_ + 1)), (163, .bool false), (22, .pointer (some ⟨b4, 0, none⟩)), (21, iv b_), (7, .pointer (some ⟨b1, 0, none⟩)), (4, iv x), (5, iv y)] w19 (by kernel_rfl) ?_
    refine J.ok (OK.ldBox S19 12 167 22 1 (.slice m.gY_a m.gY_n m.gY_c) (by kernel_rfl) rfl (by kernel_rfl)) ?_
    refine J.run 3 K3_82 [(170, .bool (decide ((b_ + 1) < (m.gY_n : Int)))), (163, .bool false), (22, .pointer (some ⟨b4, 0, none⟩)), (21, iv b_), (7, .pointer (some ⟨b1, 0, none⟩)), (4, iv x), (5, iv y)] w19 (by kernel_rfl) ?_
    by_cases fk28 : (b_ + 1) < (m.gY_n : Int)
    rotate_left
    ·skip
     refine J.head (.bool false) (congrArg Value.bool (decide_eq_false fk28)) ?_
     refine J.run 12 K3_25 [(22, .pointer (some ⟨b4, 0, none⟩)), (7, .pointer (some ⟨b1, 0, none⟩)), (4, iv x), (5, iv y), (24, .bool false)] w19 (by kernel_rfl) ?_
     exact X2 false w19 ((by intro h_; cases h_)) S19
    refine J.head (.bool true) (congrArg Value.bool (decide_eq_true fk28)) ?_
    refine J.run 2 K3_83 [(172, .pointer (some ⟨b1, 1, none⟩)), (171, iv y), (170, .bool true), (163, .bool false), (22, .pointer (some ⟨b4, 0, none⟩)), (21, iv b_), (7, .pointer (some ⟨b1, 0, none⟩)), (4, iv x), (5, iv y)] w19 (by kernel_rfl) ?_
    refine J.ok (OK.ldBox S19 12 173 22 1 (.slice m.gY_a m.gY_n m.gY_c) (by kernel_rfl) rfl (by kernel_rfl)) ?_
    refine J.run 2 K3_84 [(175, iv (IntKind.wrap .i64 (b_ + 1))), (173, .slice m.gY_a m.gY_n m.gY_c), (171, iv y), (170, .bool true), (163, .bool false), (22, .pointer (some ⟨b4, 0, none⟩)), (7, .pointer (some ⟨b1, 0, none⟩)), (4, iv x), (5, iv y)] w19 (by kernel_rfl) ?_
    refine J.head (iv (b_ + 1)) (congrArg (Value.int .i64) (IntWalk.i64_in _ (by omega))) ?_
    obtain ⟨p14, hp14, hc14⟩ := q5.at 0 (b_ + 1).toNat (by omega)
    have hel14 := getD_Q q6 0 (n := (b_ + 1).toNat) (by have := q5.len_eq; omega)
    refine J.ok (OK.index 176 22 1 m.gY_a p14 m.gY_n (b_ + 1).toNat (b_ + 1) (p14.add (b_ + 1).toNat) (by kernel_rfl) (by kernel_rfl) hp14 (by omega) (by omega) (by rw [Nat.mul_one])) ?_
    refine J.ok (OK.ldCell 177 3 (p14.add (b_ + 1).toNat) (iv (m.gY_l.getD (b_ + 1).toNat 0)) (by kernel_rfl) (by kernel_rfl) (S19.cell hc14)) ?_
    refine J.run 5 K3_25 [(22, .pointer (some ⟨b4, 0, none⟩)), (7, .pointer (some ⟨b1, 0, none⟩)), (4, iv x), (5, iv y), (24, .bool (decide (y ≥ (m.gY_l.getD (b_ + 1).toNat 0))))] w19 (by kernel_rfl) ?_
    exact X2 (decide (y ≥ (m.gY_l.getD (b_ + 1).toNat 0))) w19 ((by intro h_; have h2_ := of_decide_eq_true h_; omega)) S19
   refine J.head (.bool true) (congrArg Value.bool (decide_eq_true fk25)) ?_
   refine J.run 2 K3_72 [(154, .pointer (some ⟨b1, 1, none⟩)), (153, iv y), (152, .bool true), (149, .bool false), (22, .pointer (some ⟨b4, 0, none⟩)), (21, iv b_), (7, .pointer (some ⟨b1, 0, none⟩)), (4, iv x), (5, iv y)] w19 (by kernel_rfl) ?_
   refine J.ok (OK.ldBox S19 12 155 22 1 (.slice m.gY_a m.gY_n m.gY_c) (by kernel_rfl) rfl (by kernel_rfl)) ?_
   refine J.run 2 K3_73 [(157, iv (IntKind.wrap .i64 (b_ - 1))), (155, .slice m.gY_a m.gY_n m.gY_c), (153, iv y), (152, .bool true), (149, .bool false), (22, .pointer (some ⟨b4, 0, none⟩)), (21, iv b_), (7, .pointer (some ⟨b1, 0, none⟩)), (4, iv x), (5, iv y)] w19 (by kernel_rfl) ?_
   refine J.head (iv (b_ - 1)) (congrArg (Value.int .i64) (IntWalk.i64_in _ (by omega))) ?_
   obtain ⟨p12, hp12, hc12⟩ := q5.at 0 (b_ - 1).toNat (by omega)
   have hel12 := getD_Q q6 0 (n := (b_ - 1).toNat) (by have := q5.len_eq; omega)
   refine J.ok (OK.index 158 22 1 m.gY_a p12 m.gY_n (b_ - 1).toNat (b_ - 1) (p12.add (b_ - 1).toNat) (by kernel_rfl) (by kernel_rfl) hp12 (by omega) (by omega) (by rw [Nat.mul_one])) ?_
   refine J.ok (OK.ldCell 159 3 (p12.add (b_ - 1).toNat) (iv (m.gY_l.getD (b_ - 1).toNat 0)) (by kernel_rfl) (by kernel_rfl) (S19.cell hc12)) ?_
   refine J.run 4 K3_74 [(163, .bool (decide (y ≤ (m.gY_l.getD (b_ - 1).toNat 0)))), (22, .pointer (some ⟨b4, 0, none⟩)), (21, iv b_), (7, .pointer (some ⟨b1, 0, none⟩)), (4, iv x), (5, iv y)] w19 (by kernel_rfl) ?_
   by_cases fk26 : y ≤ (m.gY_l.getD (b_ - 1).toNat 0)
   ·skip
    refine J.head (.bool true) (congrArg Value.bool (decide_eq_true fk26)) ?_
    refine J.run 19 K3_25 [(22, .pointer (some ⟨b4, 0, none⟩)), (7, .pointer (some ⟨b1, 0, none⟩)), (4, iv x), (5, iv y), (24, .bool true)] w19 (by kernel_rfl) ?_
    exact X2 true w19 ((by intro _; omega)) S19
   refine J.head (.bool false) (congrArg Value.bool (decide_eq_false fk26)) ?_
   refine J.run 2 K3_75 [(165, iv (IntKind.wrap .i64 (b_ + 1))), (163, .bool false), (22, .pointer (some ⟨b4, 0, none⟩)), (21, iv b_), (7, .pointer (some ⟨b1, 0, none⟩)), (4, iv x), (5, iv y)] w19 (by kernel_rfl) ?_
   refine J.head (iv (b_ + 1)) (congrArg (Value.int .i64) (IntWalk.i64_in _ (by omega))) ?_
   refine J.run 1 K3_76 [(166, .pointer (some ⟨b1, 1, none⟩)), (165, iv (b_ + 1)), (163, .bool false), (22, .pointer (some ⟨b4, 0, none⟩)), (21, iv b_), (7, .pointer (some ⟨b1, 0, none⟩)), (4, iv x), (5, iv y)] w19 (by kernel_rfl) ?_
   refine J.ok (OK.ldBox S19 12 167 22 1 (.slice m.gY_a m.gY_n m.gY_c) (by kernel_rfl) rfl (by kernel_rfl)) ?_
   refine J.run 3 K3_77 [(170, .bool (decide ((b_ + 1) < (m.gY_n : Int)))), (163, .bool false), (22, .pointer (some ⟨b4, 0, none⟩)), (21, iv b_), (7, .pointer (some ⟨b1, 0, none⟩)), (4, iv x), (5, iv y)] w19 (by kernel_rfl) ?_
   by_cases fk27 : (b_ + 1) < (m.gY_n : Int)
   rotate_left
   ·skip
    refine J.head (.bool false) (congrArg Value.bool (decide_eq_false fk27)) ?_
    refine J.run 12 K3_25 [(22, .pointer (some ⟨b4, 0, none⟩)), (7, .pointer (some ⟨b1, 0, none⟩)), (4, iv x), (5, iv y), (24, .bool false)] w19 (by kernel_rfl) ?_
    exact X2 false w19 ((by intro h_; cases h_)) S19
   refine J.head (.bool true) (congrArg Value.bool (decide_eq_true fk27)) ?_
   refine J.run 2 K3_78 [(172, .pointer (some ⟨b1, 1, none⟩)), (171, iv y), (170, .bool true), (163, .bool false), (22, .pointer (some ⟨b4, 0, none⟩)), (21, iv b_), (7, .pointer (some ⟨b1, 0, none⟩)), (4, iv x), (5, iv y)] w19 (by kernel_rfl) ?_
   refine J.ok (OK.ldBox S19 12 173 22 1 (.slice m.gY_a m.gY_n m.gY_c) (by kernel_rfl) rfl (by kernel_rfl)) ?_
   refine J.run 2 K3_79 [(175, iv (IntKind.wrap .i64 (b_ + 1))), (173, .slice m.gY_a m.gY_n m.gY_c), (171, iv y), (170, .bool true), (163, .bool false), (22, .pointer (some ⟨b4, 0, none⟩)), (7, .pointer (some ⟨b1, 0, none⟩)), (4, iv x), (5, iv y)] w19 (by kernel_rfl) ?_
   refine J.head (iv (b_ + 1)) (congrArg (Value.int .i64) (IntWalk.i64_in _ (by omega))) ?_
   obtain ⟨p13, hp13, hc13⟩ := q5.at 0 (b_ + 1).toNat (by omega)
   have hel13 := getD_Q q6 0 (n := (b_ + 1).toNat) (by have := q5.len_eq; omega)
   refine J.ok (OK.index 176 22 1 m.gY_a p13 m.gY_n (b_ + 1).toNat (b_ + 1) (p13.add (b_ + 1).toNat) (by kernel_rfl) (by kernel_rfl) hp13 (by omega) (by omega) (by rw [Nat.mul_one])) ?_
   refine J.ok (OK.ldCell 177 3 (p13.add (b_ + 1).toNat) (iv (m.gY_l.getD (b_ + 1).toNat 0)) (by kernel_rfl) (by kernel_rfl) (S19.cell hc13)) ?_
   refine J.run 5 K3_25 [(22, .pointer (some ⟨b4, 0, none⟩)), (7, .pointer (some ⟨b1, 0, none⟩)), (4, iv x), (5, iv y), (24, .bool (decide (y ≥ (m.gY_l.getD (b_ + 1).toNat 0))))] w19 (by kernel_rfl) ?_
   exact X2 (decide (y ≥ (m.gY_l.getD (b_ + 1).toNat 0))) w19 ((by intro h_; have h2_ := of_decide_eq_true h_; omega)) S19
  refine J.head (.bool true) (congrArg Value.bool (decide_eq_true fk11)) ?_
  refine J.run 2 K3_28 [(123, .pointer (some ⟨b1, 0, none⟩)), (122, iv x), (121, .bool true), (22, .pointer (some ⟨b4, 0, none⟩)), (21, iv b_), (20, iv a_), (7, .pointer (some ⟨b1, 0, none⟩)), (4, iv x), (5, iv y)] w19 (by kernel_rfl) ?_
  refine J.ok (OK.ldBox S19 12 124 22 0 (.slice m.gX_a m.gX_n m.gX_c) (by kernel_rfl) rfl (by kernel_rfl)) ?_
  refine J.run 2 K3_29 [(126, iv (IntKind.wrap .i64 (a_ - 1))), (124, .slice m.gX_a m.gX_n m.gX_c), (122, iv x), (121, .bool true), (22, .pointer (some ⟨b4, 0, none⟩)), (21, iv b_), (20, iv a_), (7, .pointer (some ⟨b1, 0, none⟩)), (4, iv x), (5, iv y)] w19 (by kernel_rfl) ?_
  refine J.head (iv (a_ - 1)) (congrArg (Value.int .i64) (IntWalk.i64_in _ (by omega))) ?_
  obtain ⟨p3, hp3, hc3⟩ := q2.at 0 (a_ - 1).toNat (by omega)
  have hel3 := getD_Q q3 0 (n := (a_ - 1).toNat) (by have := q2.len_eq; omega)
  refine J.ok (OK.index 127 22 1 m.gX_a p3 m.gX_n (a_ - 1).toNat (a_ - 1) (p3.add (a_ - 1).toNat) (by kernel_rfl) (by kernel_rfl) hp3 (by omega) (by omega) (by rw [Nat.mul_one])) ?_
  refine J.ok (OK.ldCell 128 3 (p3.add (a_ - 1).toNat) (iv (m.gX_l.getD (a_ - 1).toNat 0)) (by kernel_rfl) (by kernel_rfl) (S19.cell hc3)) ?_
  refine J.run 3 K3_30 [(131, .bool (decide (x ≤ (m.gX_l.getD (a_ - 1).toNat 0)))), (22, .pointer (some ⟨b4, 0, none⟩)), (21, iv b_), (20, iv a_), (7, .pointer (some ⟨b1, 0, none⟩)), (4, iv x), (5, iv y)] w19 (by kernel_rfl) ?_
  by_cases fk12 : x ≤ (m.gX_l.getD (a_ - 1).toNat 0)
  ·skip
   refine J.head (.bool true) (congrArg Value.bool (decide_eq_true fk12)) ?_
   refine J.run 51 K3_25 [(22, .pointer (some ⟨b4, 0, none⟩)), (7, .pointer (some ⟨b1, 0, none⟩)), (4, iv x), (5, iv y), (24, .bool true)] w19 (by kernel_rfl) ?_
   exact X2 true w19 ((by intro _; omega)) S19
  refine J.head (.bool false) (congrArg Value.bool (decide_eq_false fk12)) ?_
  refine J.run 2 K3_31 [(133, iv (IntKind.wrap .i64 (a_ + 1))), (131, .bool false), (22, .pointer (some ⟨b4, 0, none⟩)), (21, iv b_), (20, iv a_), (7, .pointer (some ⟨b1, 0, none⟩)), (4, iv x), (5, iv y)] w19 (by kernel_rfl) ?_
  refine J.head (iv (a_ + 1)) (congrArg (Value.int .i64) (IntWalk.i64_in _ (by omega))) ?_
  refine J.run 1 K3_32 [(134, .pointer (some ⟨b1, 0, none⟩)), (133, iv (a_ + 1)), (131, .bool false), (22, .pointer (some ⟨b4, 0, none⟩)), (21, iv b_), (20, iv a_), (7, .pointer (some ⟨b1, 0, none⟩)), (4, iv x), (5, iv y)] w19 (by kernel_rfl) ?_
  refine J.ok (OK.ldBox S19 12 135 22 0 (.slice m.gX_a m.gX_n m.gX_c) (by kernel_rfl) rfl (by kernel_rfl)) ?_
  refine J.run 3 K3_33 [(138, .bool (decide ((a_ + 1) < (m.gX_n : Int)))), (131, .bool false), (22, .pointer (some ⟨b4, 0, none⟩)), (21, iv b_), (20, iv a_), (7, .pointer (some ⟨b1, 0, none⟩)), (4, iv x), (5, iv y)] w19 (by kernel_rfl) ?_
  by_cases fk13 : (a_ + 1) < (m.gX_n : Int)
  rotate_left
  ·skip
   refine J.head (.bool false) (congrArg Value.bool (decide_eq_false fk13)) ?_
   refine J.run 14 K3_51 [(152, .bool (decide (b_ > 0))), (149, .bool false), (22, .pointer (some ⟨b4, 0, none⟩)), (21, iv b_), (7, .pointer (some ⟨b1, 0, none⟩)), (4, iv x), (5, iv y)] w19 (by kernel_rfl) ?_
   by_cases fk19 : b_ > 0
   rotate_left
   ·skip
    refine J.head (.bool false) (congrArg Value.bool (decide_eq_false fk19)) ?_
    refine J.run 13 K3_60 [(165, iv (IntKind.wrap .i64 (b_ + 1))), (163, .bool false), (22, .pointer (some ⟨b4, 0, none⟩)), (21, iv b_), (7, .pointer (some ⟨b1, 0, none⟩)), (4, iv x), (5, iv y)] w19 (by kernel_rfl) ?_
    refine J.head (iv (b_ + 1)) (congrArg (Value.int .i64) (IntWalk.i64_in _ (by omega))) ?_
    refine J.run 1 K3_61 [(166, .pointer (some ⟨b1, 1, none⟩)), (165, iv (b_ + 1)), (163, .bool false), (22, .pointer (some ⟨b4, 0, none⟩)), (21, iv b_), (7, .pointer (some ⟨b1, 0, none⟩)), (4, iv x), (5, iv y)] w19 (by kernel_rfl) ?_
    refine J.ok (OK.ldBox S19 12 167 22 1 (.slice m.gY_a m.gY_n m.gY_c) (by kernel_rfl) rfl (by kernel_rfl)) ?_
    refine J.run 3 K3_62 [(170, .bool (decide ((b_ + 1) < (m.gY_n : Int)))), (163, .bool false), (22, .pointer (some ⟨b4, 0, none⟩)), (21, iv b_), (7, .pointer (some ⟨b1, 0, none⟩)), (4, iv x), (5, iv y)] w19 (by kernel_rfl) ?_
    by_cases fk22 : (b_ + 1) < (m.gY_n : Int)
    rotate_left
    ·skip
     refine J.head (.bool false) (congrArg Value.bool (decide_eq_false fk22)) ?_
     refine J.run 12 K3_25 [(22, .pointer (some ⟨b4, 0, none⟩)), (7, .pointer (some ⟨b1, 0, none⟩)), (4, iv x), (5, iv y), (24, .bool false)] w19 (by kernel_rfl) ?_
     exact X2 false w19 ((by intro h_; cases h_)) S19
    refine J.head (.bool true) (congrArg Value.bool (decide_eq_true fk22)) ?_
    refine J.run 2 K3_63 [(172, .pointer (some ⟨b1, 1, none⟩)), (171, iv y), (170, .bool true), (163, .bool false), (22, .pointer (some ⟨b4, 0, none⟩)), (21, iv b_), (7, .pointer (some ⟨b1, 0, none⟩)), (4, iv x), (5, iv y)] w19 (by kernel_rfl) ?_
    refine J.ok (OK.ldBox S19 12 173 22 1 (.slice m.gY_a m.gY_n m.gY_c) (by kernel_rfl) rfl (by kernel_rfl)) ?_
    refine J.run 2 K3_64 [(175, iv (IntKind.wrap .i64 (b_ + 1))), (173, .slice m.gY_a m.gY_n m.gY_c), (171, iv y), (170, .bool true), (163, .bool false), (22, .pointer (some ⟨b4, 0, none⟩)), (7, .pointer (some ⟨b1, 0, none⟩)), (4, iv x), (5, iv y)] w19 (by kernel_rfl) ?_
    refine J.head (iv (b_ + 1)) (congrArg (Value.int .i64) (IntWalk.i64_in _ (by omega))) ?_
    obtain ⟨p10, hp10, hc10⟩ := q5.at 0 (b_ + 1).toNat (by omega)
    have hel10 := getD_Q q6 0 (n := (b_ + 1).toNat) (by have := q5.len_eq; omega)
    refine J.ok (OK.index 176 22 1 m.gY_a p10 m.gY_n (b_ + 1).toNat (b_ + 1) (p10.add (b_ + 1).toNat) (by kernel_rfl) (by kernel_rfl) hp10 (by omega) (by omega) (by rw [Nat.mul_one])) ?_
    refine J.ok (OK.ldCell 177 3 (p10.add (b_ + 1).toNat) (iv (m.gY_l.getD (b_ + 1).toNat 0)) (by kernel_rfl) (by kernel_rfl) (S19.cell hc10)) ?_
    refine J.run 5 K3_25 [(22, .pointer (some ⟨b4, 0, none⟩)), (7, .pointer (some ⟨b1, 0, none⟩)), (4, iv x), (5, iv y), (24, .bool (decide (y ≥ (m.gY_l.getD (b_ + 1).toNat 0))))] w19 (by kernel_rfl) ?_
    exact X2 (decide (y ≥ (m.gY_l.getD (b_ + 1).toNat 0))) w19 ((by intro h_; have h2_ := of_decide_eq_true h_; omega)) S19
   refine J.head (.bool true) (congrArg Value.bool (decide_eq_true fk19)) ?_
   refine J.run 2 K3_52 [(154, .pointer (some ⟨b1, 1, none⟩)), (153, iv y), (152, .bool true), (149, .bool false), (22, .pointer (some ⟨b4, 0, none⟩)), (21, iv b_), (7, .pointer (some ⟨b1, 0, none⟩)), (4, iv x), (5, iv y)] w19 (by kernel_rfl) ?_
   refine J.ok (OK.ldBox S19 12 155 22 1 (.slice m.gY_a m.gY_n m.gY_c) (by kernel_rfl) rfl (by kernel_rfl)) ?_
   refine J.run 2 K3_53 [(157, iv (IntKind.wrap .i64 (b_ - 1))), (155, .slice m.gY_a m.gY_n m.gY_c), (153, iv y), (152, .bool true), (149, .bool false), (22, .pointer (some ⟨b4, 0, none⟩)), (21, iv b_), (7, .pointer (some ⟨b1, 0, none⟩)), (4, iv x), (5, iv y)] w19 (by kernel_rfl) ?_
   refine J.head (iv (b_ - 1)) (congrArg (Value.int .i64) (IntWalk.i64_in _ (by omega))) ?_
   obtain ⟨p8, hp8, hc8⟩ := q5.at 0 (b_ - 1).toNat (by omega)
   have hel8 := getD_Q q6 0 (n := (b_ - 1).toNat) (by have := q5.len_eq; omega)
   refine J.ok (OK.index 158 22 1 m.gY_a p8 m.gY_n (b_ - 1).toNat (b_ - 1) (p8.add (b_ - 1).toNat) (by kernel_rfl) (by kernel_rfl) hp8 (by omega) (by omega) (by rw [Nat.mul_one])) ?_
   refine J.ok (OK.ldCell 159 3 (p8.add (b_ - 1).toNat) (iv (m.gY_l.getD (b_ - 1).toNat 0)) (by kernel_rfl) (by kernel_rfl) (S19.cell hc8)) ?_
   refine J.run 4 K3_54 [(163, .bool (decide (y ≤ (m.gY_l.getD (b_ - 1).toNat 0)))), (22, .pointer (some ⟨b4, 0, none⟩)), (21, iv b_), (7, .pointer (some ⟨b1, 0, none⟩)), (4, iv x), (5, iv y)] w19 (by kernel_rfl) ?_
   by_cases fk20 : y ≤ (m.gY_l.getD (b_ - 1).toNat 0)
   ·skip
    refine J.head (.bool true) (congrArg Value.bool (decide_eq_true fk20)) ?_
    refine J.run 19 K3_25 [(22, .pointer (some ⟨b4, 0, none⟩)), (7, .pointer (some ⟨b1, 0, none⟩)), (4, iv x), (5, iv y), (24, .bool true)] w19 (by kernel_rfl) ?_
    exact X2 true w19 ((by intro _; omega)) S19
   refine J.head (.bool false) (congrArg Value.bool (decide_eq_false fk20)) ?_
   refine J.run 2 K3_55 [(165, iv (IntKind.wrap .i64 (b_ + 1))), (163, .bool false), (22, .pointer (some ⟨b4, 0, none⟩)), (21, iv b_), (7, .pointer (some ⟨b1, 0, none⟩)), (4, iv x), (5, iv y)] w19 (by kernel_rfl) ?_
   refine J.head (iv (b_ + 1)) (congrArg (Value.int .i64) (IntWalk.i64_in _ (by omega))) ?_
   refine J.run 1 K3_56 [(166, .pointer (some ⟨b1, 1, none⟩)), (165, iv (b_ + 1)), (163, .bool false), (22, .pointer (some ⟨b4, 0, none⟩)), (21, iv b_), (7, .pointer (some ⟨b1, 0, none⟩)), (4, iv x), (5, iv y)] w19 (by kernel_rfl) ?_
   refine J.ok (OK.ldBox S19 12 167 22 1 (.slice m.gY_a m.gY_n m.gY_c) (by kernel_rfl) rfl (by kernel_rfl)) ?_
   refine J.run 3 K3_57 [(170, .bool (decide ((b_ + 1) < (m.gY_n : Int)))), (163, .bool false), (22, .pointer (some ⟨b4, 0, none⟩)), (21, iv b_), (7, .pointer (some ⟨b1, 0, none⟩)), (4, iv x), (5, iv y)] w19 (by kernel_rfl) ?_
   by_cases fk21 : (b_ + 1) < (m.gY_n : Int)
   rotate_left
   ·skip
    refine J.head (.bool false) (congrArg Value.bool (decide_eq_false fk21)) ?_
    refine J.run 12 K3_25 [(22, .pointer (some ⟨b4, 0, none⟩)), (7, .pointer (some ⟨b1, 0, none⟩)), (4, iv x), (5, iv y), (24, .bool false)] w19 (by kernel_rfl) ?_
    exact X2 false w19 ((by intro h_; cases h_)) S19
   refine J.head (.bool true) (congrArg Value.bool (decide_eq_true fk21)) ?_
   refine J.run 2 K3_58 [(172, .pointer (some ⟨b1, 1, none⟩)), (171, iv y), (170, .bool true), (163, .bool false), (22, .pointer (some ⟨b4, 0, none⟩)), (21, iv b_), (7, .pointer (some ⟨b1, 0, none⟩)), (4, iv x), (5, iv y)] w19 (by kernel_rfl) ?_
   refine J.ok (OK.ldBox S19 12 173 22 1 (.slice m.gY_a m.gY_n m.gY_c) (by kernel_rfl) rfl (by kernel_rfl)) ?_
   refine J.run 2 K3_59 [(175, iv (IntKind.wrap .i64 (b_ + 1))), (173, .slice m.gY_a m.gY_n m.gY_c), (171, iv y), (170, .bool true), (163, .bool false), (22, .pointer (some ⟨b4, 0, none⟩)), (7, .pointer (some ⟨b1, 0, none⟩)), (4, iv x), (5, iv y)] w19 (by kernel_rfl) ?_
   refine J.head (iv (b_ + 1)) (congrArg (Value.int .i64) (IntWalk.i64_in _ (by omega))) ?_
   obtain ⟨p9, hp9, hc9⟩ := q5.at 0 (b_ + 1).toNat (by omega)
   have hel9 := getD_Q q6 0 (n := (b_ + 1).toNat) (by have := q5.len_eq; omega)
   refine J.ok (OK.index 176 22 1 m.gY_a p9 m.gY_n (b_ + 1).toNat (b_ + 1) (p9.add (b_ + 1).toNat) (by kernel_rfl) (by kernel_rfl) hp9 (by omega) (by omega) (by rw [Nat.mul_one])) ?_
   refine J.ok (OK.ldCell 177 3 (p9.add (b_ + 1).toNat) (iv (m.gY_l.getD (b_ + 1).toNat 0)) (by kernel_rfl) (by kernel_rfl) (S19.cell hc9)) ?_
   refine J.run 5 K3_25 [(22, .pointer (some ⟨b4, 0, none⟩)), (7, .pointer (some ⟨b1, 0, none⟩)), (4, iv x), (5, iv y), (24, .bool (decide (y ≥ (m.gY_l.getD (b_ + 1).toNat 0))))] w19 (by kernel_rfl) ?_
   exact X2 (decide (y ≥ (m.gY_l.getD (b_ + 1).toNat 0))) w19 ((by intro h_; have h2_ := of_decide_eq_true h_; omega)) S19
  refine J.head (.bool true) (congrArg Value.bool (decide_eq_true fk13)) ?_
  refine J.run 2 K3_34 [(140, .pointer (some ⟨b1, 0, none⟩)), (139, iv x), (138, .bool true), (131, .bool false), (22, .pointer (some ⟨b4, 0, none⟩)), (21, iv b_), (20, iv a_), (7, .pointer (some ⟨b1, 0, none⟩)), (4, iv x), (5, iv y)] w19 (by kernel_rfl) ?_
  refine J.ok (OK.ldBox S19 12 141 22 0 (.slice m.gX_a m.gX_n m.gX_c) (by kernel_rfl) rfl (by kernel_rfl)) ?_
  refine J.run 2 K3_35 [(143, iv (IntKind.wrap .i64 (a_ + 1))), (141, .slice m.gX_a m.gX_n m.gX_c), (139, iv x), (138, .bool true), (131, .bool false), (22, .pointer (some ⟨b4, 0, none⟩)), (21, iv b_), (7, .pointer (some ⟨b1, 0, none⟩)), (4, iv x), (5, iv y)] w19 (by kernel_rfl) ?_
  refine J.head (iv (a_ + 1)) (congrArg (Value.int .i64) (IntWalk.i64_in _ (by omega))) ?_
  obtain ⟨p4, hp4, hc4⟩ := q2.at 0 (a_ + 1).toNat (by omega)
  have hel4 := getD_Q q3 0 (n := (a_ + 1).toNat) (by have := q2.len_eq; omega)
  refine J.ok (OK.index 144 22 1 m.gX_a p4 m.gX_n (a_ + 1).toNat (a_ + 1) (p4.add (a_ + 1).toNat) (by kernel_rfl) (by kernel_rfl) hp4 (by omega) (by omega) (by rw [Nat.mul_one])) ?_
  refine J.ok (OK.ldCell 145 3 (p4.add (a_ + 1).toNat) (iv (m.gX_l.getD (a_ + 1).toNat 0)) (by kernel_rfl) (by kernel_rfl) (S19.cell hc4)) ?_
  refine J.run 4 K3_36 [(149, .bool (decide (x ≥ (m.gX_l.getD (a_ + 1).toNat 0)))), (22, .pointer (some ⟨b4, 0, none⟩)), (21, iv b_), (7, .pointer (some ⟨b1, 0, none⟩)), (4, iv x), (5, iv y)] w19 (by kernel_rfl) ?_
  by_cases fk14 : x ≥ (m.gX_l.getD (a_ + 1).toNat 0)
  ·skip
   refine J.head (.bool true) (congrArg Value.bool (decide_eq_true fk14)) ?_
   refine J.run 33 K3_25 [(22, .pointer (some ⟨b4, 0, none⟩)), (7, .pointer (some ⟨b1, 0, none⟩)), (4, iv x), (5, iv y), (24, .bool true)] w19 (by kernel_rfl) ?_
   exact X2 true w19 ((by intro _; omega)) S19
  refine J.head (.bool false) (congrArg Value.bool (decide_eq_false fk14)) ?_
  refine J.run 3 K3_37 [(152, .bool (decide (b_ > 0))), (149, .bool false), (22, .pointer (some ⟨b4, 0, none⟩)), (21, iv b_), (7, .pointer (some ⟨b1, 0, none⟩)), (4, iv x), (5, iv y)] w19 (by kernel_rfl) ?_
  by_cases fk15 : b_ > 0
  rotate_left
  ·skip
   refine J.head (.bool false) (congrArg Value.bool (decide_eq_false fk15)) ?_
   refine J.run 13 K3_46 [(165, iv (IntKind.wrap .i64 (b_ + 1))), (163, .bool false), (22, .pointer (some ⟨b4, 0, none⟩)), (21, iv b_), (7, .pointer (some ⟨b1, 0, none⟩)), (4, iv x), (5, iv y)] w19 (by kernel_rfl) ?_
   refine J.head (iv (b_ + 1)) (congrArg (Value.int .i64) (IntWalk.i64_in _ (by omega))) ?_
   refine J.run 1 K3_47 [(166, .pointer (some ⟨b1, 1, none⟩)), (165, iv (b_ + 1)), (163, .bool false), (22, .pointer (some ⟨b4, 0, none⟩)), (21, iv b_), (7, .pointer (some ⟨b1, 0, none⟩)), (4, iv x), (5, iv y)] w19 (by kernel_rfl) ?_
   refine J.ok (OK.ldBox S19 12 167 22 1 (.slice m.gY_a m.gY_n m.gY_c) (by kernel_rfl) rfl (by kernel_rfl)) ?_
   refine J.run 3 K3_48 [(170, .bool (decide ((b_ + 1) < (m.gY_n : Int)))), (163, .bool false), (22, .pointer (some ⟨b4, 0, none⟩)), (21, iv b_), (7, .pointer (some ⟨b1, 0, none⟩)), (4, iv x), (5, iv y)] w19 (by kernel_rfl) ?_
   by_cases fk18 : (b_ + 1) < (m.gY_n : Int)
   rotate_left
   ·skip
    refine J.head (.bool false) (congrArg Value.bool (decide_eq_false fk18)) ?_
    refine J.run 12 K3_25 [(22, .pointer (some ⟨b4, 0, none⟩)), (7, .pointer (some ⟨b1, 0, none⟩)), (4, iv x), (5, iv y), (24, .bool false)] w19 (by kernel_rfl) ?_
    exact X2 false w19 ((by intro h_; cases h_)) S19
   refine J.head (.bool true) (congrArg Value.bool (decide_eq_true fk18)) ?_
   refine J.run 2 K3_49 [(172, .pointer (some ⟨b1, 1, none⟩)), (171, iv y), (170, .bool true), (163, .bool false), (22, .pointer (some ⟨b4, 0, none⟩)), (21, iv b_), (7, .pointer (some ⟨b1, 0, none⟩)), (4, iv x), (5, iv y)] w19 (by kernel_rfl) ?_
   refine J.ok (OK.ldBox S19 12 173 22 1 (.slice m.gY_a m.gY_n m.gY_c) (by kernel_rfl) rfl (by kernel_rfl)) ?_
   refine J.run 2 K3_50 [(175, iv (IntKind.wrap .i64 (b_ + 1))), (173, .slice m.gY_a m.gY_n m.gY_c), (171, iv y), (170, .bool true), (163, .bool false), (22, .pointer (some ⟨b4, 0, none⟩)), (7, .pointer (some ⟨b1, 0, none⟩)), (4, iv x), (5, iv y)] w19 (by kernel_rfl) ?_
   refine J.head (iv (b_ + 1)) (congrArg (Value.int .i64) (IntWalk.i64_in _ (by omega))) ?_
   obtain ⟨p7, hp7, hc7⟩ := q5.at 0 (b_ + 1).toNat (by omega)
   have hel7 := getD_Q q6 0 (n := (b_ + 1).toNat) (by have := q5.len_eq; omega)
   refine J.ok (OK.index 176 22 1 m.gY_a p7 m.gY_n (b_ + 1).toNat (b_ + 1) (p7.add (b_ + 1).toNat) (by kernel_rfl) (by kernel_rfl) hp7 (by omega) (by omega) (by rw [Nat.mul_one])) ?_
   refine J.ok (OK.ldCell 177 3 (p7.add (b_ + 1).toNat) (iv (m.gY_l.getD (b_ + 1).toNat 0)) (by kernel_rfl) (by kernel_rfl) (S19.cell hc7)) ?_
   refine J.run 5 K3_25 [(22, .pointer (some ⟨b4, 0, none⟩)), (7, .pointer (some ⟨b1, 0, none⟩)), (4, iv x), (5, iv y), (24, .bool (decide (y ≥ (m.gY_l.getD (b_ + 1).toNat 0))))] w19 (by kernel_rfl) ?_
   exact X2 (decide (y ≥ (m.gY_l.getD (b_ + 1).toNat 0))) w19 ((by intro h_; have h2_ := of_decide_eq_true h_; omega)) S19
  refine J.head (.bool true) (congrArg Value.bool (decide_eq_true fk15)) ?_
  refine J.run 2 K3_38 [(154, .pointer (some ⟨b1, 1, none⟩)), (153, iv y), (152, .bool true), (149, .bool false), (22, .pointer (some ⟨b4, 0, none⟩)), (21, iv b_), (7, .pointer (some ⟨b1, 0, none⟩)), (4, iv x), (5, iv y)] w19 (by kernel_rfl) ?_
  refine J.ok (OK.ldBox S19 12 155 22 1 (.slice m.gY_a m.gY_n m.gY_c) (by kernel_rfl) rfl (by kernel_rfl)) ?_
  refine J.run 2 K3_39 [(157, iv (IntKind.wrap .i64 (b_ - 1))), (155, .slice m.gY_a m.gY_n m.gY_c), (153, iv y), (152, .bool true), (149, .bool false), (22, .pointer (some ⟨b4, 0, none⟩)), (21, iv b_), (7, .pointer (some ⟨b1, 0, none⟩)), (4, iv x), (5, iv y)] w19 (by kernel_rfl) ?_
  refine J.head (iv (b_ - 1)) (congrArg (Value.int .i64) (IntWalk.i64_in _ (by omega))) ?_
  obtain ⟨p5, hp5, hc5⟩ := q5.at 0 (b_ - 1).toNat (by omega)
  have hel5 := getD_Q q6 0 (n := (b_ - 1).toNat) (by have := q5.len_eq; omega)
  refine J.ok (OK.index 158 22 1 m.gY_a p5 m.gY_n (b_ - 1).toNat (b_ - 1) (p5.add (b_ - 1).toNat) (by kernel_rfl) (by kernel_rfl) hp5 (by omega) (by omega) (by rw [Nat.mul_one])) ?_
  refine J.ok (OK.ldCell 159 3 (p5.add (b_ - 1).toNat) (iv (m.gY_l.getD (b_ - 1).toNat 0)) (by kernel_rfl) (by kernel_rfl) (S19.cell hc5)) ?_
  refine J.run 4 K3_40 [(163, .bool (decide (y ≤ (m.gY_l.getD (b_ - 1).toNat 0)))), (22, .pointer (some ⟨b4, 0, none⟩)), (21, iv b_), (7, .pointer (some ⟨b1, 0, none⟩)), (4, iv x), (5, iv y)] w19 (by kernel_rfl) ?_
  by_cases fk16 : y ≤ (m.gY_l.getD (b_ - 1).toNat 0)
  ·skip
   refine J.head (.bool true) (congrArg Value.bool (decide_eq_true fk16)) ?_
   refine J.run 19 K3_25 [(22, .pointer (some ⟨b4, 0, none⟩)), (7, .pointer (some ⟨b1, 0, none⟩)), (4, iv x), (5, iv y), (24, .bool true)] w19 (by kernel_rfl) ?_
   exact X2 true w19 ((by intro _; omega)) S19
  refine J.head (.bool false) (congrArg Value.bool (decide_eq_false fk16)) ?_
  refine J.run 2 K3_41 [(165, iv (IntKind.wrap .i64 (b_ + 1))), (163, .bool false), (22, .pointer (some ⟨b4, 0, none⟩)), (21, iv b_), (7, .pointer (some ⟨b1, 0, none⟩)), (4, iv x), (5, iv y)] w19 (by kernel_rfl) ?_
  refine J.head (iv (b_ + 1)) (congrArg (Value.int .i64) (IntWalk.i64_in _ (by omega))) ?_
  refine J.run 1 K3_42 [(166, .pointer (some ⟨b1, 1, none⟩)), (165, iv (b_ + 1)), (163, .bool false), (22, .pointer (some ⟨b4, 0, none⟩)), (21, iv b_), (7, .pointer (some ⟨b1, 0, none⟩)), (4, iv x), (5, iv y)] w19 (by kernel_rfl) ?_
  refine J.ok (OK.ldBox S19 12 167 22 1 (.slice m.gY_a m.gY_n m.gY_c) (by kernel_rfl) rfl (by kernel_rfl)) ?_
  refine J.run 3 K3_43 [(170, .bool (decide ((b_ + 1) < (m.gY_n : Int)))), (163, .bool false), (22, .pointer (some ⟨b4, 0, none⟩)), (21, iv b_), (7, .pointer (some ⟨b1, 0, none⟩)), (4, iv x), (5, iv y)] w19 (by kernel_rfl) ?_
  by_cases fk17 : (b_ + 1) < (m.gY_n : Int)
  rotate_left
  ·skip
   refine J.head (.bool false) (congrArg Value.bool (decide_eq_false fk17)) ?_
   refine J.run 12 K3_25 [(22, .pointer (some ⟨b4, 0, none⟩)), (7, .pointer (some ⟨b1, 0, none⟩)), (4, iv x), (5, iv y), (24, .bool false)] w19 (by kernel_rfl) ?_
   exact X2 false w19 ((by intro h_; cases h_)) S19
  refine J.head (.bool true) (congrArg Value.bool (decide_eq_true fk17)) ?_
  refine J.run 2 K3_44 [(172, .pointer (some ⟨b1, 1, none⟩)), (171, iv y), (170, .bool true), (163, .bool false), (22, .pointer (some ⟨b4, 0, none⟩)), (21, iv b_), (7, .pointer (some ⟨b1, 0, none⟩)), (4, iv x), (5, iv y)] w19 (by kernel_rfl) ?_
  refine J.ok (OK.ldBox S19 12 173 22 1 (.slice m.gY_a m.gY_n m.gY_c) (by kernel_rfl) rfl (by kernel_rfl)) ?_
  refine J.run 2 K3_45 [(175, iv (IntKind.wrap .i64 (b_ + 1))), (173, .slice m.gY_a m.gY_n m.gY_c), (171, iv y), (170, .bool true), (163, .bool false), (22, .pointer (some ⟨b4, 0, none⟩)), (7, .pointer (some ⟨b1, 0, none⟩)), (4, iv x), (5, iv y)] w19 (by kernel_rfl) ?_
  refine J.head (iv (b_ + 1)) (congrArg (Value.int .i64) (IntWalk.i64_in _ (by omega))) ?_
  obtain ⟨p6, hp6, hc6⟩ := q5.at 0 (b_ + 1).toNat (by omega)
  have hel6 := getD_Q q6 0 (n := (b_ + 1).toNat) (by have := q5.len_eq; omega)
  refine J.ok (OK.index 176 22 1 m.gY_a p6 m.gY_n (b_ + 1).toNat (b_ + 1) (p6.add (b_ + 1).toNat) (by kernel_rfl) (by kernel_rfl) hp6 (by omega) (by omega) (by rw [Nat.mul_one])) ?_
  refine J.ok (OK.ldCell 177 3 (p6.add (b_ + 1).toNat) (iv (m.gY_l.getD (b_ + 1).toNat 0)) (by kernel_rfl) (by kernel_rfl) (S19.cell hc6)) ?_
  refine J.run 5 K3_25 [(22, .pointer (some ⟨b4, 0, none⟩)), (7, .pointer (some ⟨b1, 0, none⟩)), (4, iv x), (5, iv y), (24, .bool (decide (y ≥ (m.gY_l.getD (b_ + 1).toNat 0))))] w19 (by kernel_rfl) ?_
  exact X2 (decide (y ≥ (m.gY_l.getD (b_ + 1).toNat 0))) w19 ((by intro h_; have h2_ := of_decide_eq_true h_; omega)) S19
 refine J.run 4 K3_105 [(42, .bool ((prE s) == 0)), (15, .pointer (some ⟨b2, 0, none⟩)), (7, .pointer (some ⟨b1, 0, none⟩)), (1, .int .u8 i), (2, .int .u8 j), (3, iv z), (4, iv x), (5, iv y), (6, .string s)] w6 (by kernel_rfl) ?_
 by_cases fk36 : (prE s) = 0
 rotate_left
 ·skip
  refine J.head (.bool false) (congrArg Value.bool (beq_eq_false_iff_ne.2 fk36)) ?_
  refine J.run 6 K3_9 [(7, .pointer (some ⟨b1, 0, none⟩)), (1, .int .u8 i), (2, .int .u8 j), (3, iv z), (4, iv x), (5, iv y), (47, .bool false)] w6 (by kernel_rfl) ?_
  exact X1  w6  S6
 refine J.head (.bool true) (congrArg Value.bool (beq_iff_eq.2 fk36)) ?_
 have htp : txM pm1 = s := tx_parsed hl_pm1 hv_pm1 fk36
 refine J.ok (OK.ldBox S6 0 43 25 0 (.agg #[.slice pm1.gX_a pm1.gX_n pm1.gX_c, .slice pm1.gY_a pm1.gY_n pm1.gY_c, .slice pm1.gZ_a pm1.gZ_n pm1.gZ_c]) (by kernel_rfl) rfl (by kernel_rfl)) ?_
 refine J.callF 44 7 #[.agg #[.slice pm1.gX_a pm1.gX_n pm1.gX_c, .slice pm1.gY_a pm1.gY_n pm1.gY_c, .slice pm1.gZ_a pm1.gZ_n pm1.gZ_c]] hb7 (by kernel_rfl) (text6_any pm1 _ (mp_q S6 hl_pm1 hk_pm1 (S6.nth 1 rfl) (S6.nth 2 rfl) (S6.nth 3 rfl) (fun c_ h_ => (show c_ ∈ [box b2 [.slice pm1.gX_a pm1.gX_n pm1.gX_c, .slice pm1.gY_a pm1.gY_n pm1.gY_c, .slice pm1.gZ_a pm1.gZ_n pm1.gZ_c] 25, rowOf Eng.encI pm1.gX_a pm1.gX_c 3 1 pm1.gX_l, rowOf Eng.encI pm1.gY_a pm1.gY_c 3 1 pm1.gY_l, rowOf rwE pm1.gZ_a pm1.gZ_c 22 1 pm1.gZ_l, box b1 [.slice m.gX_a m.gX_n m.gX_c, .slice m.gY_a m.gY_n m.gY_c, .slice m.gZ_a m.gZ_n m.gZ_c] 25] ++ tlR pm1.gZ_l from List.mem_append.2 (.inr (h_))))) (tabW_sep hW S6)) ?_
 rintro _ w25 ⟨rfl, T12⟩
 have S25 : Sep w (box b2 [.slice pm1.gX_a pm1.gX_n pm1.gX_c, .slice pm1.gY_a pm1.gY_n pm1.gY_c, .slice pm1.gZ_a pm1.gZ_n pm1.gZ_c] 25 :: rowOf Eng.encI pm1.gX_a pm1.gX_c 3 1 pm1.gX_l :: rowOf Eng.encI pm1.gY_a pm1.gY_c 3 1 pm1.gY_l :: rowOf rwE pm1.gZ_a pm1.gZ_c 22 1 pm1.gZ_l :: box b1 [.slice m.gX_a m.gX_n m.gX_c, .slice m.gY_a m.gY_n m.gY_c, .slice m.gZ_a m.gZ_n m.gZ_c] 25 :: tlR pm1.gZ_l) w25 := S6.trans T12
 clear T12 S6
 rw [htp]
 refine J.run 2 K3_106 [(46, .bool (!(s.toList == s.toList))), (42, .bool true), (7, .pointer (some ⟨b1, 0, none⟩)), (1, .int .u8 i), (2, .int .u8 j), (3, iv z), (4, iv x), (5, iv y)] w25 (by kernel_rfl) ?_
 refine J.head (.bool false) (congrArg Value.bool (by simp)) ?_
 refine J.run 2 K3_9 [(7, .pointer (some ⟨b1, 0, none⟩)), (1, .int .u8 i), (2, .int .u8 j), (3, iv z), (4, iv x), (5, iv y), (47, .bool false)] w25 (by kernel_rfl) ?_
 exact X1  w25  S25

end
end Go.Proofs.YtadgnficogeheaaGreatDoor

