/- Walks of functions of this seat, printed by a program over the engine. Conditions: as each theorem says. -/
import Derived.Test.YtdilhoibcbihlaaDoorV18
namespace Go.Proofs.YtdilhoibcbihlaaDoor
open Go.Eng Go.RowKit
set_option linter.unusedSimpArgs false
set_option linter.unusedVariables false
theorem hb5 : HasBody Tryd.prog 5 := fun _ _ => by kernel_rfl
noncomputable def K5_0 : List Item := adv 2 [] (bodyOf Tryd.f5)
noncomputable def K5_1 : List Item := adv 5 [] (popK (popK K5_0))
noncomputable def K5_2 : List Item := adv 7 [false] (popK K5_1)
noncomputable def K5_3 : List Item := adv 1 [] (popK (popK (popK K5_2)))
noncomputable def K5_4 : List Item := adv 10 [true] K5_3
noncomputable def K5_5 : List Item := adv 3 [] (popK (popK K5_3))
noncomputable def K5_6 : List Item := adv 4 [false] K5_5
noncomputable def K5_7 : List Item := adv 3 [] (popK (popK (popK K5_6)))
noncomputable def K5_8 : List Item := adv 8 [] (popK (popK K5_7))
noncomputable def K5_9 : List Item := adv 5 [false] K5_8
noncomputable def K5_10 : List Item := adv 1 [] (popK K5_9)
noncomputable def K5_11 : List Item := adv 6 [] (popK K5_10)
noncomputable def K5_12 : List Item := adv 2 [] (popK K5_11)
noncomputable def K5_13 : List Item := adv 2 [] K5_12
noncomputable def K5_14 : List Item := adv 3 [] (popK K5_13)
noncomputable def K5_15 : List Item := adv 2 [] K5_14
noncomputable def K5_16 : List Item := adv 2 [] (popK K5_15)
noncomputable def K5_17 : List Item := adv 2 [] K5_16
noncomputable def K5_18 : List Item := adv 4 [] (popK K5_17)
noncomputable def K5_19 : List Item := adv 7 [false] K5_18
noncomputable def K5_20 : List Item := adv 2 [] (popK K5_19)
noncomputable def K5_21 : List Item := adv 10 [true] K5_20
noncomputable def K5_22 : List Item := adv 1 [] (popK K5_21)
noncomputable def K5_23 : List Item := adv 3 [] (popK K5_22)
noncomputable def K5_24 : List Item := adv 2 [] K5_20
noncomputable def K5_25 : List Item := adv 3 [] (popK K5_24)
noncomputable def K5_26 : List Item := adv 4 [true] K5_25
noncomputable def K5_27 : List Item := adv 1 [] (popK K5_26)
noncomputable def K5_28 : List Item := adv 3 [] (popK K5_27)
noncomputable def K5_29 : List Item := adv 4 [false] K5_25
noncomputable def K5_30 : List Item := adv 1 [] (popK K5_29)
noncomputable def K5_31 : List Item := adv 2 [] (popK K5_30)
noncomputable def K5_32 : List Item := adv 3 [] (popK K5_31)
noncomputable def K5_33 : List Item := adv 4 [] (popK (popK K5_32))
noncomputable def K5_34 : List Item := adv 2 [] (popK K5_33)
noncomputable def K5_35 : List Item := adv 1 [] (popK K5_34)
noncomputable def K5_36 : List Item := adv 3 [] (popK K5_35)
noncomputable def K5_37 : List Item := adv 7 [] (popK (popK K5_36))
noncomputable def K5_38 : List Item := adv 4 [] K5_37
noncomputable def K5_39 : List Item := adv 1 [] (popK K5_38)
noncomputable def K5_40 : List Item := adv 1 [] (popK K5_39)
noncomputable def K5_41 : List Item := adv 1 [] (popK K5_40)
noncomputable def K5_42 : List Item := adv 1 [] K5_41
noncomputable def K5_43 : List Item := adv 1 [] (popK K5_42)
noncomputable def K5_44 : List Item := adv 1 [] (popK K5_43)
noncomputable def K5_45 : List Item := adv 1 [] K5_44
noncomputable def K5_46 : List Item := adv 3 [] (popK K5_45)
noncomputable def K5_47 : List Item := adv 19 [false] K5_14
noncomputable def K5_48 : List Item := adv 2 [] (popK K5_47)
noncomputable def K5_49 : List Item := adv 10 [true] K5_48
noncomputable def K5_50 : List Item := adv 1 [] (popK K5_49)
noncomputable def K5_51 : List Item := adv 3 [] (popK K5_50)
noncomputable def K5_52 : List Item := adv 2 [] K5_48
noncomputable def K5_53 : List Item := adv 3 [] (popK K5_52)
noncomputable def K5_54 : List Item := adv 4 [true] K5_53
noncomputable def K5_55 : List Item := adv 1 [] (popK K5_54)
noncomputable def K5_56 : List Item := adv 3 [] (popK K5_55)
noncomputable def K5_57 : List Item := adv 4 [false] K5_53
noncomputable def K5_58 : List Item := adv 1 [] (popK K5_57)
noncomputable def K5_59 : List Item := adv 2 [] (popK K5_58)
noncomputable def K5_60 : List Item := adv 3 [] (popK K5_59)
noncomputable def K5_61 : List Item := adv 4 [] (popK (popK K5_60))
noncomputable def K5_62 : List Item := adv 2 [] (popK K5_61)
noncomputable def K5_63 : List Item := adv 1 [] (popK K5_62)
noncomputable def K5_64 : List Item := adv 3 [] (popK K5_63)
noncomputable def K5_65 : List Item := adv 7 [] (popK (popK K5_64))
noncomputable def K5_66 : List Item := adv 4 [] K5_65
noncomputable def K5_67 : List Item := adv 1 [] (popK K5_66)
noncomputable def K5_68 : List Item := adv 1 [] (popK K5_67)
noncomputable def K5_69 : List Item := adv 1 [] (popK K5_68)
noncomputable def K5_70 : List Item := adv 1 [] K5_69
noncomputable def K5_71 : List Item := adv 1 [] (popK K5_70)
noncomputable def K5_72 : List Item := adv 1 [] (popK K5_71)
noncomputable def K5_73 : List Item := adv 1 [] K5_72
noncomputable def K5_74 : List Item := adv 3 [] (popK K5_73)
noncomputable def K5_75 : List Item := adv 25 [false] K5_12
noncomputable def K5_76 : List Item := adv 2 [] (popK K5_75)
noncomputable def K5_77 : List Item := adv 10 [true] K5_76
noncomputable def K5_78 : List Item := adv 1 [] (popK K5_77)
noncomputable def K5_79 : List Item := adv 3 [] (popK K5_78)
noncomputable def K5_80 : List Item := adv 2 [] K5_76
noncomputable def K5_81 : List Item := adv 3 [] (popK K5_80)
noncomputable def K5_82 : List Item := adv 4 [true] K5_81
noncomputable def K5_83 : List Item := adv 1 [] (popK K5_82)
noncomputable def K5_84 : List Item := adv 3 [] (popK K5_83)
noncomputable def K5_85 : List Item := adv 4 [false] K5_81
noncomputable def K5_86 : List Item := adv 1 [] (popK K5_85)
noncomputable def K5_87 : List Item := adv 2 [] (popK K5_86)
noncomputable def K5_88 : List Item := adv 3 [] (popK K5_87)
noncomputable def K5_89 : List Item := adv 4 [] (popK (popK K5_88))
noncomputable def K5_90 : List Item := adv 2 [] (popK K5_89)
noncomputable def K5_91 : List Item := adv 1 [] (popK K5_90)
noncomputable def K5_92 : List Item := adv 3 [] (popK K5_91)
noncomputable def K5_93 : List Item := adv 7 [] (popK (popK K5_92))
noncomputable def K5_94 : List Item := adv 4 [] K5_93
noncomputable def K5_95 : List Item := adv 1 [] (popK K5_94)
noncomputable def K5_96 : List Item := adv 1 [] (popK K5_95)
noncomputable def K5_97 : List Item := adv 1 [] (popK K5_96)
noncomputable def K5_98 : List Item := adv 1 [] K5_97
noncomputable def K5_99 : List Item := adv 1 [] (popK K5_98)
noncomputable def K5_100 : List Item := adv 1 [] (popK K5_99)
noncomputable def K5_101 : List Item := adv 1 [] K5_100
noncomputable def K5_102 : List Item := adv 3 [] (popK K5_101)
noncomputable def K5_103 : List Item := adv 4 [true] K5_8
noncomputable def K5_104 : List Item := adv 1 [] (popK K5_103)
noncomputable def K5_105 : List Item := adv 3 [] (popK K5_104)
noncomputable def K5_106 : List Item := adv 5 [true] K5_5
set_option maxRecDepth 20000 in
set_option maxHeartbeats 20000000 in
theorem lawcontains_any (c : Crv) (a b x k : Int) (w : World) (hc : crvQ w c) (hW : TabW w) : Ret Tryd.prog 5 #[.agg #[.slice c.gX_a c.gX_n c.gX_c, .slice c.gY_a c.gY_n c.gY_c], .agg #[.int .i64 a, .int .i64 b], .int .i64 x, .int .u8 k] w (fun v w' => v = .bool true ∧ Sep w [] w') := by
  have S0 := Sep.refl w
  refine Ret.named fun R hR => ?_
  refine Ret.of_J (N := 118) [(0, .agg #[.slice c.gX_a c.gX_n c.gX_c, .slice c.gY_a c.gY_n c.gY_c]), (1, .agg #[.int .i64 a, .int .i64 b]), (2, .int .i64 x), (3, .int .u8 k)] Tryd.func5 rfl rfl (Nat.le_of_ble_eq_true (by kernel_rfl)) (by kernel_rfl) ?_
  obtain ⟨q1, q2, q3, q4, q5, q6, _⟩ := id hc
  have ql1 := q2.len_eq
  have ql2 := q5.len_eq
  refine J.run 2 K5_0 [(0, .agg #[.slice c.gX_a c.gX_n c.gX_c, .slice c.gY_a c.gY_n c.gY_c]), (1, .agg #[.int .i64 a, .int .i64 b]), (2, .int .i64 x)] w (by kernel_rfl) ?_
  refine J.new S0 4 [.slice c.gX_a c.gX_n c.gX_c, .slice c.gY_a c.gY_n c.gY_c] 24 (by kernel_rfl) ?_
  intro b1 w1 S1
  refine J.new S1 5 [.int .i64 a, .int .i64 b] 26 (by kernel_rfl) ?_
  intro b2 w2 S2
  refine J.run 5 K5_1 [(5, .pointer (some ⟨b2, 0, none⟩)), (4, .pointer (some ⟨b1, 0, none⟩)), (2, .int .i64 x)] w2 (by kernel_rfl) ?_
  refine J.callF 16 10 #[] hb10 (by kernel_rfl) (awake_any  _ (tabW_sep hW S2)) ?_
  rintro _ w3 ⟨rfl, T1⟩
  have S3 : Sep w [box b2 [.int .i64 a, .int .i64 b] 26, box b1 [.slice c.gX_a c.gX_n c.gX_c, .slice c.gY_a c.gY_n c.gY_c] 24] w3 := S2.trans T1
  clear T1 S2
  refine J.run 7 K5_2 [(5, .pointer (some ⟨b2, 0, none⟩)), (4, .pointer (some ⟨b1, 0, none⟩)), (2, .int .i64 x)] w3 (by kernel_rfl) ?_
  refine J.ok (OK.ldBox S3 1 18 24 0 (.agg #[.slice c.gX_a c.gX_n c.gX_c, .slice c.gY_a c.gY_n c.gY_c]) (by kernel_rfl) rfl (by kernel_rfl)) ?_
  refine J.newSlice S3 19 1 [.slice c.gX_a c.gX_n c.gX_c, .slice c.gY_a c.gY_n c.gY_c] 24 (by kernel_rfl) ?_
  intro b3 w4 S4
  refine J.callF 20 11 #[.slice (some ⟨b3, 0, none⟩) 1 1] hb11 (by kernel_rfl) (great_any (some ⟨b3, 0, none⟩) 1 1 ([c]) _ ((show Recs crvE 2 w4 (some ⟨b3, 0, none⟩) 1 ([c] : List Crv) from ⟨rfl, fun _ => rfl, by decide, box_cells (S4.nth 0 rfl)⟩)) (by first | omega | (simp; omega))) ?_
  rintro _ w5 ⟨rfl, T2⟩
  have S5 : Sep w [box b3 [.slice c.gX_a c.gX_n c.gX_c, .slice c.gY_a c.gY_n c.gY_c] 24, box b2 [.int .i64 a, .int .i64 b] 26, box b1 [.slice c.gX_a c.gX_n c.gX_c, .slice c.gY_a c.gY_n c.gY_c] 24] w5 := S4.trans T2
  clear T2 S4
  refine J.head (.bool (greatC c)) (congrArg Value.bool (by simp)) ?_
  refine J.run 1 K5_3 [(21, .bool (greatC c)), (5, .pointer (some ⟨b2, 0, none⟩)), (4, .pointer (some ⟨b1, 0, none⟩)), (2, .int .i64 x)] w5 (by kernel_rfl) ?_
  rcases Bool.eq_false_or_eq_true (greatC c) with fk1 | fk1
  · skip
    refine J.head (.bool true) (congrArg Value.bool fk1) ?_
    refine J.run 10 K5_4 [(8, .bool true)] w5 (by kernel_rfl) ?_
    refine J.ret Tryd.f5 [.bool true] Tryd.func5 ⟨by kernel_rfl, trivial⟩ ?_
    refine hR _ _ ?_
    exact ⟨rfl, S5.nil⟩
  · skip
    refine J.head (.bool false) (congrArg Value.bool fk1) ?_
    have hgr := great_no fk1
    refine J.ok (OK.ldBox S5 2 22 24 0 (.agg #[.slice c.gX_a c.gX_n c.gX_c, .slice c.gY_a c.gY_n c.gY_c]) (by kernel_rfl) rfl (by kernel_rfl)) ?_
    refine J.callF 23 16 #[.agg #[.slice c.gX_a c.gX_n c.gX_c, .slice c.gY_a c.gY_n c.gY_c]] hb16 (by kernel_rfl) (cvalid_any c _ (crvQ_sep hc S5)) ?_
    rintro _ w6 ⟨rfl, T3⟩
    have S6 : Sep w [box b3 [.slice c.gX_a c.gX_n c.gX_c, .slice c.gY_a c.gY_n c.gY_c] 24, box b2 [.int .i64 a, .int .i64 b] 26, box b1 [.slice c.gX_a c.gX_n c.gX_c, .slice c.gY_a c.gY_n c.gY_c] 24] w6 := S5.trans T3
    clear T3 S5
    refine J.run 3 K5_5 [(25, .bool (!(validV c))), (5, .pointer (some ⟨b2, 0, none⟩)), (4, .pointer (some ⟨b1, 0, none⟩)), (2, .int .i64 x)] w6 (by kernel_rfl) ?_
    rcases Bool.eq_false_or_eq_true (validV c) with fk2 | fk2
    · skip
      refine J.head (.bool false) (congrArg Value.bool (by rw [fk2]; rfl)) ?_
      have hv := fk2
      obtain ⟨hv1, hv2, hv3⟩ := validV_facts hv
      obtain ⟨hx1, hx2, hx3⟩ := axis_facts hv2
      have hX : c.gX_l.length = c.gX_n := by omega
      have hY : c.gY_l.length = c.gX_n := by omega
      have hxm := axis_mono hv2 (show 0 < ((c.gX_n : Int) - 1).toNat by omega) (by omega)
      have hx0 := hx2 0 (by omega)
      have hxl := hx2 ((c.gX_n : Int) - 1).toNat (by omega)
      have hdv : dirV c = dirL c.gY_l := by unfold dirV; rw [hv]; rfl
      have hyn : ((c.gY_n : Int) - 1).toNat = ((c.gX_n : Int) - 1).toNat := by omega
      refine J.run 4 K5_6 [(5, .pointer (some ⟨b2, 0, none⟩)), (4, .pointer (some ⟨b1, 0, none⟩)), (2, .int .i64 x)] w6 (by kernel_rfl) ?_
      refine J.ok (OK.ldBox S6 2 27 24 0 (.agg #[.slice c.gX_a c.gX_n c.gX_c, .slice c.gY_a c.gY_n c.gY_c]) (by kernel_rfl) rfl (by kernel_rfl)) ?_
      refine J.ok (OK.ldBox S6 1 28 26 0 (.agg #[.int .i64 a, .int .i64 b]) (by kernel_rfl) rfl (by kernel_rfl)) ?_
      refine J.callF 29 14 #[.agg #[.slice c.gX_a c.gX_n c.gX_c, .slice c.gY_a c.gY_n c.gY_c], .agg #[.int .i64 a, .int .i64 b]] hb14 (by kernel_rfl) (cover_any c a b _ (crvQ_sep hc S6)) ?_
      rintro _ w7 ⟨rfl, T4⟩
      have S7 : Sep w [box b3 [.slice c.gX_a c.gX_n c.gX_c, .slice c.gY_a c.gY_n c.gY_c] 24, box b2 [.int .i64 a, .int .i64 b] 26, box b1 [.slice c.gX_a c.gX_n c.gX_c, .slice c.gY_a c.gY_n c.gY_c] 24] w7 := S6.trans T4
      clear T4 S6
      refine J.run 3 K5_7 [(31, .int .i64 (covE c a b)), (30, .agg #[.int .i64 (covL c a b), .int .i64 (covH c a b)]), (5, .pointer (some ⟨b2, 0, none⟩)), (4, .pointer (some ⟨b1, 0, none⟩)), (2, .int .i64 x)] w7 (by kernel_rfl) ?_
      refine J.new S7 9 [.int .i64 0, .int .i64 0] 26 (by kernel_rfl) ?_
      intro b4 w8 S8
      refine J.stBox S8 0 26 0 (.agg #[.int .i64 (covL c a b), .int .i64 (covH c a b)]) [.int .i64 (covL c a b), .int .i64 (covH c a b)] [box b4 [.int .i64 (covL c a b), .int .i64 (covH c a b)] 26, box b3 [.slice c.gX_a c.gX_n c.gX_c, .slice c.gY_a c.gY_n c.gY_c] 24, box b2 [.int .i64 a, .int .i64 b] 26, box b1 [.slice c.gX_a c.gX_n c.gX_c, .slice c.gY_a c.gY_n c.gY_c] 24] (by kernel_rfl) rfl (by kernel_rfl) (by kernel_rfl) rfl ?_
      intro w9 S9
      refine J.run 8 K5_8 [(33, .bool ((covE c a b) != 0)), (9, .pointer (some ⟨b4, 0, none⟩)), (5, .pointer (some ⟨b2, 0, none⟩)), (4, .pointer (some ⟨b1, 0, none⟩)), (2, .int .i64 x)] w9 (by kernel_rfl) ?_
      by_cases fk3 : (covE c a b) = 0
      · skip
        refine J.head (.bool false) (congrArg Value.bool (bne_eq_false_iff_eq.2 fk3)) ?_
        refine J.run 5 K5_9 [(9, .pointer (some ⟨b4, 0, none⟩)), (5, .pointer (some ⟨b2, 0, none⟩)), (4, .pointer (some ⟨b1, 0, none⟩)), (2, .int .i64 x)] w9 (by kernel_rfl) ?_
        refine J.ok (OK.ldBox S9 3 39 24 0 (.agg #[.slice c.gX_a c.gX_n c.gX_c, .slice c.gY_a c.gY_n c.gY_c]) (by kernel_rfl) rfl (by kernel_rfl)) ?_
        refine J.run 1 K5_10 [(40, .int .i64 x), (39, .agg #[.slice c.gX_a c.gX_n c.gX_c, .slice c.gY_a c.gY_n c.gY_c]), (9, .pointer (some ⟨b4, 0, none⟩)), (5, .pointer (some ⟨b2, 0, none⟩)), (4, .pointer (some ⟨b1, 0, none⟩)), (2, .int .i64 x)] w9 (by kernel_rfl) ?_
        refine J.callF 41 19 #[.agg #[.slice c.gX_a c.gX_n c.gX_c, .slice c.gY_a c.gY_n c.gY_c], .int .i64 x] hb19 (by kernel_rfl) (cAt_any c x _ (crvQ_sep hc S9)) ?_
        rintro _ w10 ⟨rfl, T5⟩
        have S10 : Sep w [box b4 [.int .i64 (covL c a b), .int .i64 (covH c a b)] 26, box b3 [.slice c.gX_a c.gX_n c.gX_c, .slice c.gY_a c.gY_n c.gY_c] 24, box b2 [.int .i64 a, .int .i64 b] 26, box b1 [.slice c.gX_a c.gX_n c.gX_c, .slice c.gY_a c.gY_n c.gY_c] 24] w10 := S9.trans T5
        clear T5 S9
        refine J.run 6 K5_11 [(43, .pointer (some ⟨b2, 0, none⟩)), (42, .int .i64 x), (11, .int .i64 (atV c x)), (9, .pointer (some ⟨b4, 0, none⟩)), (5, .pointer (some ⟨b2, 0, none⟩)), (4, .pointer (some ⟨b1, 0, none⟩)), (2, .int .i64 x)] w10 (by kernel_rfl) ?_
        refine J.ok (OK.ldBox S10 2 44 3 0 (.int .i64 a) (by kernel_rfl) rfl (by kernel_rfl)) ?_
        refine J.run 2 K5_12 [(46, .bool (decide (x ≥ a))), (11, .int .i64 (atV c x)), (9, .pointer (some ⟨b4, 0, none⟩)), (5, .pointer (some ⟨b2, 0, none⟩)), (4, .pointer (some ⟨b1, 0, none⟩)), (2, .int .i64 x)] w10 (by kernel_rfl) ?_
        by_cases fk4 : x ≥ a
        · skip
          refine J.head (.bool true) (congrArg Value.bool (decide_eq_true fk4)) ?_
          refine J.run 2 K5_13 [(48, .pointer (some ⟨b2, 1, none⟩)), (47, .int .i64 x), (46, .bool true), (11, .int .i64 (atV c x)), (9, .pointer (some ⟨b4, 0, none⟩)), (5, .pointer (some ⟨b2, 0, none⟩)), (4, .pointer (some ⟨b1, 0, none⟩)), (2, .int .i64 x)] w10 (by kernel_rfl) ?_
          refine J.ok (OK.ldBox S10 2 49 3 1 (.int .i64 b) (by kernel_rfl) rfl (by kernel_rfl)) ?_
          refine J.run 3 K5_14 [(52, .bool (decide (x ≤ b))), (11, .int .i64 (atV c x)), (9, .pointer (some ⟨b4, 0, none⟩)), (5, .pointer (some ⟨b2, 0, none⟩)), (4, .pointer (some ⟨b1, 0, none⟩)), (2, .int .i64 x)] w10 (by kernel_rfl) ?_
          by_cases fk5 : x ≤ b
          · skip
            refine J.head (.bool true) (congrArg Value.bool (decide_eq_true fk5)) ?_
            refine J.run 2 K5_15 [(54, .pointer (some ⟨b4, 0, none⟩)), (53, .int .i64 (atV c x)), (52, .bool true), (11, .int .i64 (atV c x)), (9, .pointer (some ⟨b4, 0, none⟩)), (5, .pointer (some ⟨b2, 0, none⟩)), (4, .pointer (some ⟨b1, 0, none⟩)), (2, .int .i64 x)] w10 (by kernel_rfl) ?_
            refine J.ok (OK.ldBox S10 0 55 3 0 (.int .i64 (covL c a b)) (by kernel_rfl) rfl (by kernel_rfl)) ?_
            refine J.run 2 K5_16 [(57, .bool (decide ((atV c x) < (covL c a b)))), (52, .bool true), (11, .int .i64 (atV c x)), (9, .pointer (some ⟨b4, 0, none⟩)), (5, .pointer (some ⟨b2, 0, none⟩)), (4, .pointer (some ⟨b1, 0, none⟩)), (2, .int .i64 x)] w10 (by kernel_rfl) ?_
            have fk7 : ¬ ((atV c x) < (covL c a b)) := by have h_ := (cov_facts hX hv (cov_in fk3)).2.1 x (by omega) (by omega); omega
            refine J.head (.bool false) (congrArg Value.bool (decide_eq_false fk7)) ?_
            refine J.run 2 K5_17 [(59, .pointer (some ⟨b4, 1, none⟩)), (58, .int .i64 (atV c x)), (57, .bool false), (52, .bool true), (9, .pointer (some ⟨b4, 0, none⟩)), (5, .pointer (some ⟨b2, 0, none⟩)), (4, .pointer (some ⟨b1, 0, none⟩)), (2, .int .i64 x)] w10 (by kernel_rfl) ?_
            refine J.ok (OK.ldBox S10 0 60 3 1 (.int .i64 (covH c a b)) (by kernel_rfl) rfl (by kernel_rfl)) ?_
            refine J.run 4 K5_18 [(63, .bool (decide ((atV c x) > (covH c a b)))), (9, .pointer (some ⟨b4, 0, none⟩)), (5, .pointer (some ⟨b2, 0, none⟩)), (4, .pointer (some ⟨b1, 0, none⟩)), (2, .int .i64 x)] w10 (by kernel_rfl) ?_
            have fk9 : ¬ ((atV c x) > (covH c a b)) := by have h_ := (cov_facts hX hv (cov_in fk3)).2.1 x (by omega) (by omega); omega
            refine J.head (.bool false) (congrArg Value.bool (decide_eq_false fk9)) ?_
            refine J.run 7 K5_19 [(65, .pointer (some ⟨b2, 0, none⟩)), (64, .int .i64 x), (9, .pointer (some ⟨b4, 0, none⟩)), (5, .pointer (some ⟨b2, 0, none⟩)), (4, .pointer (some ⟨b1, 0, none⟩)), (2, .int .i64 x)] w10 (by kernel_rfl) ?_
            refine J.ok (OK.ldBox S10 2 66 3 0 (.int .i64 a) (by kernel_rfl) rfl (by kernel_rfl)) ?_
            refine J.run 2 K5_20 [(68, .bool (decide (x < a))), (9, .pointer (some ⟨b4, 0, none⟩)), (5, .pointer (some ⟨b2, 0, none⟩)), (4, .pointer (some ⟨b1, 0, none⟩)), (2, .int .i64 x)] w10 (by kernel_rfl) ?_
            by_cases fk10 : x < a
            · skip
              refine J.head (.bool true) (congrArg Value.bool (decide_eq_true fk10)) ?_
              refine J.run 10 K5_21 [(74, .pointer (some ⟨b4, 0, none⟩)), (9, .pointer (some ⟨b4, 0, none⟩))] w10 (by kernel_rfl) ?_
              refine J.ok (OK.ldBox S10 0 75 3 0 (.int .i64 (covL c a b)) (by kernel_rfl) rfl (by kernel_rfl)) ?_
              refine J.run 1 K5_22 [(76, .pointer (some ⟨b4, 1, none⟩)), (75, .int .i64 (covL c a b))] w10 (by kernel_rfl) ?_
              refine J.ok (OK.ldBox S10 0 77 3 1 (.int .i64 (covH c a b)) (by kernel_rfl) rfl (by kernel_rfl)) ?_
              refine J.run 3 K5_23 [(8, .bool (decide ((covL c a b) ≤ (covH c a b))))] w10 (by kernel_rfl) ?_
              refine J.ret Tryd.f5 [.bool (decide ((covL c a b) ≤ (covH c a b)))] Tryd.func5 ⟨by kernel_rfl, trivial⟩ ?_
              refine hR _ _ ?_
              have fk11 : (covL c a b) ≤ (covH c a b) := (cov_facts hX hv (cov_in fk3)).2.2
              exact ⟨congrArg Value.bool (decide_eq_true fk11), S10.nil⟩
            · skip
              refine J.head (.bool false) (congrArg Value.bool (decide_eq_false fk10)) ?_
              refine J.run 2 K5_24 [(70, .pointer (some ⟨b2, 1, none⟩)), (69, .int .i64 x), (68, .bool false), (9, .pointer (some ⟨b4, 0, none⟩)), (5, .pointer (some ⟨b2, 0, none⟩)), (4, .pointer (some ⟨b1, 0, none⟩)), (2, .int .i64 x)] w10 (by kernel_rfl) ?_
              refine J.ok (OK.ldBox S10 2 71 3 1 (.int .i64 b) (by kernel_rfl) rfl (by kernel_rfl)) ?_
              refine J.run 3 K5_25 [(73, .bool (decide (x > b))), (9, .pointer (some ⟨b4, 0, none⟩)), (5, .pointer (some ⟨b2, 0, none⟩)), (4, .pointer (some ⟨b1, 0, none⟩)), (2, .int .i64 x)] w10 (by kernel_rfl) ?_
              by_cases fk12 : x > b
              · skip
                refine J.head (.bool true) (congrArg Value.bool (decide_eq_true fk12)) ?_
                refine J.run 4 K5_26 [(74, .pointer (some ⟨b4, 0, none⟩)), (9, .pointer (some ⟨b4, 0, none⟩))] w10 (by kernel_rfl) ?_
                refine J.ok (OK.ldBox S10 0 75 3 0 (.int .i64 (covL c a b)) (by kernel_rfl) rfl (by kernel_rfl)) ?_
                refine J.run 1 K5_27 [(76, .pointer (some ⟨b4, 1, none⟩)), (75, .int .i64 (covL c a b))] w10 (by kernel_rfl) ?_
                refine J.ok (OK.ldBox S10 0 77 3 1 (.int .i64 (covH c a b)) (by kernel_rfl) rfl (by kernel_rfl)) ?_
                refine J.run 3 K5_28 [(8, .bool (decide ((covL c a b) ≤ (covH c a b))))] w10 (by kernel_rfl) ?_
                refine J.ret Tryd.f5 [.bool (decide ((covL c a b) ≤ (covH c a b)))] Tryd.func5 ⟨by kernel_rfl, trivial⟩ ?_
                refine hR _ _ ?_
                have fk13 : (covL c a b) ≤ (covH c a b) := (cov_facts hX hv (cov_in fk3)).2.2
                exact ⟨congrArg Value.bool (decide_eq_true fk13), S10.nil⟩
              · skip
                refine J.head (.bool false) (congrArg Value.bool (decide_eq_false fk12)) ?_
                refine J.run 4 K5_29 [(9, .pointer (some ⟨b4, 0, none⟩)), (5, .pointer (some ⟨b2, 0, none⟩)), (4, .pointer (some ⟨b1, 0, none⟩)), (2, .int .i64 x)] w10 (by kernel_rfl) ?_
                refine J.ok (OK.ldBox S10 3 80 24 0 (.agg #[.slice c.gX_a c.gX_n c.gX_c, .slice c.gY_a c.gY_n c.gY_c]) (by kernel_rfl) rfl (by kernel_rfl)) ?_
                refine J.run 1 K5_30 [(81, .pointer (some ⟨b2, 0, none⟩)), (80, .agg #[.slice c.gX_a c.gX_n c.gX_c, .slice c.gY_a c.gY_n c.gY_c]), (9, .pointer (some ⟨b4, 0, none⟩)), (5, .pointer (some ⟨b2, 0, none⟩)), (4, .pointer (some ⟨b1, 0, none⟩)), (2, .int .i64 x)] w10 (by kernel_rfl) ?_
                refine J.ok (OK.ldBox S10 2 82 3 0 (.int .i64 a) (by kernel_rfl) rfl (by kernel_rfl)) ?_
                refine J.run 2 K5_31 [(84, .agg #[.int .i64 a, .int .i64 x]), (80, .agg #[.slice c.gX_a c.gX_n c.gX_c, .slice c.gY_a c.gY_n c.gY_c]), (9, .pointer (some ⟨b4, 0, none⟩)), (5, .pointer (some ⟨b2, 0, none⟩)), (4, .pointer (some ⟨b1, 0, none⟩)), (2, .int .i64 x)] w10 (by kernel_rfl) ?_
                refine J.callF 85 14 #[.agg #[.slice c.gX_a c.gX_n c.gX_c, .slice c.gY_a c.gY_n c.gY_c], .agg #[.int .i64 a, .int .i64 x]] hb14 (by kernel_rfl) (cover_any c a x _ (crvQ_sep hc S10)) ?_
                rintro _ w11 ⟨rfl, T6⟩
                have S11 : Sep w [box b4 [.int .i64 (covL c a b), .int .i64 (covH c a b)] 26, box b3 [.slice c.gX_a c.gX_n c.gX_c, .slice c.gY_a c.gY_n c.gY_c] 24, box b2 [.int .i64 a, .int .i64 b] 26, box b1 [.slice c.gX_a c.gX_n c.gX_c, .slice c.gY_a c.gY_n c.gY_c] 24] w11 := S10.trans T6
                clear T6 S10
                refine J.run 3 K5_32 [(87, .int .i64 (covE c a x)), (86, .agg #[.int .i64 (covL c a x), .int .i64 (covH c a x)]), (9, .pointer (some ⟨b4, 0, none⟩)), (5, .pointer (some ⟨b2, 0, none⟩)), (4, .pointer (some ⟨b1, 0, none⟩)), (2, .int .i64 x)] w11 (by kernel_rfl) ?_
                refine J.new S11 12 [.int .i64 0, .int .i64 0] 26 (by kernel_rfl) ?_
                intro b5 w12 S12
                refine J.stBox S12 0 26 0 (.agg #[.int .i64 (covL c a x), .int .i64 (covH c a x)]) [.int .i64 (covL c a x), .int .i64 (covH c a x)] [box b5 [.int .i64 (covL c a x), .int .i64 (covH c a x)] 26, box b4 [.int .i64 (covL c a b), .int .i64 (covH c a b)] 26, box b3 [.slice c.gX_a c.gX_n c.gX_c, .slice c.gY_a c.gY_n c.gY_c] 24, box b2 [.int .i64 a, .int .i64 b] 26, box b1 [.slice c.gX_a c.gX_n c.gX_c, .slice c.gY_a c.gY_n c.gY_c] 24] (by kernel_rfl) rfl (by kernel_rfl) (by kernel_rfl) rfl ?_
                intro w13 S13
                refine J.run 4 K5_33 [(13, .int .i64 (covE c a x)), (12, .pointer (some ⟨b5, 0, none⟩)), (9, .pointer (some ⟨b4, 0, none⟩)), (5, .pointer (some ⟨b2, 0, none⟩)), (4, .pointer (some ⟨b1, 0, none⟩)), (2, .int .i64 x)] w13 (by kernel_rfl) ?_
                refine J.ok (OK.ldBox S13 4 89 24 0 (.agg #[.slice c.gX_a c.gX_n c.gX_c, .slice c.gY_a c.gY_n c.gY_c]) (by kernel_rfl) rfl (by kernel_rfl)) ?_
                refine J.run 2 K5_34 [(91, .pointer (some ⟨b2, 1, none⟩)), (90, .int .i64 x), (89, .agg #[.slice c.gX_a c.gX_n c.gX_c, .slice c.gY_a c.gY_n c.gY_c]), (13, .int .i64 (covE c a x)), (12, .pointer (some ⟨b5, 0, none⟩)), (9, .pointer (some ⟨b4, 0, none⟩))] w13 (by kernel_rfl) ?_
                refine J.ok (OK.ldBox S13 3 92 3 1 (.int .i64 b) (by kernel_rfl) rfl (by kernel_rfl)) ?_
                refine J.run 1 K5_35 [(93, .agg #[.int .i64 x, .int .i64 b]), (89, .agg #[.slice c.gX_a c.gX_n c.gX_c, .slice c.gY_a c.gY_n c.gY_c]), (13, .int .i64 (covE c a x)), (12, .pointer (some ⟨b5, 0, none⟩)), (9, .pointer (some ⟨b4, 0, none⟩))] w13 (by kernel_rfl) ?_
                refine J.callF 94 14 #[.agg #[.slice c.gX_a c.gX_n c.gX_c, .slice c.gY_a c.gY_n c.gY_c], .agg #[.int .i64 x, .int .i64 b]] hb14 (by kernel_rfl) (cover_any c x b _ (crvQ_sep hc S13)) ?_
                rintro _ w14 ⟨rfl, T7⟩
                have S14 : Sep w [box b5 [.int .i64 (covL c a x), .int .i64 (covH c a x)] 26, box b4 [.int .i64 (covL c a b), .int .i64 (covH c a b)] 26, box b3 [.slice c.gX_a c.gX_n c.gX_c, .slice c.gY_a c.gY_n c.gY_c] 24, box b2 [.int .i64 a, .int .i64 b] 26, box b1 [.slice c.gX_a c.gX_n c.gX_c, .slice c.gY_a c.gY_n c.gY_c] 24] w14 := S13.trans T7
                clear T7 S13
                refine J.run 3 K5_36 [(96, .int .i64 (covE c x b)), (95, .agg #[.int .i64 (covL c x b), .int .i64 (covH c x b)]), (13, .int .i64 (covE c a x)), (12, .pointer (some ⟨b5, 0, none⟩)), (9, .pointer (some ⟨b4, 0, none⟩))] w14 (by kernel_rfl) ?_
                refine J.new S14 14 [.int .i64 0, .int .i64 0] 26 (by kernel_rfl) ?_
                intro b6 w15 S15
                refine J.stBox S15 0 26 0 (.agg #[.int .i64 (covL c x b), .int .i64 (covH c x b)]) [.int .i64 (covL c x b), .int .i64 (covH c x b)] [box b6 [.int .i64 (covL c x b), .int .i64 (covH c x b)] 26, box b5 [.int .i64 (covL c a x), .int .i64 (covH c a x)] 26, box b4 [.int .i64 (covL c a b), .int .i64 (covH c a b)] 26, box b3 [.slice c.gX_a c.gX_n c.gX_c, .slice c.gY_a c.gY_n c.gY_c] 24, box b2 [.int .i64 a, .int .i64 b] 26, box b1 [.slice c.gX_a c.gX_n c.gX_c, .slice c.gY_a c.gY_n c.gY_c] 24] (by kernel_rfl) rfl (by kernel_rfl) (by kernel_rfl) rfl ?_
                intro w16 S16
                refine J.run 7 K5_37 [(99, .bool ((covE c a x) == 0)), (15, .int .i64 (covE c x b)), (14, .pointer (some ⟨b6, 0, none⟩)), (12, .pointer (some ⟨b5, 0, none⟩)), (9, .pointer (some ⟨b4, 0, none⟩))] w16 (by kernel_rfl) ?_
                have fk15 : (covE c a x) = 0 := (cov_facts hX hv (by omega)).1
                refine J.head (.bool true) (congrArg Value.bool (beq_iff_eq.2 fk15)) ?_
                refine J.run 4 K5_38 [(103, .bool ((covE c x b) == 0)), (14, .pointer (some ⟨b6, 0, none⟩)), (12, .pointer (some ⟨b5, 0, none⟩)), (9, .pointer (some ⟨b4, 0, none⟩))] w16 (by kernel_rfl) ?_
                have fk17 : (covE c x b) = 0 := (cov_facts hX hv (by omega)).1
                refine J.head (.bool true) (congrArg Value.bool (beq_iff_eq.2 fk17)) ?_
                refine J.ok (OK.ldBox S16 2 104 26 0 (.agg #[.int .i64 (covL c a b), .int .i64 (covH c a b)]) (by kernel_rfl) rfl (by kernel_rfl)) ?_
                refine J.run 1 K5_39 [(105, .pointer (some ⟨b5, 0, none⟩)), (104, .agg #[.int .i64 (covL c a b), .int .i64 (covH c a b)]), (103, .bool true), (14, .pointer (some ⟨b6, 0, none⟩)), (12, .pointer (some ⟨b5, 0, none⟩))] w16 (by kernel_rfl) ?_
                refine J.ok (OK.ldBox S16 1 106 3 0 (.int .i64 (covL c a x)) (by kernel_rfl) rfl (by kernel_rfl)) ?_
                refine J.run 1 K5_40 [(107, .pointer (some ⟨b6, 0, none⟩)), (106, .int .i64 (covL c a x)), (104, .agg #[.int .i64 (covL c a b), .int .i64 (covH c a b)]), (103, .bool true), (14, .pointer (some ⟨b6, 0, none⟩)), (12, .pointer (some ⟨b5, 0, none⟩))] w16 (by kernel_rfl) ?_
                refine J.ok (OK.ldBox S16 0 108 3 0 (.int .i64 (covL c x b)) (by kernel_rfl) rfl (by kernel_rfl)) ?_
                refine J.run 1 K5_41 [(109, .int .i64 (if (covL c x b) < (covL c a x) then (covL c x b) else (covL c a x))), (104, .agg #[.int .i64 (covL c a b), .int .i64 (covH c a b)]), (103, .bool true), (14, .pointer (some ⟨b6, 0, none⟩)), (12, .pointer (some ⟨b5, 0, none⟩))] w16 (by kernel_rfl) ?_
                refine J.head (.int .i64 (min (covL c a x) (covL c x b))) (congrArg (Value.int .i64) (by omega)) ?_
                refine J.run 1 K5_42 [(110, .pointer (some ⟨b5, 1, none⟩)), (109, .int .i64 (min (covL c a x) (covL c x b))), (104, .agg #[.int .i64 (covL c a b), .int .i64 (covH c a b)]), (103, .bool true), (14, .pointer (some ⟨b6, 0, none⟩))] w16 (by kernel_rfl) ?_
                refine J.ok (OK.ldBox S16 1 111 3 1 (.int .i64 (covH c a x)) (by kernel_rfl) rfl (by kernel_rfl)) ?_
                refine J.run 1 K5_43 [(112, .pointer (some ⟨b6, 1, none⟩)), (111, .int .i64 (covH c a x)), (109, .int .i64 (min (covL c a x) (covL c x b))), (104, .agg #[.int .i64 (covL c a b), .int .i64 (covH c a b)]), (103, .bool true)] w16 (by kernel_rfl) ?_
                refine J.ok (OK.ldBox S16 0 113 3 1 (.int .i64 (covH c x b)) (by kernel_rfl) rfl (by kernel_rfl)) ?_
                refine J.run 1 K5_44 [(114, .int .i64 (if (covH c x b) > (covH c a x) then (covH c x b) else (covH c a x))), (109, .int .i64 (min (covL c a x) (covL c x b))), (104, .agg #[.int .i64 (covL c a b), .int .i64 (covH c a b)]), (103, .bool true)] w16 (by kernel_rfl) ?_
                refine J.head (.int .i64 (max (covH c a x) (covH c x b))) (congrArg (Value.int .i64) (by omega)) ?_
                refine J.run 1 K5_45 [(115, .agg #[.int .i64 (min (covL c a x) (covL c x b)), .int .i64 (max (covH c a x) (covH c x b))]), (104, .agg #[.int .i64 (covL c a b), .int .i64 (covH c a b)]), (103, .bool true)] w16 (by kernel_rfl) ?_
                refine J.ok (OK.eqS 116 true 26 #[.int .i64 (covL c a b), .int .i64 (covH c a b)] #[.int .i64 (min (covL c a x) (covL c x b)), .int .i64 (max (covH c a x) (covH c x b))] (((covL c a b) == (min (covL c a x) (covL c x b))) && (((covH c a b) == (max (covH c a x) (covH c x b))) && true)) (by kernel_rfl) (by kernel_rfl) (by kernel_rfl) (((covL c a b) == (min (covL c a x) (covL c x b))) && ((covH c a b) == (max (covH c a x) (covH c x b)))) (by simp)) ?_
                refine J.run 3 K5_46 [(8, .bool (((covL c a b) == (min (covL c a x) (covL c x b))) && ((covH c a b) == (max (covH c a x) (covH c x b)))))] w16 (by kernel_rfl) ?_
                refine J.ret Tryd.f5 [.bool (((covL c a b) == (min (covL c a x) (covL c x b))) && ((covH c a b) == (max (covH c a x) (covH c x b))))] Tryd.func5 ⟨by kernel_rfl, trivial⟩ ?_
                refine hR _ _ ?_
                have fk18 : (((covL c a b) == (min (covL c a x) (covL c x b))) && ((covH c a b) == (max (covH c a x) (covH c x b)))) = true := by rw [(cov_join hX hv (a := a) (x := x) (b := b) (by omega) (by omega)).1, (cov_join hX hv (a := a) (x := x) (b := b) (by omega) (by omega)).2]; simp
                exact ⟨congrArg Value.bool fk18, S16.nil⟩
          · skip
            refine J.head (.bool false) (congrArg Value.bool (decide_eq_false fk5)) ?_
            refine J.run 19 K5_47 [(65, .pointer (some ⟨b2, 0, none⟩)), (64, .int .i64 x), (9, .pointer (some ⟨b4, 0, none⟩)), (5, .pointer (some ⟨b2, 0, none⟩)), (4, .pointer (some ⟨b1, 0, none⟩)), (2, .int .i64 x)] w10 (by kernel_rfl) ?_
            refine J.ok (OK.ldBox S10 2 66 3 0 (.int .i64 a) (by kernel_rfl) rfl (by kernel_rfl)) ?_
            refine J.run 2 K5_48 [(68, .bool (decide (x < a))), (9, .pointer (some ⟨b4, 0, none⟩)), (5, .pointer (some ⟨b2, 0, none⟩)), (4, .pointer (some ⟨b1, 0, none⟩)), (2, .int .i64 x)] w10 (by kernel_rfl) ?_
            by_cases fk19 : x < a
            · skip
              refine J.head (.bool true) (congrArg Value.bool (decide_eq_true fk19)) ?_
              refine J.run 10 K5_49 [(74, .pointer (some ⟨b4, 0, none⟩)), (9, .pointer (some ⟨b4, 0, none⟩))] w10 (by kernel_rfl) ?_
              refine J.ok (OK.ldBox S10 0 75 3 0 (.int .i64 (covL c a b)) (by kernel_rfl) rfl (by kernel_rfl)) ?_
              refine J.run 1 K5_50 [(76, .pointer (some ⟨b4, 1, none⟩)), (75, .int .i64 (covL c a b))] w10 (by kernel_rfl) ?_
              refine J.ok (OK.ldBox S10 0 77 3 1 (.int .i64 (covH c a b)) (by kernel_rfl) rfl (by kernel_rfl)) ?_
              refine J.run 3 K5_51 [(8, .bool (decide ((covL c a b) ≤ (covH c a b))))] w10 (by kernel_rfl) ?_
              refine J.ret Tryd.f5 [.bool (decide ((covL c a b) ≤ (covH c a b)))] Tryd.func5 ⟨by kernel_rfl, trivial⟩ ?_
              refine hR _ _ ?_
              have fk20 : (covL c a b) ≤ (covH c a b) := (cov_facts hX hv (cov_in fk3)).2.2
              exact ⟨congrArg Value.bool (decide_eq_true fk20), S10.nil⟩
            · skip
              refine J.head (.bool false) (congrArg Value.bool (decide_eq_false fk19)) ?_
              refine J.run 2 K5_52 [(70, .pointer (some ⟨b2, 1, none⟩)), (69, .int .i64 x), (68, .bool false), (9, .pointer (some ⟨b4, 0, none⟩)), (5, .pointer (some ⟨b2, 0, none⟩)), (4, .pointer (some ⟨b1, 0, none⟩)), (2, .int .i64 x)] w10 (by kernel_rfl) ?_
              refine J.ok (OK.ldBox S10 2 71 3 1 (.int .i64 b) (by kernel_rfl) rfl (by kernel_rfl)) ?_
              refine J.run 3 K5_53 [(73, .bool (decide (x > b))), (9, .pointer (some ⟨b4, 0, none⟩)), (5, .pointer (some ⟨b2, 0, none⟩)), (4, .pointer (some ⟨b1, 0, none⟩)), (2, .int .i64 x)] w10 (by kernel_rfl) ?_
              by_cases fk21 : x > b
              · skip
                refine J.head (.bool true) (congrArg Value.bool (decide_eq_true fk21)) ?_
                refine J.run 4 K5_54 [(74, .pointer (some ⟨b4, 0, none⟩)), (9, .pointer (some ⟨b4, 0, none⟩))] w10 (by kernel_rfl) ?_
                refine J.ok (OK.ldBox S10 0 75 3 0 (.int .i64 (covL c a b)) (by kernel_rfl) rfl (by kernel_rfl)) ?_
                refine J.run 1 K5_55 [(76, .pointer (some ⟨b4, 1, none⟩)), (75, .int .i64 (covL c a b))] w10 (by kernel_rfl) ?_
                refine J.ok (OK.ldBox S10 0 77 3 1 (.int .i64 (covH c a b)) (by kernel_rfl) rfl (by kernel_rfl)) ?_
                refine J.run 3 K5_56 [(8, .bool (decide ((covL c a b) ≤ (covH c a b))))] w10 (by kernel_rfl) ?_
                refine J.ret Tryd.f5 [.bool (decide ((covL c a b) ≤ (covH c a b)))] Tryd.func5 ⟨by kernel_rfl, trivial⟩ ?_
                refine hR _ _ ?_
                have fk22 : (covL c a b) ≤ (covH c a b) := (cov_facts hX hv (cov_in fk3)).2.2
                exact ⟨congrArg Value.bool (decide_eq_true fk22), S10.nil⟩
              · skip
                refine J.head (.bool false) (congrArg Value.bool (decide_eq_false fk21)) ?_
                refine J.run 4 K5_57 [(9, .pointer (some ⟨b4, 0, none⟩)), (5, .pointer (some ⟨b2, 0, none⟩)), (4, .pointer (some ⟨b1, 0, none⟩)), (2, .int .i64 x)] w10 (by kernel_rfl) ?_
                refine J.ok (OK.ldBox S10 3 80 24 0 (.agg #[.slice c.gX_a c.gX_n c.gX_c, .slice c.gY_a c.gY_n c.gY_c]) (by kernel_rfl) rfl (by kernel_rfl)) ?_
                refine J.run 1 K5_58 [(81, .pointer (some ⟨b2, 0, none⟩)), (80, .agg #[.slice c.gX_a c.gX_n c.gX_c, .slice c.gY_a c.gY_n c.gY_c]), (9, .pointer (some ⟨b4, 0, none⟩)), (5, .pointer (some ⟨b2, 0, none⟩)), (4, .pointer (some ⟨b1, 0, none⟩)), (2, .int .i64 x)] w10 (by kernel_rfl) ?_
                refine J.ok (OK.ldBox S10 2 82 3 0 (.int .i64 a) (by kernel_rfl) rfl (by kernel_rfl)) ?_
                refine J.run 2 K5_59 [(84, .agg #[.int .i64 a, .int .i64 x]), (80, .agg #[.slice c.gX_a c.gX_n c.gX_c, .slice c.gY_a c.gY_n c.gY_c]), (9, .pointer (some ⟨b4, 0, none⟩)), (5, .pointer (some ⟨b2, 0, none⟩)), (4, .pointer (some ⟨b1, 0, none⟩)), (2, .int .i64 x)] w10 (by kernel_rfl) ?_
                refine J.callF 85 14 #[.agg #[.slice c.gX_a c.gX_n c.gX_c, .slice c.gY_a c.gY_n c.gY_c], .agg #[.int .i64 a, .int .i64 x]] hb14 (by kernel_rfl) (cover_any c a x _ (crvQ_sep hc S10)) ?_
                rintro _ w17 ⟨rfl, T8⟩
                have S17 : Sep w [box b4 [.int .i64 (covL c a b), .int .i64 (covH c a b)] 26, box b3 [.slice c.gX_a c.gX_n c.gX_c, .slice c.gY_a c.gY_n c.gY_c] 24, box b2 [.int .i64 a, .int .i64 b] 26, box b1 [.slice c.gX_a c.gX_n c.gX_c, .slice c.gY_a c.gY_n c.gY_c] 24] w17 := S10.trans T8
                clear T8 S10
                refine J.run 3 K5_60 [(87, .int .i64 (covE c a x)), (86, .agg #[.int .i64 (covL c a x), .int .i64 (covH c a x)]), (9, .pointer (some ⟨b4, 0, none⟩)), (5, .pointer (some ⟨b2, 0, none⟩)), (4, .pointer (some ⟨b1, 0, none⟩)), (2, .int .i64 x)] w17 (by kernel_rfl) ?_
                refine J.new S17 12 [.int .i64 0, .int .i64 0] 26 (by kernel_rfl) ?_
                intro b7 w18 S18
                refine J.stBox S18 0 26 0 (.agg #[.int .i64 (covL c a x), .int .i64 (covH c a x)]) [.int .i64 (covL c a x), .int .i64 (covH c a x)] [box b7 [.int .i64 (covL c a x), .int .i64 (covH c a x)] 26, box b4 [.int .i64 (covL c a b), .int .i64 (covH c a b)] 26, box b3 [.slice c.gX_a c.gX_n c.gX_c, .slice c.gY_a c.gY_n c.gY_c] 24, box b2 [.int .i64 a, .int .i64 b] 26, box b1 [.slice c.gX_a c.gX_n c.gX_c, .slice c.gY_a c.gY_n c.gY_c] 24] (by kernel_rfl) rfl (by kernel_rfl) (by kernel_rfl) rfl ?_
                intro w19 S19
                refine J.run 4 K5_61 [(13, .int .i64 (covE c a x)), (12, .pointer (some ⟨b7, 0, none⟩)), (9, .pointer (some ⟨b4, 0, none⟩)), (5, .pointer (some ⟨b2, 0, none⟩)), (4, .pointer (some ⟨b1, 0, none⟩)), (2, .int .i64 x)] w19 (by kernel_rfl) ?_
                refine J.ok (OK.ldBox S19 4 89 24 0 (.agg #[.slice c.gX_a c.gX_n c.gX_c, .slice c.gY_a c.gY_n c.gY_c]) (by kernel_rfl) rfl (by kernel_rfl)) ?_
                refine J.run 2 K5_62 [(91, .pointer (some ⟨b2, 1, none⟩)), (90, .int .i64 x), (89, .agg #[.slice c.gX_a c.gX_n c.gX_c, .slice c.gY_a c.gY_n c.gY_c]), (13, .int .i64 (covE c a x)), (12, .pointer (some ⟨b7, 0, none⟩)), (9, .pointer (some ⟨b4, 0, none⟩))] w19 (by kernel_rfl) ?_
                refine J.ok (OK.ldBox S19 3 92 3 1 (.int .i64 b) (by kernel_rfl) rfl (by kernel_rfl)) ?_
                refine J.run 1 K5_63 [(93, .agg #[.int .i64 x, .int .i64 b]), (89, .agg #[.slice c.gX_a c.gX_n c.gX_c, .slice c.gY_a c.gY_n c.gY_c]), (13, .int .i64 (covE c a x)), (12, .pointer (some ⟨b7, 0, none⟩)), (9, .pointer (some ⟨b4, 0, none⟩))] w19 (by kernel_rfl) ?_
                refine J.callF 94 14 #[.agg #[.slice c.gX_a c.gX_n c.gX_c, .slice c.gY_a c.gY_n c.gY_c], .agg #[.int .i64 x, .int .i64 b]] hb14 (by kernel_rfl) (cover_any c x b _ (crvQ_sep hc S19)) ?_
                rintro _ w20 ⟨rfl, T9⟩
                have S20 : Sep w [box b7 [.int .i64 (covL c a x), .int .i64 (covH c a x)] 26, box b4 [.int .i64 (covL c a b), .int .i64 (covH c a b)] 26, box b3 [.slice c.gX_a c.gX_n c.gX_c, .slice c.gY_a c.gY_n c.gY_c] 24, box b2 [.int .i64 a, .int .i64 b] 26, box b1 [.slice c.gX_a c.gX_n c.gX_c, .slice c.gY_a c.gY_n c.gY_c] 24] w20 := S19.trans T9
                clear T9 S19
                refine J.run 3 K5_64 [(96, .int .i64 (covE c x b)), (95, .agg #[.int .i64 (covL c x b), .int .i64 (covH c x b)]), (13, .int .i64 (covE c a x)), (12, .pointer (some ⟨b7, 0, none⟩)), (9, .pointer (some ⟨b4, 0, none⟩))] w20 (by kernel_rfl) ?_
                refine J.new S20 14 [.int .i64 0, .int .i64 0] 26 (by kernel_rfl) ?_
                intro b8 w21 S21
                refine J.stBox S21 0 26 0 (.agg #[.int .i64 (covL c x b), .int .i64 (covH c x b)]) [.int .i64 (covL c x b), .int .i64 (covH c x b)] [box b8 [.int .i64 (covL c x b), .int .i64 (covH c x b)] 26, box b7 [.int .i64 (covL c a x), .int .i64 (covH c a x)] 26, box b4 [.int .i64 (covL c a b), .int .i64 (covH c a b)] 26, box b3 [.slice c.gX_a c.gX_n c.gX_c, .slice c.gY_a c.gY_n c.gY_c] 24, box b2 [.int .i64 a, .int .i64 b] 26, box b1 [.slice c.gX_a c.gX_n c.gX_c, .slice c.gY_a c.gY_n c.gY_c] 24] (by kernel_rfl) rfl (by kernel_rfl) (by kernel_rfl) rfl ?_
                intro w22 S22
                refine J.run 7 K5_65 [(99, .bool ((covE c a x) == 0)), (15, .int .i64 (covE c x b)), (14, .pointer (some ⟨b8, 0, none⟩)), (12, .pointer (some ⟨b7, 0, none⟩)), (9, .pointer (some ⟨b4, 0, none⟩))] w22 (by kernel_rfl) ?_
                have fk24 : (covE c a x) = 0 := (cov_facts hX hv (by omega)).1
                refine J.head (.bool true) (congrArg Value.bool (beq_iff_eq.2 fk24)) ?_
                refine J.run 4 K5_66 [(103, .bool ((covE c x b) == 0)), (14, .pointer (some ⟨b8, 0, none⟩)), (12, .pointer (some ⟨b7, 0, none⟩)), (9, .pointer (some ⟨b4, 0, none⟩))] w22 (by kernel_rfl) ?_
                have fk26 : (covE c x b) = 0 := (cov_facts hX hv (by omega)).1
                refine J.head (.bool true) (congrArg Value.bool (beq_iff_eq.2 fk26)) ?_
                refine J.ok (OK.ldBox S22 2 104 26 0 (.agg #[.int .i64 (covL c a b), .int .i64 (covH c a b)]) (by kernel_rfl) rfl (by kernel_rfl)) ?_
                refine J.run 1 K5_67 [(105, .pointer (some ⟨b7, 0, none⟩)), (104, .agg #[.int .i64 (covL c a b), .int .i64 (covH c a b)]), (103, .bool true), (14, .pointer (some ⟨b8, 0, none⟩)), (12, .pointer (some ⟨b7, 0, none⟩))] w22 (by kernel_rfl) ?_
                refine J.ok (OK.ldBox S22 1 106 3 0 (.int .i64 (covL c a x)) (by kernel_rfl) rfl (by kernel_rfl)) ?_
                refine J.run 1 K5_68 [(107, .pointer (some ⟨b8, 0, none⟩)), (106, .int .i64 (covL c a x)), (104, .agg #[.int .i64 (covL c a b), .int .i64 (covH c a b)]), (103, .bool true), (14, .pointer (some ⟨b8, 0, none⟩)), (12, .pointer (some ⟨b7, 0, none⟩))] w22 (by kernel_rfl) ?_
                refine J.ok (OK.ldBox S22 0 108 3 0 (.int .i64 (covL c x b)) (by kernel_rfl) rfl (by kernel_rfl)) ?_
                refine J.run 1 K5_69 [(109, .int .i64 (if (covL c x b) < (covL c a x) then (covL c x b) else (covL c a x))), (104, .agg #[.int .i64 (covL c a b), .int .i64 (covH c a b)]), (103, .bool true), (14, .pointer (some ⟨b8, 0, none⟩)), (12, .pointer (some ⟨b7, 0, none⟩))] w22 (by kernel_rfl) ?_
                refine J.head (.int .i64 (min (covL c a x) (covL c x b))) (congrArg (Value.int .i64) (by omega)) ?_
                refine J.run 1 K5_70 [(110, .pointer (some ⟨b7, 1, none⟩)), (109, .int .i64 (min (covL c a x) (covL c x b))), (104, .agg #[.int .i64 (covL c a b), .int .i64 (covH c a b)]), (103, .bool true), (14, .pointer (some ⟨b8, 0, none⟩))] w22 (by kernel_rfl) ?_
                refine J.ok (OK.ldBox S22 1 111 3 1 (.int .i64 (covH c a x)) (by kernel_rfl) rfl (by kernel_rfl)) ?_
                refine J.run 1 K5_71 [(112, .pointer (some ⟨b8, 1, none⟩)), (111, .int .i64 (covH c a x)), (109, .int .i64 (min (covL c a x) (covL c x b))), (104, .agg #[.int .i64 (covL c a b), .int .i64 (covH c a b)]), (103, .bool true)] w22 (by kernel_rfl) ?_
                refine J.ok (OK.ldBox S22 0 113 3 1 (.int .i64 (covH c x b)) (by kernel_rfl) rfl (by kernel_rfl)) ?_
                refine J.run 1 K5_72 [(114, .int .i64 (if (covH c x b) > (covH c a x) then (covH c x b) else (covH c a x))), (109, .int .i64 (min (covL c a x) (covL c x b))), (104, .agg #[.int .i64 (covL c a b), .int .i64 (covH c a b)]), (103, .bool true)] w22 (by kernel_rfl) ?_
                refine J.head (.int .i64 (max (covH c a x) (covH c x b))) (congrArg (Value.int .i64) (by omega)) ?_
                refine J.run 1 K5_73 [(115, .agg #[.int .i64 (min (covL c a x) (covL c x b)), .int .i64 (max (covH c a x) (covH c x b))]), (104, .agg #[.int .i64 (covL c a b), .int .i64 (covH c a b)]), (103, .bool true)] w22 (by kernel_rfl) ?_
                refine J.ok (OK.eqS 116 true 26 #[.int .i64 (covL c a b), .int .i64 (covH c a b)] #[.int .i64 (min (covL c a x) (covL c x b)), .int .i64 (max (covH c a x) (covH c x b))] (((covL c a b) == (min (covL c a x) (covL c x b))) && (((covH c a b) == (max (covH c a x) (covH c x b))) && true)) (by kernel_rfl) (by kernel_rfl) (by kernel_rfl) (((covL c a b) == (min (covL c a x) (covL c x b))) && ((covH c a b) == (max (covH c a x) (covH c x b)))) (by simp)) ?_
                refine J.run 3 K5_74 [(8, .bool (((covL c a b) == (min (covL c a x) (covL c x b))) && ((covH c a b) == (max (covH c a x) (covH c x b)))))] w22 (by kernel_rfl) ?_
                refine J.ret Tryd.f5 [.bool (((covL c a b) == (min (covL c a x) (covL c x b))) && ((covH c a b) == (max (covH c a x) (covH c x b))))] Tryd.func5 ⟨by kernel_rfl, trivial⟩ ?_
                refine hR _ _ ?_
                have fk27 : (((covL c a b) == (min (covL c a x) (covL c x b))) && ((covH c a b) == (max (covH c a x) (covH c x b)))) = true := by rw [(cov_join hX hv (a := a) (x := x) (b := b) (by omega) (by omega)).1, (cov_join hX hv (a := a) (x := x) (b := b) (by omega) (by omega)).2]; simp
                exact ⟨congrArg Value.bool fk27, S22.nil⟩
        · skip
          refine J.head (.bool false) (congrArg Value.bool (decide_eq_false fk4)) ?_
          refine J.run 25 K5_75 [(65, .pointer (some ⟨b2, 0, none⟩)), (64, .int .i64 x), (9, .pointer (some ⟨b4, 0, none⟩)), (5, .pointer (some ⟨b2, 0, none⟩)), (4, .pointer (some ⟨b1, 0, none⟩)), (2, .int .i64 x)] w10 (by kernel_rfl) ?_
          refine J.ok (OK.ldBox S10 2 66 3 0 (.int .i64 a) (by kernel_rfl) rfl (by kernel_rfl)) ?_
          refine J.run 2 K5_76 [(68, .bool (decide (x < a))), (9, .pointer (some ⟨b4, 0, none⟩)), (5, .pointer (some ⟨b2, 0, none⟩)), (4, .pointer (some ⟨b1, 0, none⟩)), (2, .int .i64 x)] w10 (by kernel_rfl) ?_
          by_cases fk28 : x < a
          · skip
            refine J.head (.bool true) (congrArg Value.bool (decide_eq_true fk28)) ?_
            refine J.run 10 K5_77 [(74, .pointer (some ⟨b4, 0, none⟩)), (9, .pointer (some ⟨b4, 0, none⟩))] w10 (by kernel_rfl) ?_
            refine J.ok (OK.ldBox S10 0 75 3 0 (.int .i64 (covL c a b)) (by kernel_rfl) rfl (by kernel_rfl)) ?_
            refine J.run 1 K5_78 [(76, .pointer (some ⟨b4, 1, none⟩)), (75, .int .i64 (covL c a b))] w10 (by kernel_rfl) ?_
            refine J.ok (OK.ldBox S10 0 77 3 1 (.int .i64 (covH c a b)) (by kernel_rfl) rfl (by kernel_rfl)) ?_
            refine J.run 3 K5_79 [(8, .bool (decide ((covL c a b) ≤ (covH c a b))))] w10 (by kernel_rfl) ?_
            refine J.ret Tryd.f5 [.bool (decide ((covL c a b) ≤ (covH c a b)))] Tryd.func5 ⟨by kernel_rfl, trivial⟩ ?_
            refine hR _ _ ?_
            have fk29 : (covL c a b) ≤ (covH c a b) := (cov_facts hX hv (cov_in fk3)).2.2
            exact ⟨congrArg Value.bool (decide_eq_true fk29), S10.nil⟩
          · skip
            refine J.head (.bool false) (congrArg Value.bool (decide_eq_false fk28)) ?_
            refine J.run 2 K5_80 [(70, .pointer (some ⟨b2, 1, none⟩)), (69, .int .i64 x), (68, .bool false), (9, .pointer (some ⟨b4, 0, none⟩)), (5, .pointer (some ⟨b2, 0, none⟩)), (4, .pointer (some ⟨b1, 0, none⟩)), (2, .int .i64 x)] w10 (by kernel_rfl) ?_
            refine J.ok (OK.ldBox S10 2 71 3 1 (.int .i64 b) (by kernel_rfl) rfl (by kernel_rfl)) ?_
            refine J.run 3 K5_81 [(73, .bool (decide (x > b))), (9, .pointer (some ⟨b4, 0, none⟩)), (5, .pointer (some ⟨b2, 0, none⟩)), (4, .pointer (some ⟨b1, 0, none⟩)), (2, .int .i64 x)] w10 (by kernel_rfl) ?_
            by_cases fk30 : x > b
            · skip
              refine J.head (.bool true) (congrArg Value.bool (decide_eq_true fk30)) ?_
              refine J.run 4 K5_82 [(74, .pointer (some ⟨b4, 0, none⟩)), (9, .pointer (some ⟨b4, 0, none⟩))] w10 (by kernel_rfl) ?_
              refine J.ok (OK.ldBox S10 0 75 3 0 (.int .i64 (covL c a b)) (by kernel_rfl) rfl (by kernel_rfl)) ?_
              refine J.run 1 K5_83 [(76, .pointer (some ⟨b4, 1, none⟩)), (75, .int .i64 (covL c a b))] w10 (by kernel_rfl) ?_
              refine J.ok (OK.ldBox S10 0 77 3 1 (.int .i64 (covH c a b)) (by kernel_rfl) rfl (by kernel_rfl)) ?_
              refine J.run 3 K5_84 [(8, .bool (decide ((covL c a b) ≤ (covH c a b))))] w10 (by kernel_rfl) ?_
              refine J.ret Tryd.f5 [.bool (decide ((covL c a b) ≤ (covH c a b)))] Tryd.func5 ⟨by kernel_rfl, trivial⟩ ?_
              refine hR _ _ ?_
              have fk31 : (covL c a b) ≤ (covH c a b) := (cov_facts hX hv (cov_in fk3)).2.2
              exact ⟨congrArg Value.bool (decide_eq_true fk31), S10.nil⟩
            · skip
              refine J.head (.bool false) (congrArg Value.bool (decide_eq_false fk30)) ?_
              refine J.run 4 K5_85 [(9, .pointer (some ⟨b4, 0, none⟩)), (5, .pointer (some ⟨b2, 0, none⟩)), (4, .pointer (some ⟨b1, 0, none⟩)), (2, .int .i64 x)] w10 (by kernel_rfl) ?_
              refine J.ok (OK.ldBox S10 3 80 24 0 (.agg #[.slice c.gX_a c.gX_n c.gX_c, .slice c.gY_a c.gY_n c.gY_c]) (by kernel_rfl) rfl (by kernel_rfl)) ?_
              refine J.run 1 K5_86 [(81, .pointer (some ⟨b2, 0, none⟩)), (80, .agg #[.slice c.gX_a c.gX_n c.gX_c, .slice c.gY_a c.gY_n c.gY_c]), (9, .pointer (some ⟨b4, 0, none⟩)), (5, .pointer (some ⟨b2, 0, none⟩)), (4, .pointer (some ⟨b1, 0, none⟩)), (2, .int .i64 x)] w10 (by kernel_rfl) ?_
              refine J.ok (OK.ldBox S10 2 82 3 0 (.int .i64 a) (by kernel_rfl) rfl (by kernel_rfl)) ?_
              refine J.run 2 K5_87 [(84, .agg #[.int .i64 a, .int .i64 x]), (80, .agg #[.slice c.gX_a c.gX_n c.gX_c, .slice c.gY_a c.gY_n c.gY_c]), (9, .pointer (some ⟨b4, 0, none⟩)), (5, .pointer (some ⟨b2, 0, none⟩)), (4, .pointer (some ⟨b1, 0, none⟩)), (2, .int .i64 x)] w10 (by kernel_rfl) ?_
              refine J.callF 85 14 #[.agg #[.slice c.gX_a c.gX_n c.gX_c, .slice c.gY_a c.gY_n c.gY_c], .agg #[.int .i64 a, .int .i64 x]] hb14 (by kernel_rfl) (cover_any c a x _ (crvQ_sep hc S10)) ?_
              rintro _ w23 ⟨rfl, T10⟩
              have S23 : Sep w [box b4 [.int .i64 (covL c a b), .int .i64 (covH c a b)] 26, box b3 [.slice c.gX_a c.gX_n c.gX_c, .slice c.gY_a c.gY_n c.gY_c] 24, box b2 [.int .i64 a, .int .i64 b] 26, box b1 [.slice c.gX_a c.gX_n c.gX_c, .slice c.gY_a c.gY_n c.gY_c] 24] w23 := S10.trans T10
              clear T10 S10
              refine J.run 3 K5_88 [(87, .int .i64 (covE c a x)), (86, .agg #[.int .i64 (covL c a x), .int .i64 (covH c a x)]), (9, .pointer (some ⟨b4, 0, none⟩)), (5, .pointer (some ⟨b2, 0, none⟩)), (4, .pointer (some ⟨b1, 0, none⟩)), (2, .int .i64 x)] w23 (by kernel_rfl) ?_
              refine J.new S23 12 [.int .i64 0, .int .i64 0] 26 (by kernel_rfl) ?_
              intro b9 w24 S24
              refine J.stBox S24 0 26 0 (.agg #[.int .i64 (covL c a x), .int .i64 (covH c a x)]) [.int .i64 (covL c a x), .int .i64 (covH c a x)] [box b9 [.int .i64 (covL c a x), .int .i64 (covH c a x)] 26, box b4 [.int .i64 (covL c a b), .int .i64 (covH c a b)] 26, box b3 [.slice c.gX_a c.gX_n c.gX_c, .slice c.gY_a c.gY_n c.gY_c] 24, box b2 [.int .i64 a, .int .i64 b] 26, box b1 [.slice c.gX_a c.gX_n c.gX_c, .slice c.gY_a c.gY_n c.gY_c] 24] (by kernel_rfl) rfl (by kernel_rfl) (by kernel_rfl) rfl ?_
              intro w25 S25
              refine J.run 4 K5_89 [(13, .int .i64 (covE c a x)), (12, .pointer (some ⟨b9, 0, none⟩)), (9, .pointer (some ⟨b4, 0, none⟩)), (5, .pointer (some ⟨b2, 0, none⟩)), (4, .pointer (some ⟨b1, 0, none⟩)), (2, .int .i64 x)] w25 (by kernel_rfl) ?_
              refine J.ok (OK.ldBox S25 4 89 24 0 (.agg #[.slice c.gX_a c.gX_n c.gX_c, .slice c.gY_a c.gY_n c.gY_c]) (by kernel_rfl) rfl (by kernel_rfl)) ?_
              refine J.run 2 K5_90 [(91, .pointer (some ⟨b2, 1, none⟩)), (90, .int .i64 x), (89, .agg #[.slice c.gX_a c.gX_n c.gX_c, .slice c.gY_a c.gY_n c.gY_c]), (13, .int .i64 (covE c a x)), (12, .pointer (some ⟨b9, 0, none⟩)), (9, .pointer (some ⟨b4, 0, none⟩))] w25 (by kernel_rfl) ?_
              refine J.ok (OK.ldBox S25 3 92 3 1 (.int .i64 b) (by kernel_rfl) rfl (by kernel_rfl)) ?_
              refine J.run 1 K5_91 [(93, .agg #[.int .i64 x, .int .i64 b]), (89, .agg #[.slice c.gX_a c.gX_n c.gX_c, .slice c.gY_a c.gY_n c.gY_c]), (13, .int .i64 (covE c a x)), (12, .pointer (some ⟨b9, 0, none⟩)), (9, .pointer (some ⟨b4, 0, none⟩))] w25 (by kernel_rfl) ?_
              refine J.callF 94 14 #[.agg #[.slice c.gX_a c.gX_n c.gX_c, .slice c.gY_a c.gY_n c.gY_c], .agg #[.int .i64 x, .int .i64 b]] hb14 (by kernel_rfl) (cover_any c x b _ (crvQ_sep hc S25)) ?_
              rintro _ w26 ⟨rfl, T11⟩
              have S26 : Sep w [box b9 [.int .i64 (covL c a x), .int .i64 (covH c a x)] 26, box b4 [.int .i64 (covL c a b), .int .i64 (covH c a b)] 26, box b3 [.slice c.gX_a c.gX_n c.gX_c, .slice c.gY_a c.gY_n c.gY_c] 24, box b2 [.int .i64 a, .int .i64 b] 26, box b1 [.slice c.gX_a c.gX_n c.gX_c, .slice c.gY_a c.gY_n c.gY_c] 24] w26 := S25.trans T11
              clear T11 S25
              refine J.run 3 K5_92 [(96, .int .i64 (covE c x b)), (95, .agg #[.int .i64 (covL c x b), .int .i64 (covH c x b)]), (13, .int .i64 (covE c a x)), (12, .pointer (some ⟨b9, 0, none⟩)), (9, .pointer (some ⟨b4, 0, none⟩))] w26 (by kernel_rfl) ?_
              refine J.new S26 14 [.int .i64 0, .int .i64 0] 26 (by kernel_rfl) ?_
              intro b10 w27 S27
              refine J.stBox S27 0 26 0 (.agg #[.int .i64 (covL c x b), .int .i64 (covH c x b)]) [.int .i64 (covL c x b), .int .i64 (covH c x b)] [box b10 [.int .i64 (covL c x b), .int .i64 (covH c x b)] 26, box b9 [.int .i64 (covL c a x), .int .i64 (covH c a x)] 26, box b4 [.int .i64 (covL c a b), .int .i64 (covH c a b)] 26, box b3 [.slice c.gX_a c.gX_n c.gX_c, .slice c.gY_a c.gY_n c.gY_c] 24, box b2 [.int .i64 a, .int .i64 b] 26, box b1 [.slice c.gX_a c.gX_n c.gX_c, .slice c.gY_a c.gY_n c.gY_c] 24] (by kernel_rfl) rfl (by kernel_rfl) (by kernel_rfl) rfl ?_
              intro w28 S28
              refine J.run 7 K5_93 [(99, .bool ((covE c a x) == 0)), (15, .int .i64 (covE c x b)), (14, .pointer (some ⟨b10, 0, none⟩)), (12, .pointer (some ⟨b9, 0, none⟩)), (9, .pointer (some ⟨b4, 0, none⟩))] w28 (by kernel_rfl) ?_
              have fk33 : (covE c a x) = 0 := (cov_facts hX hv (by omega)).1
              refine J.head (.bool true) (congrArg Value.bool (beq_iff_eq.2 fk33)) ?_
              refine J.run 4 K5_94 [(103, .bool ((covE c x b) == 0)), (14, .pointer (some ⟨b10, 0, none⟩)), (12, .pointer (some ⟨b9, 0, none⟩)), (9, .pointer (some ⟨b4, 0, none⟩))] w28 (by kernel_rfl) ?_
              have fk35 : (covE c x b) = 0 := (cov_facts hX hv (by omega)).1
              refine J.head (.bool true) (congrArg Value.bool (beq_iff_eq.2 fk35)) ?_
              refine J.ok (OK.ldBox S28 2 104 26 0 (.agg #[.int .i64 (covL c a b), .int .i64 (covH c a b)]) (by kernel_rfl) rfl (by kernel_rfl)) ?_
              refine J.run 1 K5_95 [(105, .pointer (some ⟨b9, 0, none⟩)), (104, .agg #[.int .i64 (covL c a b), .int .i64 (covH c a b)]), (103, .bool true), (14, .pointer (some ⟨b10, 0, none⟩)), (12, .pointer (some ⟨b9, 0, none⟩))] w28 (by kernel_rfl) ?_
              refine J.ok (OK.ldBox S28 1 106 3 0 (.int .i64 (covL c a x)) (by kernel_rfl) rfl (by kernel_rfl)) ?_
              refine J.run 1 K5_96 [(107, .pointer (some ⟨b10, 0, none⟩)), (106, .int .i64 (covL c a x)), (104, .agg #[.int .i64 (covL c a b), .int .i64 (covH c a b)]), (103, .bool true), (14, .pointer (some ⟨b10, 0, none⟩)), (12, .pointer (some ⟨b9, 0, none⟩))] w28 (by kernel_rfl) ?_
              refine J.ok (OK.ldBox S28 0 108 3 0 (.int .i64 (covL c x b)) (by kernel_rfl) rfl (by kernel_rfl)) ?_
              refine J.run 1 K5_97 [(109, .int .i64 (if (covL c x b) < (covL c a x) then (covL c x b) else (covL c a x))), (104, .agg #[.int .i64 (covL c a b), .int .i64 (covH c a b)]), (103, .bool true), (14, .pointer (some ⟨b10, 0, none⟩)), (12, .pointer (some ⟨b9, 0, none⟩))] w28 (by kernel_rfl) ?_
              refine J.head (.int .i64 (min (covL c a x) (covL c x b))) (congrArg (Value.int .i64) (by omega)) ?_
              refine J.run 1 K5_98 [(110, .pointer (some ⟨b9, 1, none⟩)), (109, .int .i64 (min (covL c a x) (covL c x b))), (104, .agg #[.int .i64 (covL c a b), .int .i64 (covH c a b)]), (103, .bool true), (14, .pointer (some ⟨b10, 0, none⟩))] w28 (by kernel_rfl) ?_
              refine J.ok (OK.ldBox S28 1 111 3 1 (.int .i64 (covH c a x)) (by kernel_rfl) rfl (by kernel_rfl)) ?_
              refine J.run 1 K5_99 [(112, .pointer (some ⟨b10, 1, none⟩)), (111, .int .i64 (covH c a x)), (109, .int .i64 (min (covL c a x) (covL c x b))), (104, .agg #[.int .i64 (covL c a b), .int .i64 (covH c a b)]), (103, .bool true)] w28 (by kernel_rfl) ?_
              refine J.ok (OK.ldBox S28 0 113 3 1 (.int .i64 (covH c x b)) (by kernel_rfl) rfl (by kernel_rfl)) ?_
              refine J.run 1 K5_100 [(114, .int .i64 (if (covH c x b) > (covH c a x) then (covH c x b) else (covH c a x))), (109, .int .i64 (min (covL c a x) (covL c x b))), (104, .agg #[.int .i64 (covL c a b), .int .i64 (covH c a b)]), (103, .bool true)] w28 (by kernel_rfl) ?_
              refine J.head (.int .i64 (max (covH c a x) (covH c x b))) (congrArg (Value.int .i64) (by omega)) ?_
              refine J.run 1 K5_101 [(115, .agg #[.int .i64 (min (covL c a x) (covL c x b)), .int .i64 (max (covH c a x) (covH c x b))]), (104, .agg #[.int .i64 (covL c a b), .int .i64 (covH c a b)]), (103, .bool true)] w28 (by kernel_rfl) ?_
              refine J.ok (OK.eqS 116 true 26 #[.int .i64 (covL c a b), .int .i64 (covH c a b)] #[.int .i64 (min (covL c a x) (covL c x b)), .int .i64 (max (covH c a x) (covH c x b))] (((covL c a b) == (min (covL c a x) (covL c x b))) && (((covH c a b) == (max (covH c a x) (covH c x b))) && true)) (by kernel_rfl) (by kernel_rfl) (by kernel_rfl) (((covL c a b) == (min (covL c a x) (covL c x b))) && ((covH c a b) == (max (covH c a x) (covH c x b)))) (by simp)) ?_
              refine J.run 3 K5_102 [(8, .bool (((covL c a b) == (min (covL c a x) (covL c x b))) && ((covH c a b) == (max (covH c a x) (covH c x b)))))] w28 (by kernel_rfl) ?_
              refine J.ret Tryd.f5 [.bool (((covL c a b) == (min (covL c a x) (covL c x b))) && ((covH c a b) == (max (covH c a x) (covH c x b))))] Tryd.func5 ⟨by kernel_rfl, trivial⟩ ?_
              refine hR _ _ ?_
              have fk36 : (((covL c a b) == (min (covL c a x) (covL c x b))) && ((covH c a b) == (max (covH c a x) (covH c x b)))) = true := by rw [(cov_join hX hv (a := a) (x := x) (b := b) (by omega) (by omega)).1, (cov_join hX hv (a := a) (x := x) (b := b) (by omega) (by omega)).2]; simp
              exact ⟨congrArg Value.bool fk36, S28.nil⟩
      · skip
        refine J.head (.bool true) (congrArg Value.bool (bne_iff_ne.2 fk3)) ?_
        refine J.run 4 K5_103 [(34, .pointer (some ⟨b2, 0, none⟩)), (5, .pointer (some ⟨b2, 0, none⟩))] w9 (by kernel_rfl) ?_
        refine J.ok (OK.ldBox S9 2 35 3 0 (.int .i64 a) (by kernel_rfl) rfl (by kernel_rfl)) ?_
        refine J.run 1 K5_104 [(36, .pointer (some ⟨b2, 1, none⟩)), (35, .int .i64 a)] w9 (by kernel_rfl) ?_
        refine J.ok (OK.ldBox S9 2 37 3 1 (.int .i64 b) (by kernel_rfl) rfl (by kernel_rfl)) ?_
        refine J.run 3 K5_105 [(8, .bool (decide (a > b)))] w9 (by kernel_rfl) ?_
        refine J.ret Tryd.f5 [.bool (decide (a > b))] Tryd.func5 ⟨by kernel_rfl, trivial⟩ ?_
        refine hR _ _ ?_
        have fk37 : a > b := cov_out hv fk3
        exact ⟨congrArg Value.bool (decide_eq_true fk37), S9.nil⟩
    · skip
      refine J.head (.bool true) (congrArg Value.bool (by rw [fk2]; rfl)) ?_
      refine J.run 5 K5_106 [(8, .bool true)] w6 (by kernel_rfl) ?_
      refine J.ret Tryd.f5 [.bool true] Tryd.func5 ⟨by kernel_rfl, trivial⟩ ?_
      refine hR _ _ ?_
      exact ⟨rfl, S6.nil⟩

end Go.Proofs.YtdilhoibcbihlaaDoor
