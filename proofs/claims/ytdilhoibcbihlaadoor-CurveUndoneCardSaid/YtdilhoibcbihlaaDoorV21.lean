/- Walks of functions of this seat, printed by a program over the engine. Conditions: as each theorem says. -/
import Derived.Test.YtdilhoibcbihlaaDoorV18
namespace Go.Proofs.YtdilhoibcbihlaaDoor
open Go.Eng Go.RowKit
set_option linter.unusedSimpArgs false
set_option linter.unusedVariables false
theorem hb4 : HasBody Tryd.prog 4 := fun _ _ => by kernel_rfl
noncomputable def K4_0 : List Item := adv 2 [] (bodyOf Tryd.f4)
noncomputable def K4_1 : List Item := adv 5 [] (popK K4_0)
noncomputable def K4_2 : List Item := adv 7 [false] (popK K4_1)
noncomputable def K4_3 : List Item := adv 1 [] (popK (popK (popK K4_2)))
noncomputable def K4_4 : List Item := adv 15 [true] K4_3
noncomputable def K4_5 : List Item := adv 3 [] (popK (popK K4_3))
noncomputable def K4_6 : List Item := adv 7 [false] (popK (popK K4_5))
noncomputable def K4_7 : List Item := adv 1 [] (popK K4_6)
noncomputable def K4_8 : List Item := adv 9 [] (popK K4_7)
noncomputable def K4_9 : List Item := adv 2 [] (popK (popK K4_8))
noncomputable def K4_10 : List Item := adv 8 [false] K4_9
noncomputable def K4_11 : List Item := adv 5 [false] K4_10
noncomputable def K4_12 : List Item := adv 1 [] (popK K4_11)
noncomputable def K4_13 : List Item := adv 3 [] (popK K4_12)
noncomputable def K4_14 : List Item := adv 2 [] K4_13
noncomputable def K4_15 : List Item := adv 3 [] (popK (popK (popK K4_14)))
noncomputable def K4_16 : List Item := adv 2 [] K4_15
noncomputable def K4_17 : List Item := adv 1 [] (popK K4_16)
noncomputable def K4_18 : List Item := adv 2 [] (popK K4_17)
noncomputable def K4_19 : List Item := adv 3 [] (popK (popK K4_18))
noncomputable def K4_20 : List Item := adv 2 [] K4_19
noncomputable def K4_21 : List Item := adv 2 [] (popK (popK (popK K4_20)))
noncomputable def K4_22 : List Item := adv 2 [] (popK K4_21)
noncomputable def K4_23 : List Item := adv 5 [] (popK K4_22)
noncomputable def K4_24 : List Item := adv 4 [false] K4_23
noncomputable def K4_25 : List Item := adv 1 [] (popK K4_24)
noncomputable def K4_26 : List Item := adv 4 [] (popK K4_25)
noncomputable def K4_27 : List Item := adv 1 [] (popK K4_26)
noncomputable def K4_28 : List Item := adv 11 [] (popK K4_27)
noncomputable def K4_29 : List Item := adv 1 [] (popK K4_28)
noncomputable def K4_30 : List Item := adv 4 [] (popK K4_29)
noncomputable def K4_31 : List Item := adv 4 [] K4_30
noncomputable def K4_32 : List Item := adv 10 [] K4_31
noncomputable def K4_33 : List Item := adv 2 [] K4_31
noncomputable def K4_34 : List Item := adv 5 [] (popK (popK (popK K4_33)))
noncomputable def K4_35 : List Item := adv 13 [false] K4_21
noncomputable def K4_36 : List Item := adv 1 [] (popK K4_35)
noncomputable def K4_37 : List Item := adv 4 [] (popK K4_36)
noncomputable def K4_38 : List Item := adv 1 [] (popK K4_37)
noncomputable def K4_39 : List Item := adv 11 [] (popK K4_38)
noncomputable def K4_40 : List Item := adv 1 [] (popK K4_39)
noncomputable def K4_41 : List Item := adv 4 [] (popK K4_40)
noncomputable def K4_42 : List Item := adv 4 [] K4_41
noncomputable def K4_43 : List Item := adv 10 [] K4_42
noncomputable def K4_44 : List Item := adv 2 [] K4_42
noncomputable def K4_45 : List Item := adv 5 [] (popK (popK (popK K4_44)))
noncomputable def K4_46 : List Item := adv 6 [true] K4_10
noncomputable def K4_47 : List Item := adv 2 [] K4_46
noncomputable def K4_48 : List Item := adv 1 [] (popK K4_47)
noncomputable def K4_49 : List Item := adv 2 [] (popK K4_48)
noncomputable def K4_50 : List Item := adv 4 [] (popK (popK K4_49))
noncomputable def K4_51 : List Item := adv 6 [true] K4_9
noncomputable def K4_52 : List Item := adv 5 [] K4_51
noncomputable def K4_53 : List Item := adv 10 [true] K4_5
set_option maxRecDepth 20000 in
set_option maxHeartbeats 20000000 in
theorem lawundone_any (c : Crv) (x y : Int) (w : World) (hc : crvQ w c) (hW : TabW w) : Ret Tryd.prog 4 #[.agg #[.slice c.gX_a c.gX_n c.gX_c, .slice c.gY_a c.gY_n c.gY_c], .int .i64 x, .int .i64 y] w (fun v w' => v = .bool true ∧ Sep w [] w') := by
  have S0 := Sep.refl w
  refine Ret.named fun R hR => ?_
  refine Ret.of_J (N := 130) [(0, .agg #[.slice c.gX_a c.gX_n c.gX_c, .slice c.gY_a c.gY_n c.gY_c]), (1, .int .i64 x), (2, .int .i64 y)] Tryd.func4 rfl rfl (Nat.le_of_ble_eq_true (by kernel_rfl)) (by kernel_rfl) ?_
  obtain ⟨q1, q2, q3, q4, q5, q6, _⟩ := id hc
  have ql1 := q2.len_eq
  have ql2 := q5.len_eq
  refine J.run 2 K4_0 [(0, .agg #[.slice c.gX_a c.gX_n c.gX_c, .slice c.gY_a c.gY_n c.gY_c]), (1, .int .i64 x), (2, .int .i64 y)] w (by kernel_rfl) ?_
  refine J.new S0 3 [.slice c.gX_a c.gX_n c.gX_c, .slice c.gY_a c.gY_n c.gY_c] 24 (by kernel_rfl) ?_
  intro b1 w1 S1
  refine J.run 5 K4_1 [(3, .pointer (some ⟨b1, 0, none⟩)), (1, .int .i64 x), (2, .int .i64 y)] w1 (by kernel_rfl) ?_
  refine J.callF 12 10 #[] hb10 (by kernel_rfl) (awake_any  _ (tabW_sep hW S1)) ?_
  rintro _ w2 ⟨rfl, T1⟩
  have S2 : Sep w [box b1 [.slice c.gX_a c.gX_n c.gX_c, .slice c.gY_a c.gY_n c.gY_c] 24] w2 := S1.trans T1
  clear T1 S1
  refine J.run 7 K4_2 [(3, .pointer (some ⟨b1, 0, none⟩)), (1, .int .i64 x), (2, .int .i64 y)] w2 (by kernel_rfl) ?_
  refine J.ok (OK.ldBox S2 0 14 24 0 (.agg #[.slice c.gX_a c.gX_n c.gX_c, .slice c.gY_a c.gY_n c.gY_c]) (by kernel_rfl) rfl (by kernel_rfl)) ?_
  refine J.newSlice S2 15 1 [.slice c.gX_a c.gX_n c.gX_c, .slice c.gY_a c.gY_n c.gY_c] 24 (by kernel_rfl) ?_
  intro b2 w3 S3
  refine J.callF 16 11 #[.slice (some ⟨b2, 0, none⟩) 1 1] hb11 (by kernel_rfl) (great_any (some ⟨b2, 0, none⟩) 1 1 ([c]) _ ((show Recs crvE 2 w3 (some ⟨b2, 0, none⟩) 1 ([c] : List Crv) from ⟨rfl, fun _ => rfl, by decide, box_cells (S3.nth 0 rfl)⟩)) (by first | omega | (simp; omega))) ?_
  rintro _ w4 ⟨rfl, T2⟩
  have S4 : Sep w [box b2 [.slice c.gX_a c.gX_n c.gX_c, .slice c.gY_a c.gY_n c.gY_c] 24, box b1 [.slice c.gX_a c.gX_n c.gX_c, .slice c.gY_a c.gY_n c.gY_c] 24] w4 := S3.trans T2
  clear T2 S3
  refine J.head (.bool (greatC c)) (congrArg Value.bool (by simp)) ?_
  refine J.run 1 K4_3 [(17, .bool (greatC c)), (3, .pointer (some ⟨b1, 0, none⟩)), (1, .int .i64 x), (2, .int .i64 y)] w4 (by kernel_rfl) ?_
  rcases Bool.eq_false_or_eq_true (greatC c) with fk1 | fk1
  · skip
    refine J.head (.bool true) (congrArg Value.bool fk1) ?_
    refine J.run 15 K4_4 [(6, .bool true)] w4 (by kernel_rfl) ?_
    refine J.ret Tryd.f4 [.bool true] Tryd.func4 ⟨by kernel_rfl, trivial⟩ ?_
    refine hR _ _ ?_
    exact ⟨rfl, S4.nil⟩
  · skip
    refine J.head (.bool false) (congrArg Value.bool fk1) ?_
    have hgr := great_no fk1
    refine J.ok (OK.ldBox S4 1 18 24 0 (.agg #[.slice c.gX_a c.gX_n c.gX_c, .slice c.gY_a c.gY_n c.gY_c]) (by kernel_rfl) rfl (by kernel_rfl)) ?_
    refine J.callF 19 16 #[.agg #[.slice c.gX_a c.gX_n c.gX_c, .slice c.gY_a c.gY_n c.gY_c]] hb16 (by kernel_rfl) (cvalid_any c _ (crvQ_sep hc S4)) ?_
    rintro _ w5 ⟨rfl, T3⟩
    have S5 : Sep w [box b2 [.slice c.gX_a c.gX_n c.gX_c, .slice c.gY_a c.gY_n c.gY_c] 24, box b1 [.slice c.gX_a c.gX_n c.gX_c, .slice c.gY_a c.gY_n c.gY_c] 24] w5 := S4.trans T3
    clear T3 S4
    refine J.run 3 K4_5 [(22, .bool (!(validV c))), (3, .pointer (some ⟨b1, 0, none⟩)), (1, .int .i64 x), (2, .int .i64 y)] w5 (by kernel_rfl) ?_
    rcases Bool.eq_false_or_eq_true (validV c) with fk2 | fk2
    · skip
      refine J.head (.bool false) (congrArg Value.bool (by rw [fk2]; rfl)) ?_
      have hv := fk2
      obtain ⟨hv1, hv2, hv3⟩ := validV_facts hv
      obtain ⟨hx1, hx2, hx3⟩ := axis_facts hv2
      have hX : c.gX_l.length = c.gX_n := by omega
      have hY : c.gY_l.length = c.gX_n := by omega
      have hxm := axis_mono hv2 (show 0 < ((c.gX_n : Int) - 1).toNat by omega) (by omega)
      have hx0 := hx2 0 (by omega)
      have hxl := hx2 ((c.gX_n : Int) - 1).toNat (by omega)
      have hdv : dirV c = dirL c.gY_l := by unfold dirV; rw [hv]; rfl
      have hyn : ((c.gY_n : Int) - 1).toNat = ((c.gX_n : Int) - 1).toNat := by omega
      refine J.ok (OK.ldBox S5 1 23 24 0 (.agg #[.slice c.gX_a c.gX_n c.gX_c, .slice c.gY_a c.gY_n c.gY_c]) (by kernel_rfl) rfl (by kernel_rfl)) ?_
      refine J.callF 24 17 #[.agg #[.slice c.gX_a c.gX_n c.gX_c, .slice c.gY_a c.gY_n c.gY_c]] hb17 (by kernel_rfl) (rcvalid_any c _ (crvQ_sep hc S5)) ?_
      rintro _ w6 ⟨rfl, T4⟩
      have S6 : Sep w [box b2 [.slice c.gX_a c.gX_n c.gX_c, .slice c.gY_a c.gY_n c.gY_c] 24, box b1 [.slice c.gX_a c.gX_n c.gX_c, .slice c.gY_a c.gY_n c.gY_c] 24] w6 := S5.trans T4
      clear T4 S5
      refine J.head (.bool true) (congrArg Value.bool fk2) ?_
      refine J.run 7 K4_6 [(3, .pointer (some ⟨b1, 0, none⟩)), (1, .int .i64 x), (2, .int .i64 y)] w6 (by kernel_rfl) ?_
      refine J.ok (OK.ldBox S6 1 28 24 0 (.agg #[.slice c.gX_a c.gX_n c.gX_c, .slice c.gY_a c.gY_n c.gY_c]) (by kernel_rfl) rfl (by kernel_rfl)) ?_
      refine J.run 1 K4_7 [(29, .int .i64 y), (28, .agg #[.slice c.gX_a c.gX_n c.gX_c, .slice c.gY_a c.gY_n c.gY_c]), (3, .pointer (some ⟨b1, 0, none⟩)), (1, .int .i64 x), (2, .int .i64 y)] w6 (by kernel_rfl) ?_
      refine J.callF 30 12 #[.agg #[.slice c.gX_a c.gX_n c.gX_c, .slice c.gY_a c.gY_n c.gY_c], .int .i64 y] hb12 (by kernel_rfl) (cinverse_any c y _ (crvQ_sep hc S6)) ?_
      rintro _ w7 ⟨rfl, T5⟩
      have S7 : Sep w [box b2 [.slice c.gX_a c.gX_n c.gX_c, .slice c.gY_a c.gY_n c.gY_c] 24, box b1 [.slice c.gX_a c.gX_n c.gX_c, .slice c.gY_a c.gY_n c.gY_c] 24] w7 := S6.trans T5
      clear T5 S6
      refine J.run 9 K4_8 [(8, .int .i64 (civE c y)), (7, .int .i64 (civX c y)), (3, .pointer (some ⟨b1, 0, none⟩)), (1, .int .i64 x), (2, .int .i64 y)] w7 (by kernel_rfl) ?_
      refine J.ok (OK.ldBox S7 1 33 24 0 (.agg #[.slice c.gX_a c.gX_n c.gX_c, .slice c.gY_a c.gY_n c.gY_c]) (by kernel_rfl) rfl (by kernel_rfl)) ?_
      refine J.callF 34 18 #[.agg #[.slice c.gX_a c.gX_n c.gX_c, .slice c.gY_a c.gY_n c.gY_c]] hb18 (by kernel_rfl) (cdir_any c _ (crvQ_sep hc S7)) ?_
      rintro _ w8 ⟨rfl, T6⟩
      have S8 : Sep w [box b2 [.slice c.gX_a c.gX_n c.gX_c, .slice c.gY_a c.gY_n c.gY_c] 24, box b1 [.slice c.gX_a c.gX_n c.gX_c, .slice c.gY_a c.gY_n c.gY_c] 24] w8 := S7.trans T6
      clear T6 S7
      refine J.run 2 K4_9 [(35, .bool ((dirV c) != 1)), (8, .int .i64 (civE c y)), (7, .int .i64 (civX c y)), (3, .pointer (some ⟨b1, 0, none⟩)), (1, .int .i64 x), (2, .int .i64 y)] w8 (by kernel_rfl) ?_
      by_cases fk3 : (dirV c) = 1
      · skip
        refine J.head (.bool false) (congrArg Value.bool (bne_eq_false_iff_eq.2 fk3)) ?_
        refine J.run 8 K4_10 [(43, .bool ((civE c y) != 0)), (8, .int .i64 (civE c y)), (7, .int .i64 (civX c y)), (3, .pointer (some ⟨b1, 0, none⟩)), (1, .int .i64 x), (2, .int .i64 y)] w8 (by kernel_rfl) ?_
        by_cases fk4 : (civE c y) = 0
        · skip
          refine J.head (.bool false) (congrArg Value.bool (bne_eq_false_iff_eq.2 fk4)) ?_
          refine J.run 5 K4_11 [(7, .int .i64 (civX c y)), (3, .pointer (some ⟨b1, 0, none⟩)), (1, .int .i64 x), (2, .int .i64 y)] w8 (by kernel_rfl) ?_
          refine J.ok (OK.ldBox S8 1 58 24 0 (.agg #[.slice c.gX_a c.gX_n c.gX_c, .slice c.gY_a c.gY_n c.gY_c]) (by kernel_rfl) rfl (by kernel_rfl)) ?_
          refine J.run 1 K4_12 [(59, .int .i64 (civX c y)), (58, .agg #[.slice c.gX_a c.gX_n c.gX_c, .slice c.gY_a c.gY_n c.gY_c]), (7, .int .i64 (civX c y)), (3, .pointer (some ⟨b1, 0, none⟩)), (1, .int .i64 x), (2, .int .i64 y)] w8 (by kernel_rfl) ?_
          refine J.callF 60 19 #[.agg #[.slice c.gX_a c.gX_n c.gX_c, .slice c.gY_a c.gY_n c.gY_c], .int .i64 (civX c y)] hb19 (by kernel_rfl) (cAt_any c (civX c y) _ (crvQ_sep hc S8)) ?_
          rintro _ w9 ⟨rfl, T7⟩
          have S9 : Sep w [box b2 [.slice c.gX_a c.gX_n c.gX_c, .slice c.gY_a c.gY_n c.gY_c] 24, box b1 [.slice c.gX_a c.gX_n c.gX_c, .slice c.gY_a c.gY_n c.gY_c] 24] w9 := S8.trans T7
          clear T7 S8
          refine J.run 3 K4_13 [(63, .bool (decide ((atV c (civX c y)) < y))), (7, .int .i64 (civX c y)), (3, .pointer (some ⟨b1, 0, none⟩)), (1, .int .i64 x), (2, .int .i64 y)] w9 (by kernel_rfl) ?_
          have fk6 : ¬ ((atV c (civX c y)) < y) := by have h_ := inv_at hX hv fk3 (y := y) (by omega); omega
          refine J.head (.bool false) (congrArg Value.bool (decide_eq_false fk6)) ?_
          refine J.run 2 K4_14 [(65, .pointer (some ⟨b1, 0, none⟩)), (64, .int .i64 (civX c y)), (63, .bool false), (7, .int .i64 (civX c y)), (3, .pointer (some ⟨b1, 0, none⟩)), (1, .int .i64 x), (2, .int .i64 y)] w9 (by kernel_rfl) ?_
          refine J.ok (OK.ldBox S9 1 66 22 0 (.slice c.gX_a c.gX_n c.gX_c) (by kernel_rfl) rfl (by kernel_rfl)) ?_
          obtain ⟨p1, hp1, hc1⟩ := q2.at 0 0 (by omega)
          have hel1 := getD_Q q3 0 (n := 0) (by have := q2.len_eq; omega)
          refine J.ok (OK.index 67 22 1 c.gX_a p1 c.gX_n 0 0 (p1.add 0) (by kernel_rfl) (by kernel_rfl) hp1 (by omega) (by omega) (by rw [Nat.mul_one])) ?_
          refine J.ok (OK.ldCell 68 3 (p1.add 0) (.int .i64 (c.gX_l.getD 0 0)) (by kernel_rfl) (by kernel_rfl) (S9.cell hc1)) ?_
          refine J.run 3 K4_15 [(71, .bool (decide ((civX c y) < (c.gX_l.getD 0 0)))), (7, .int .i64 (civX c y)), (3, .pointer (some ⟨b1, 0, none⟩)), (1, .int .i64 x), (2, .int .i64 y)] w9 (by kernel_rfl) ?_
          have fk8 : ¬ ((civX c y) < (c.gX_l.getD 0 0)) := by have h_ := inv_at hX hv fk3 (y := y) (by omega); omega
          refine J.head (.bool false) (congrArg Value.bool (decide_eq_false fk8)) ?_
          refine J.run 2 K4_16 [(73, .pointer (some ⟨b1, 0, none⟩)), (72, .int .i64 (civX c y)), (71, .bool false), (7, .int .i64 (civX c y)), (3, .pointer (some ⟨b1, 0, none⟩)), (1, .int .i64 x), (2, .int .i64 y)] w9 (by kernel_rfl) ?_
          refine J.ok (OK.ldBox S9 1 74 22 0 (.slice c.gX_a c.gX_n c.gX_c) (by kernel_rfl) rfl (by kernel_rfl)) ?_
          refine J.run 1 K4_17 [(75, .pointer (some ⟨b1, 0, none⟩)), (74, .slice c.gX_a c.gX_n c.gX_c), (72, .int .i64 (civX c y)), (71, .bool false), (7, .int .i64 (civX c y)), (3, .pointer (some ⟨b1, 0, none⟩)), (1, .int .i64 x), (2, .int .i64 y)] w9 (by kernel_rfl) ?_
          refine J.ok (OK.ldBox S9 1 76 22 0 (.slice c.gX_a c.gX_n c.gX_c) (by kernel_rfl) rfl (by kernel_rfl)) ?_
          refine J.run 2 K4_18 [(78, .int .i64 (IntKind.wrap .i64 ((c.gX_n : Int) - 1))), (74, .slice c.gX_a c.gX_n c.gX_c), (72, .int .i64 (civX c y)), (71, .bool false), (7, .int .i64 (civX c y)), (3, .pointer (some ⟨b1, 0, none⟩)), (1, .int .i64 x), (2, .int .i64 y)] w9 (by kernel_rfl) ?_
          refine J.head (.int .i64 ((c.gX_n : Int) - 1)) (congrArg (Value.int .i64) (IntWalk.i64_in _ (by omega))) ?_
          obtain ⟨p2, hp2, hc2⟩ := q2.at 0 ((c.gX_n : Int) - 1).toNat (by omega)
          have hel2 := getD_Q q3 0 (n := ((c.gX_n : Int) - 1).toNat) (by have := q2.len_eq; omega)
          refine J.ok (OK.index 79 22 1 c.gX_a p2 c.gX_n ((c.gX_n : Int) - 1).toNat ((c.gX_n : Int) - 1) (p2.add ((c.gX_n : Int) - 1).toNat) (by kernel_rfl) (by kernel_rfl) hp2 (by omega) (by omega) (by rw [Nat.mul_one])) ?_
          refine J.ok (OK.ldCell 80 3 (p2.add ((c.gX_n : Int) - 1).toNat) (.int .i64 (c.gX_l.getD ((c.gX_n : Int) - 1).toNat 0)) (by kernel_rfl) (by kernel_rfl) (S9.cell hc2)) ?_
          refine J.run 3 K4_19 [(83, .bool (decide ((civX c y) > (c.gX_l.getD ((c.gX_n : Int) - 1).toNat 0)))), (7, .int .i64 (civX c y)), (3, .pointer (some ⟨b1, 0, none⟩)), (1, .int .i64 x), (2, .int .i64 y)] w9 (by kernel_rfl) ?_
          have fk10 : ¬ ((civX c y) > (c.gX_l.getD ((c.gX_n : Int) - 1).toNat 0)) := by have h_ := inv_at hX hv fk3 (y := y) (by omega); omega
          refine J.head (.bool false) (congrArg Value.bool (decide_eq_false fk10)) ?_
          refine J.run 2 K4_20 [(85, .pointer (some ⟨b1, 0, none⟩)), (84, .int .i64 (civX c y)), (83, .bool false), (7, .int .i64 (civX c y)), (3, .pointer (some ⟨b1, 0, none⟩)), (1, .int .i64 x), (2, .int .i64 y)] w9 (by kernel_rfl) ?_
          refine J.ok (OK.ldBox S9 1 86 22 0 (.slice c.gX_a c.gX_n c.gX_c) (by kernel_rfl) rfl (by kernel_rfl)) ?_
          refine J.ok (OK.index 87 22 1 c.gX_a p1 c.gX_n 0 0 (p1.add 0) (by kernel_rfl) (by kernel_rfl) hp1 (by omega) (by omega) (by rw [Nat.mul_one])) ?_
          refine J.ok (OK.ldCell 88 3 (p1.add 0) (.int .i64 (c.gX_l.getD 0 0)) (by kernel_rfl) (by kernel_rfl) (S9.cell hc1)) ?_
          refine J.run 2 K4_21 [(90, .bool (decide ((civX c y) > (c.gX_l.getD 0 0)))), (83, .bool false), (7, .int .i64 (civX c y)), (3, .pointer (some ⟨b1, 0, none⟩)), (1, .int .i64 x), (2, .int .i64 y)] w9 (by kernel_rfl) ?_
          by_cases fk11 : (civX c y) > (c.gX_l.getD 0 0)
          · skip
            refine J.head (.bool true) (congrArg Value.bool (decide_eq_true fk11)) ?_
            refine J.ok (OK.ldBox S9 1 91 24 0 (.agg #[.slice c.gX_a c.gX_n c.gX_c, .slice c.gY_a c.gY_n c.gY_c]) (by kernel_rfl) rfl (by kernel_rfl)) ?_
            have hci := inv_at hX hv fk3 (y := y) (by omega)
            refine J.run 2 K4_22 [(93, .int .i64 (IntKind.wrap .i64 ((civX c y) - 1))), (91, .agg #[.slice c.gX_a c.gX_n c.gX_c, .slice c.gY_a c.gY_n c.gY_c]), (90, .bool true), (83, .bool false), (3, .pointer (some ⟨b1, 0, none⟩)), (1, .int .i64 x), (2, .int .i64 y)] w9 (by kernel_rfl) ?_
            refine J.head (.int .i64 ((civX c y) - 1)) (congrArg (Value.int .i64) (IntWalk.i64_in _ (by omega))) ?_
            refine J.callF 94 19 #[.agg #[.slice c.gX_a c.gX_n c.gX_c, .slice c.gY_a c.gY_n c.gY_c], .int .i64 ((civX c y) - 1)] hb19 (by kernel_rfl) (cAt_any c ((civX c y) - 1) _ (crvQ_sep hc S9)) ?_
            rintro _ w10 ⟨rfl, T8⟩
            have S10 : Sep w [box b2 [.slice c.gX_a c.gX_n c.gX_c, .slice c.gY_a c.gY_n c.gY_c] 24, box b1 [.slice c.gX_a c.gX_n c.gX_c, .slice c.gY_a c.gY_n c.gY_c] 24] w10 := S9.trans T8
            clear T8 S9
            refine J.run 5 K4_23 [(98, .bool (decide ((atV c ((civX c y) - 1)) ≥ y))), (3, .pointer (some ⟨b1, 0, none⟩)), (1, .int .i64 x)] w10 (by kernel_rfl) ?_
            have fk13 : ¬ ((atV c ((civX c y) - 1)) ≥ y) := by have h_ := inv_at hX hv fk3 (y := y) (by omega); omega
            refine J.head (.bool false) (congrArg Value.bool (decide_eq_false fk13)) ?_
            refine J.run 4 K4_24 [(3, .pointer (some ⟨b1, 0, none⟩)), (1, .int .i64 x)] w10 (by kernel_rfl) ?_
            refine J.ok (OK.ldBox S10 1 99 24 0 (.agg #[.slice c.gX_a c.gX_n c.gX_c, .slice c.gY_a c.gY_n c.gY_c]) (by kernel_rfl) rfl (by kernel_rfl)) ?_
            refine J.run 1 K4_25 [(100, .int .i64 x), (99, .agg #[.slice c.gX_a c.gX_n c.gX_c, .slice c.gY_a c.gY_n c.gY_c]), (3, .pointer (some ⟨b1, 0, none⟩)), (1, .int .i64 x)] w10 (by kernel_rfl) ?_
            refine J.callF 101 19 #[.agg #[.slice c.gX_a c.gX_n c.gX_c, .slice c.gY_a c.gY_n c.gY_c], .int .i64 x] hb19 (by kernel_rfl) (cAt_any c x _ (crvQ_sep hc S10)) ?_
            rintro _ w11 ⟨rfl, T9⟩
            have S11 : Sep w [box b2 [.slice c.gX_a c.gX_n c.gX_c, .slice c.gY_a c.gY_n c.gY_c] 24, box b1 [.slice c.gX_a c.gX_n c.gX_c, .slice c.gY_a c.gY_n c.gY_c] 24] w11 := S10.trans T9
            clear T9 S10
            refine J.run 4 K4_26 [(9, .int .i64 (atV c x)), (3, .pointer (some ⟨b1, 0, none⟩)), (1, .int .i64 x)] w11 (by kernel_rfl) ?_
            refine J.ok (OK.ldBox S11 1 103 24 0 (.agg #[.slice c.gX_a c.gX_n c.gX_c, .slice c.gY_a c.gY_n c.gY_c]) (by kernel_rfl) rfl (by kernel_rfl)) ?_
            refine J.run 1 K4_27 [(104, .int .i64 (atV c x)), (103, .agg #[.slice c.gX_a c.gX_n c.gX_c, .slice c.gY_a c.gY_n c.gY_c]), (9, .int .i64 (atV c x)), (3, .pointer (some ⟨b1, 0, none⟩)), (1, .int .i64 x)] w11 (by kernel_rfl) ?_
            refine J.callF 105 12 #[.agg #[.slice c.gX_a c.gX_n c.gX_c, .slice c.gY_a c.gY_n c.gY_c], .int .i64 (atV c x)] hb12 (by kernel_rfl) (cinverse_any c (atV c x) _ (crvQ_sep hc S11)) ?_
            rintro _ w12 ⟨rfl, T10⟩
            have S12 : Sep w [box b2 [.slice c.gX_a c.gX_n c.gX_c, .slice c.gY_a c.gY_n c.gY_c] 24, box b1 [.slice c.gX_a c.gX_n c.gX_c, .slice c.gY_a c.gY_n c.gY_c] 24] w12 := S11.trans T10
            clear T10 S11
            refine J.run 11 K4_28 [(110, .bool ((civE c (atV c x)) == 0)), (10, .int .i64 (civX c (atV c x))), (9, .int .i64 (atV c x)), (3, .pointer (some ⟨b1, 0, none⟩)), (1, .int .i64 x)] w12 (by kernel_rfl) ?_
            have fk15 : (civE c (atV c x)) = 0 := (undone hX hY hv fk3 x).1
            refine J.head (.bool true) (congrArg Value.bool (beq_iff_eq.2 fk15)) ?_
            refine J.ok (OK.ldBox S12 1 111 24 0 (.agg #[.slice c.gX_a c.gX_n c.gX_c, .slice c.gY_a c.gY_n c.gY_c]) (by kernel_rfl) rfl (by kernel_rfl)) ?_
            refine J.run 1 K4_29 [(112, .int .i64 (civX c (atV c x))), (111, .agg #[.slice c.gX_a c.gX_n c.gX_c, .slice c.gY_a c.gY_n c.gY_c]), (110, .bool true), (10, .int .i64 (civX c (atV c x))), (9, .int .i64 (atV c x)), (3, .pointer (some ⟨b1, 0, none⟩)), (1, .int .i64 x)] w12 (by kernel_rfl) ?_
            refine J.callF 113 19 #[.agg #[.slice c.gX_a c.gX_n c.gX_c, .slice c.gY_a c.gY_n c.gY_c], .int .i64 (civX c (atV c x))] hb19 (by kernel_rfl) (cAt_any c (civX c (atV c x)) _ (crvQ_sep hc S12)) ?_
            rintro _ w13 ⟨rfl, T11⟩
            have S13 : Sep w [box b2 [.slice c.gX_a c.gX_n c.gX_c, .slice c.gY_a c.gY_n c.gY_c] 24, box b1 [.slice c.gX_a c.gX_n c.gX_c, .slice c.gY_a c.gY_n c.gY_c] 24] w13 := S12.trans T11
            clear T11 S12
            refine J.run 4 K4_30 [(117, .bool ((atV c (civX c (atV c x))) == (atV c x))), (10, .int .i64 (civX c (atV c x))), (3, .pointer (some ⟨b1, 0, none⟩)), (1, .int .i64 x)] w13 (by kernel_rfl) ?_
            have fk17 : (atV c (civX c (atV c x))) = (atV c x) := (undone hX hY hv fk3 x).2.1
            refine J.head (.bool true) (congrArg Value.bool (beq_iff_eq.2 fk17)) ?_
            refine J.run 4 K4_31 [(121, .bool (decide ((civX c (atV c x)) ≤ x))), (117, .bool true), (10, .int .i64 (civX c (atV c x))), (3, .pointer (some ⟨b1, 0, none⟩))] w13 (by kernel_rfl) ?_
            by_cases fk18 : (civX c (atV c x)) ≤ x
            · skip
              refine J.head (.bool true) (congrArg Value.bool (decide_eq_true fk18)) ?_
              refine J.run 10 K4_32 [(6, .bool true)] w13 (by kernel_rfl) ?_
              refine J.ret Tryd.f4 [.bool true] Tryd.func4 ⟨by kernel_rfl, trivial⟩ ?_
              refine hR _ _ ?_
              exact ⟨rfl, S13.nil⟩
            · skip
              refine J.head (.bool false) (congrArg Value.bool (decide_eq_false fk18)) ?_
              refine J.run 2 K4_33 [(123, .pointer (some ⟨b1, 0, none⟩)), (122, .int .i64 (civX c (atV c x))), (121, .bool false), (117, .bool true)] w13 (by kernel_rfl) ?_
              refine J.ok (OK.ldBox S13 1 124 22 0 (.slice c.gX_a c.gX_n c.gX_c) (by kernel_rfl) rfl (by kernel_rfl)) ?_
              refine J.ok (OK.index 125 22 1 c.gX_a p1 c.gX_n 0 0 (p1.add 0) (by kernel_rfl) (by kernel_rfl) hp1 (by omega) (by omega) (by rw [Nat.mul_one])) ?_
              refine J.ok (OK.ldCell 126 3 (p1.add 0) (.int .i64 (c.gX_l.getD 0 0)) (by kernel_rfl) (by kernel_rfl) (S13.cell hc1)) ?_
              refine J.run 5 K4_34 [(6, .bool ((civX c (atV c x)) == (c.gX_l.getD 0 0)))] w13 (by kernel_rfl) ?_
              refine J.ret Tryd.f4 [.bool ((civX c (atV c x)) == (c.gX_l.getD 0 0))] Tryd.func4 ⟨by kernel_rfl, trivial⟩ ?_
              refine hR _ _ ?_
              have fk19 : (civX c (atV c x)) = (c.gX_l.getD 0 0) := by have h_ := (undone hX hY hv fk3 x).2.2; omega
              exact ⟨congrArg Value.bool (beq_iff_eq.2 fk19), S13.nil⟩
          · skip
            refine J.head (.bool false) (congrArg Value.bool (decide_eq_false fk11)) ?_
            refine J.run 13 K4_35 [(3, .pointer (some ⟨b1, 0, none⟩)), (1, .int .i64 x)] w9 (by kernel_rfl) ?_
            refine J.ok (OK.ldBox S9 1 99 24 0 (.agg #[.slice c.gX_a c.gX_n c.gX_c, .slice c.gY_a c.gY_n c.gY_c]) (by kernel_rfl) rfl (by kernel_rfl)) ?_
            refine J.run 1 K4_36 [(100, .int .i64 x), (99, .agg #[.slice c.gX_a c.gX_n c.gX_c, .slice c.gY_a c.gY_n c.gY_c]), (3, .pointer (some ⟨b1, 0, none⟩)), (1, .int .i64 x)] w9 (by kernel_rfl) ?_
            refine J.callF 101 19 #[.agg #[.slice c.gX_a c.gX_n c.gX_c, .slice c.gY_a c.gY_n c.gY_c], .int .i64 x] hb19 (by kernel_rfl) (cAt_any c x _ (crvQ_sep hc S9)) ?_
            rintro _ w14 ⟨rfl, T12⟩
            have S14 : Sep w [box b2 [.slice c.gX_a c.gX_n c.gX_c, .slice c.gY_a c.gY_n c.gY_c] 24, box b1 [.slice c.gX_a c.gX_n c.gX_c, .slice c.gY_a c.gY_n c.gY_c] 24] w14 := S9.trans T12
            clear T12 S9
            refine J.run 4 K4_37 [(9, .int .i64 (atV c x)), (3, .pointer (some ⟨b1, 0, none⟩)), (1, .int .i64 x)] w14 (by kernel_rfl) ?_
            refine J.ok (OK.ldBox S14 1 103 24 0 (.agg #[.slice c.gX_a c.gX_n c.gX_c, .slice c.gY_a c.gY_n c.gY_c]) (by kernel_rfl) rfl (by kernel_rfl)) ?_
            refine J.run 1 K4_38 [(104, .int .i64 (atV c x)), (103, .agg #[.slice c.gX_a c.gX_n c.gX_c, .slice c.gY_a c.gY_n c.gY_c]), (9, .int .i64 (atV c x)), (3, .pointer (some ⟨b1, 0, none⟩)), (1, .int .i64 x)] w14 (by kernel_rfl) ?_
            refine J.callF 105 12 #[.agg #[.slice c.gX_a c.gX_n c.gX_c, .slice c.gY_a c.gY_n c.gY_c], .int .i64 (atV c x)] hb12 (by kernel_rfl) (cinverse_any c (atV c x) _ (crvQ_sep hc S14)) ?_
            rintro _ w15 ⟨rfl, T13⟩
            have S15 : Sep w [box b2 [.slice c.gX_a c.gX_n c.gX_c, .slice c.gY_a c.gY_n c.gY_c] 24, box b1 [.slice c.gX_a c.gX_n c.gX_c, .slice c.gY_a c.gY_n c.gY_c] 24] w15 := S14.trans T13
            clear T13 S14
            refine J.run 11 K4_39 [(110, .bool ((civE c (atV c x)) == 0)), (10, .int .i64 (civX c (atV c x))), (9, .int .i64 (atV c x)), (3, .pointer (some ⟨b1, 0, none⟩)), (1, .int .i64 x)] w15 (by kernel_rfl) ?_
            have fk21 : (civE c (atV c x)) = 0 := (undone hX hY hv fk3 x).1
            refine J.head (.bool true) (congrArg Value.bool (beq_iff_eq.2 fk21)) ?_
            refine J.ok (OK.ldBox S15 1 111 24 0 (.agg #[.slice c.gX_a c.gX_n c.gX_c, .slice c.gY_a c.gY_n c.gY_c]) (by kernel_rfl) rfl (by kernel_rfl)) ?_
            refine J.run 1 K4_40 [(112, .int .i64 (civX c (atV c x))), (111, .agg #[.slice c.gX_a c.gX_n c.gX_c, .slice c.gY_a c.gY_n c.gY_c]), (110, .bool true), (10, .int .i64 (civX c (atV c x))), (9, .int .i64 (atV c x)), (3, .pointer (some ⟨b1, 0, none⟩)), (1, .int .i64 x)] w15 (by kernel_rfl) ?_
            refine J.callF 113 19 #[.agg #[.slice c.gX_a c.gX_n c.gX_c, .slice c.gY_a c.gY_n c.gY_c], .int .i64 (civX c (atV c x))] hb19 (by kernel_rfl) (cAt_any c (civX c (atV c x)) _ (crvQ_sep hc S15)) ?_
            rintro _ w16 ⟨rfl, T14⟩
            have S16 : Sep w [box b2 [.slice c.gX_a c.gX_n c.gX_c, .slice c.gY_a c.gY_n c.gY_c] 24, box b1 [.slice c.gX_a c.gX_n c.gX_c, .slice c.gY_a c.gY_n c.gY_c] 24] w16 := S15.trans T14
            clear T14 S15
            refine J.run 4 K4_41 [(117, .bool ((atV c (civX c (atV c x))) == (atV c x))), (10, .int .i64 (civX c (atV c x))), (3, .pointer (some ⟨b1, 0, none⟩)), (1, .int .i64 x)] w16 (by kernel_rfl) ?_
            have fk23 : (atV c (civX c (atV c x))) = (atV c x) := (undone hX hY hv fk3 x).2.1
            refine J.head (.bool true) (congrArg Value.bool (beq_iff_eq.2 fk23)) ?_
            refine J.run 4 K4_42 [(121, .bool (decide ((civX c (atV c x)) ≤ x))), (117, .bool true), (10, .int .i64 (civX c (atV c x))), (3, .pointer (some ⟨b1, 0, none⟩))] w16 (by kernel_rfl) ?_
            by_cases fk24 : (civX c (atV c x)) ≤ x
            · skip
              refine J.head (.bool true) (congrArg Value.bool (decide_eq_true fk24)) ?_
              refine J.run 10 K4_43 [(6, .bool true)] w16 (by kernel_rfl) ?_
              refine J.ret Tryd.f4 [.bool true] Tryd.func4 ⟨by kernel_rfl, trivial⟩ ?_
              refine hR _ _ ?_
              exact ⟨rfl, S16.nil⟩
            · skip
              refine J.head (.bool false) (congrArg Value.bool (decide_eq_false fk24)) ?_
              refine J.run 2 K4_44 [(123, .pointer (some ⟨b1, 0, none⟩)), (122, .int .i64 (civX c (atV c x))), (121, .bool false), (117, .bool true)] w16 (by kernel_rfl) ?_
              refine J.ok (OK.ldBox S16 1 124 22 0 (.slice c.gX_a c.gX_n c.gX_c) (by kernel_rfl) rfl (by kernel_rfl)) ?_
              refine J.ok (OK.index 125 22 1 c.gX_a p1 c.gX_n 0 0 (p1.add 0) (by kernel_rfl) (by kernel_rfl) hp1 (by omega) (by omega) (by rw [Nat.mul_one])) ?_
              refine J.ok (OK.ldCell 126 3 (p1.add 0) (.int .i64 (c.gX_l.getD 0 0)) (by kernel_rfl) (by kernel_rfl) (S16.cell hc1)) ?_
              refine J.run 5 K4_45 [(6, .bool ((civX c (atV c x)) == (c.gX_l.getD 0 0)))] w16 (by kernel_rfl) ?_
              refine J.ret Tryd.f4 [.bool ((civX c (atV c x)) == (c.gX_l.getD 0 0))] Tryd.func4 ⟨by kernel_rfl, trivial⟩ ?_
              refine hR _ _ ?_
              have fk25 : (civX c (atV c x)) = (c.gX_l.getD 0 0) := by have h_ := (undone hX hY hv fk3 x).2.2; omega
              exact ⟨congrArg Value.bool (beq_iff_eq.2 fk25), S16.nil⟩
        · skip
          refine J.head (.bool true) (congrArg Value.bool (bne_iff_ne.2 fk4)) ?_
          refine J.run 6 K4_46 [(46, .bool ((civE c y) == 2)), (3, .pointer (some ⟨b1, 0, none⟩)), (2, .int .i64 y)] w8 (by kernel_rfl) ?_
          have fk27 : (civE c y) = 2 := (inv_high hX hv fk3 (by omega)).1
          refine J.head (.bool true) (congrArg Value.bool (beq_iff_eq.2 fk27)) ?_
          refine J.run 2 K4_47 [(48, .pointer (some ⟨b1, 1, none⟩)), (47, .int .i64 y), (46, .bool true), (3, .pointer (some ⟨b1, 0, none⟩))] w8 (by kernel_rfl) ?_
          refine J.ok (OK.ldBox S8 1 49 22 1 (.slice c.gY_a c.gY_n c.gY_c) (by kernel_rfl) rfl (by kernel_rfl)) ?_
          refine J.run 1 K4_48 [(50, .pointer (some ⟨b1, 1, none⟩)), (49, .slice c.gY_a c.gY_n c.gY_c), (47, .int .i64 y), (46, .bool true)] w8 (by kernel_rfl) ?_
          refine J.ok (OK.ldBox S8 1 51 22 1 (.slice c.gY_a c.gY_n c.gY_c) (by kernel_rfl) rfl (by kernel_rfl)) ?_
          refine J.run 2 K4_49 [(53, .int .i64 (IntKind.wrap .i64 ((c.gY_n : Int) - 1))), (49, .slice c.gY_a c.gY_n c.gY_c), (47, .int .i64 y), (46, .bool true)] w8 (by kernel_rfl) ?_
          refine J.head (.int .i64 ((c.gY_n : Int) - 1)) (congrArg (Value.int .i64) (IntWalk.i64_in _ (by omega))) ?_
          obtain ⟨p3, hp3, hc3⟩ := q5.at 0 ((c.gY_n : Int) - 1).toNat (by omega)
          have hel3 := getD_Q q6 0 (n := ((c.gY_n : Int) - 1).toNat) (by have := q5.len_eq; omega)
          refine J.ok (OK.index 54 22 1 c.gY_a p3 c.gY_n ((c.gY_n : Int) - 1).toNat ((c.gY_n : Int) - 1) (p3.add ((c.gY_n : Int) - 1).toNat) (by kernel_rfl) (by kernel_rfl) hp3 (by omega) (by omega) (by rw [Nat.mul_one])) ?_
          refine J.ok (OK.ldCell 55 3 (p3.add ((c.gY_n : Int) - 1).toNat) (.int .i64 (c.gY_l.getD ((c.gY_n : Int) - 1).toNat 0)) (by kernel_rfl) (by kernel_rfl) (S8.cell hc3)) ?_
          refine J.run 4 K4_50 [(6, .bool (decide (y > (c.gY_l.getD ((c.gY_n : Int) - 1).toNat 0))))] w8 (by kernel_rfl) ?_
          refine J.ret Tryd.f4 [.bool (decide (y > (c.gY_l.getD ((c.gY_n : Int) - 1).toNat 0)))] Tryd.func4 ⟨by kernel_rfl, trivial⟩ ?_
          refine hR _ _ ?_
          have fk28 : y > (c.gY_l.getD ((c.gY_n : Int) - 1).toNat 0) := (by rw [hyn]; exact (inv_high hX hv fk3 (by omega)).2)
          exact ⟨congrArg Value.bool (decide_eq_true fk28), S8.nil⟩
      · skip
        refine J.head (.bool true) (congrArg Value.bool (bne_iff_ne.2 fk3)) ?_
        refine J.run 6 K4_51 [(38, .bool ((civE c y) == 6)), (7, .int .i64 (civX c y))] w8 (by kernel_rfl) ?_
        have fk30 : (civE c y) = 6 := (inv_no hv fk3 y).1
        refine J.head (.bool true) (congrArg Value.bool (beq_iff_eq.2 fk30)) ?_
        refine J.run 5 K4_52 [(6, .bool ((civX c y) == 0))] w8 (by kernel_rfl) ?_
        refine J.ret Tryd.f4 [.bool ((civX c y) == 0)] Tryd.func4 ⟨by kernel_rfl, trivial⟩ ?_
        refine hR _ _ ?_
        have fk31 : (civX c y) = 0 := (inv_no hv fk3 y).2
        exact ⟨congrArg Value.bool (beq_iff_eq.2 fk31), S8.nil⟩
    · skip
      refine J.head (.bool true) (congrArg Value.bool (by rw [fk2]; rfl)) ?_
      refine J.run 10 K4_53 [(6, .bool true)] w5 (by kernel_rfl) ?_
      refine J.ret Tryd.f4 [.bool true] Tryd.func4 ⟨by kernel_rfl, trivial⟩ ?_
      refine hR _ _ ?_
      exact ⟨rfl, S5.nil⟩

end Go.Proofs.YtdilhoibcbihlaaDoor
