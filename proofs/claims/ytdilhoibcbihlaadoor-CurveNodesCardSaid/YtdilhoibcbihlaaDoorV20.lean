/- Walks of functions of this seat, printed by a program over the engine. Conditions: as each theorem says. -/
import Derived.Test.YtdilhoibcbihlaaDoorV18
namespace Go.Proofs.YtdilhoibcbihlaaDoor
open Go.Eng Go.RowKit
set_option linter.unusedSimpArgs false
set_option linter.unusedVariables false
theorem hb6 : HasBody Tryd.prog 6 := fun _ _ => by kernel_rfl
noncomputable def K6_0 : List Item := adv 2 [] (bodyOf Tryd.f6)
noncomputable def K6_1 : List Item := adv 5 [] (popK K6_0)
noncomputable def K6_2 : List Item := adv 7 [false] (popK K6_1)
noncomputable def K6_3 : List Item := adv 1 [] (popK (popK (popK K6_2)))
noncomputable def K6_4 : List Item := adv 10 [true] K6_3
noncomputable def K6_5 : List Item := adv 3 [] (popK (popK K6_3))
noncomputable def K6_6 : List Item := adv 6 [false] K6_5
noncomputable def K6_7 : List Item := adv 5 [] (popK K6_6)
noncomputable def K6_8 : List Item := adv 5 [] K6_7
noncomputable def K6_9 : List Item := adv 7 [true] K6_8
noncomputable def K6_10 : List Item := adv 4 [] (popK (popK K6_9))
noncomputable def K6_11 : List Item := adv 5 [false] (rRest K6_10)
noncomputable def K6_12 : List Item := adv 5 [false] K6_8
noncomputable def K6_13 : List Item := adv 4 [] (popK K6_12)
noncomputable def K6_14 : List Item := adv 2 [] (rRest K6_13)
noncomputable def K6_15 : List Item := List.drop 1 K6_14
noncomputable def K6_16 : List Item := adv 9 [false] K6_15
noncomputable def K6_17 : List Item := adv 5 [] K6_16
noncomputable def K6_18 : List Item := adv 3 [] K6_17
noncomputable def K6_19 : List Item := adv 5 [true] K6_18
noncomputable def K6_20 : List Item := adv 6 [false] (rRest K6_19)
noncomputable def K6_21 : List Item := adv 6 [false] (rRest K6_19)
noncomputable def K6_22 : List Item := adv 6 [false] (rRest K6_19)
noncomputable def K6_23 : List Item := adv 5 [false] K6_18
noncomputable def K6_24 : List Item := adv 7 [] (popK (popK K6_23))
noncomputable def K6_25 : List Item := adv 7 [true] K6_24
noncomputable def K6_26 : List Item := adv 6 [] K6_25
noncomputable def K6_27 : List Item := adv 3 [] (popK (popK K6_26))
noncomputable def K6_28 : List Item := adv 5 [] K6_25
noncomputable def K6_29 : List Item := adv 1 [] K6_28
noncomputable def K6_30 : List Item := adv 3 [] (popK (popK K6_29))
noncomputable def K6_31 : List Item := adv 6 [false] K6_24
noncomputable def K6_32 : List Item := adv 7 [true] K6_31
noncomputable def K6_33 : List Item := adv 6 [] K6_32
noncomputable def K6_34 : List Item := adv 4 [] (popK (popK K6_33))
noncomputable def K6_35 : List Item := adv 5 [] K6_32
noncomputable def K6_36 : List Item := adv 1 [] K6_35
noncomputable def K6_37 : List Item := adv 4 [] (popK (popK K6_36))
noncomputable def K6_38 : List Item := adv 6 [false] K6_31
noncomputable def K6_39 : List Item := adv 3 [] (popK (popK K6_38))
noncomputable def K6_40 : List Item := adv 3 [] K6_14
noncomputable def K6_41 : List Item := adv 2 [] (popK (popK (popK K6_40)))
noncomputable def K6_42 : List Item := adv 2 [] K6_41
noncomputable def K6_43 : List Item := adv 3 [] (popK (popK (popK K6_42)))
noncomputable def K6_44 : List Item := adv 2 [] K6_43
noncomputable def K6_45 : List Item := adv 2 [] (popK K6_44)
noncomputable def K6_46 : List Item := adv 2 [] (popK (popK K6_45))
noncomputable def K6_47 : List Item := adv 2 [] K6_46
noncomputable def K6_48 : List Item := adv 2 [] (popK K6_47)
noncomputable def K6_49 : List Item := adv 4 [] (popK (popK K6_48))
noncomputable def K6_50 : List Item := adv 10 [] K6_41
noncomputable def K6_51 : List Item := adv 2 [] (popK K6_50)
noncomputable def K6_52 : List Item := adv 2 [] (popK (popK K6_51))
noncomputable def K6_53 : List Item := adv 2 [] K6_52
noncomputable def K6_54 : List Item := adv 2 [] (popK K6_53)
noncomputable def K6_55 : List Item := adv 4 [] (popK (popK K6_54))
noncomputable def K6_56 : List Item := adv 5 [true] K6_5
set_option maxRecDepth 20000 in
set_option maxHeartbeats 20000000 in
theorem lawnodes_any (c : Crv) (x y : Int) (w : World) (hc : crvQ w c) (hW : TabW w) : Ret Tryd.prog 6 #[.agg #[.slice c.gX_a c.gX_n c.gX_c, .slice c.gY_a c.gY_n c.gY_c], .int .i64 x, .int .i64 y] w (fun v w' => v = .bool true ∧ Sep w [] w') := by
  have S0 := Sep.refl w
  refine Ret.named fun R hR => ?_
  refine Ret.of_J (N := 176) [(0, .agg #[.slice c.gX_a c.gX_n c.gX_c, .slice c.gY_a c.gY_n c.gY_c]), (1, .int .i64 x), (2, .int .i64 y)] Tryd.func6 rfl rfl (Nat.le_of_ble_eq_true (by kernel_rfl)) (by kernel_rfl) ?_
  obtain ⟨q1, q2, q3, q4, q5, q6, _⟩ := id hc
  have ql1 := q2.len_eq
  have ql2 := q5.len_eq
  refine J.run 2 K6_0 [(0, .agg #[.slice c.gX_a c.gX_n c.gX_c, .slice c.gY_a c.gY_n c.gY_c]), (1, .int .i64 x), (2, .int .i64 y)] w (by kernel_rfl) ?_
  refine J.new S0 3 [.slice c.gX_a c.gX_n c.gX_c, .slice c.gY_a c.gY_n c.gY_c] 24 (by kernel_rfl) ?_
  intro b1 w1 S1
  refine J.run 5 K6_1 [(3, .pointer (some ⟨b1, 0, none⟩)), (1, .int .i64 x), (2, .int .i64 y)] w1 (by kernel_rfl) ?_
  refine J.callF 13 10 #[] hb10 (by kernel_rfl) (awake_any  _ (tabW_sep hW S1)) ?_
  rintro _ w2 ⟨rfl, T1⟩
  have S2 : Sep w [box b1 [.slice c.gX_a c.gX_n c.gX_c, .slice c.gY_a c.gY_n c.gY_c] 24] w2 := S1.trans T1
  clear T1 S1
  refine J.run 7 K6_2 [(3, .pointer (some ⟨b1, 0, none⟩)), (1, .int .i64 x), (2, .int .i64 y)] w2 (by kernel_rfl) ?_
  refine J.ok (OK.ldBox S2 0 15 24 0 (.agg #[.slice c.gX_a c.gX_n c.gX_c, .slice c.gY_a c.gY_n c.gY_c]) (by kernel_rfl) rfl (by kernel_rfl)) ?_
  refine J.newSlice S2 16 1 [.slice c.gX_a c.gX_n c.gX_c, .slice c.gY_a c.gY_n c.gY_c] 24 (by kernel_rfl) ?_
  intro b2 w3 S3
  refine J.callF 17 11 #[.slice (some ⟨b2, 0, none⟩) 1 1] hb11 (by kernel_rfl) (great_any (some ⟨b2, 0, none⟩) 1 1 ([c]) _ ((show Recs crvE 2 w3 (some ⟨b2, 0, none⟩) 1 ([c] : List Crv) from ⟨rfl, fun _ => rfl, by decide, box_cells (S3.nth 0 rfl)⟩)) (by first | omega | (simp; omega))) ?_
  rintro _ w4 ⟨rfl, T2⟩
  have S4 : Sep w [box b2 [.slice c.gX_a c.gX_n c.gX_c, .slice c.gY_a c.gY_n c.gY_c] 24, box b1 [.slice c.gX_a c.gX_n c.gX_c, .slice c.gY_a c.gY_n c.gY_c] 24] w4 := S3.trans T2
  clear T2 S3
  refine J.head (.bool (greatC c)) (congrArg Value.bool (by simp)) ?_
  refine J.run 1 K6_3 [(18, .bool (greatC c)), (3, .pointer (some ⟨b1, 0, none⟩)), (1, .int .i64 x), (2, .int .i64 y)] w4 (by kernel_rfl) ?_
  rcases Bool.eq_false_or_eq_true (greatC c) with fk1 | fk1
  · skip
    refine J.head (.bool true) (congrArg Value.bool fk1) ?_
    refine J.run 10 K6_4 [(6, .bool true)] w4 (by kernel_rfl) ?_
    refine J.ret Tryd.f6 [.bool true] Tryd.func6 ⟨by kernel_rfl, trivial⟩ ?_
    refine hR _ _ ?_
    exact ⟨rfl, S4.nil⟩
  · skip
    refine J.head (.bool false) (congrArg Value.bool fk1) ?_
    have hgr := great_no fk1
    refine J.ok (OK.ldBox S4 1 19 24 0 (.agg #[.slice c.gX_a c.gX_n c.gX_c, .slice c.gY_a c.gY_n c.gY_c]) (by kernel_rfl) rfl (by kernel_rfl)) ?_
    refine J.callF 20 17 #[.agg #[.slice c.gX_a c.gX_n c.gX_c, .slice c.gY_a c.gY_n c.gY_c]] hb17 (by kernel_rfl) (rcvalid_any c _ (crvQ_sep hc S4)) ?_
    rintro _ w5 ⟨rfl, T3⟩
    have S5 : Sep w [box b2 [.slice c.gX_a c.gX_n c.gX_c, .slice c.gY_a c.gY_n c.gY_c] 24, box b1 [.slice c.gX_a c.gX_n c.gX_c, .slice c.gY_a c.gY_n c.gY_c] 24] w5 := S4.trans T3
    clear T3 S4
    refine J.run 3 K6_5 [(22, .bool (!(validV c))), (3, .pointer (some ⟨b1, 0, none⟩)), (1, .int .i64 x), (2, .int .i64 y)] w5 (by kernel_rfl) ?_
    rcases Bool.eq_false_or_eq_true (validV c) with fk2 | fk2
    · skip
      refine J.head (.bool false) (congrArg Value.bool (by rw [fk2]; rfl)) ?_
      have hv := fk2
      obtain ⟨hv1, hv2, hv3⟩ := validV_facts hv
      obtain ⟨hx1, hx2, hx3⟩ := axis_facts hv2
      have hX : c.gX_l.length = c.gX_n := by omega
      have hY : c.gY_l.length = c.gX_n := by omega
      have hxm := axis_mono hv2 (show 0 < ((c.gX_n : Int) - 1).toNat by omega) (by omega)
      have hx0 := hx2 0 (by omega)
      have hxl := hx2 ((c.gX_n : Int) - 1).toNat (by omega)
      have hdv : dirV c = dirL c.gY_l := by unfold dirV; rw [hv]; rfl
      have hyn : ((c.gY_n : Int) - 1).toNat = ((c.gX_n : Int) - 1).toNat := by omega
      refine J.run 6 K6_6 [(23, .pointer (some ⟨b1, 0, none⟩)), (3, .pointer (some ⟨b1, 0, none⟩)), (1, .int .i64 x), (2, .int .i64 y)] w5 (by kernel_rfl) ?_
      refine J.ok (OK.ldBox S5 1 24 22 0 (.slice c.gX_a c.gX_n c.gX_c) (by kernel_rfl) rfl (by kernel_rfl)) ?_
      refine J.run 5 K6_7 [(26, .int .i64 0), (25, .int .i64 (c.gX_n : Int)), (24, .slice c.gX_a c.gX_n c.gX_c), (3, .pointer (some ⟨b1, 0, none⟩)), (1, .int .i64 x), (2, .int .i64 y)] w5 (by kernel_rfl) ?_
      have L6_1 : ∀ (mm_ : Nat) (i : Int) (w6 : World), (0 ≤ i) → (i ≤ (c.gX_n : Int)) → Sep w [box b2 [.slice c.gX_a c.gX_n c.gX_c, .slice c.gY_a c.gY_n c.gY_c] 24, box b1 [.slice c.gX_a c.gX_n c.gX_c, .slice c.gY_a c.gY_n c.gY_c] 24] w6 → ((c.gX_n : Int) - i).toNat = mm_ → J Tryd.prog 6 176 R K6_7 [(26, .int .i64 i), (25, .int .i64 (c.gX_n : Int)), (24, .slice c.gX_a c.gX_n c.gX_c), (3, .pointer (some ⟨b1, 0, none⟩)), (1, .int .i64 x), (2, .int .i64 y)] w6 := by
        intro mm1
        induction mm1 using Nat.strongRecOn with
        | _ mm1 ih1 =>
        intro i w6 h0 h1 S6 hm1
        refine J.run 5 K6_8 [(27, .bool (decide (i < (c.gX_n : Int)))), (26, .int .i64 i), (25, .int .i64 (c.gX_n : Int)), (24, .slice c.gX_a c.gX_n c.gX_c), (3, .pointer (some ⟨b1, 0, none⟩)), (1, .int .i64 x), (2, .int .i64 y)] w6 (by kernel_rfl) ?_
        by_cases fk3 : i < (c.gX_n : Int)
        · skip
          refine J.head (.bool true) (congrArg Value.bool (decide_eq_true fk3)) ?_
          refine J.run 7 K6_9 [(28, .int .i64 i), (26, .int .i64 i), (25, .int .i64 (c.gX_n : Int)), (24, .slice c.gX_a c.gX_n c.gX_c), (3, .pointer (some ⟨b1, 0, none⟩)), (1, .int .i64 x), (2, .int .i64 y)] w6 (by kernel_rfl) ?_
          obtain ⟨p1, hp1, hc1⟩ := q2.at 0 (i).toNat (by omega)
          have hel1 := getD_Q q3 0 (n := (i).toNat) (by have := q2.len_eq; omega)
          refine J.ok (OK.index 29 22 1 c.gX_a p1 c.gX_n (i).toNat i (p1.add (i).toNat) (by kernel_rfl) (by kernel_rfl) hp1 (by omega) (by omega) (by rw [Nat.mul_one])) ?_
          refine J.ok (OK.ldCell 30 3 (p1.add (i).toNat) (.int .i64 (c.gX_l.getD (i).toNat 0)) (by kernel_rfl) (by kernel_rfl) (S6.cell hc1)) ?_
          refine J.run 4 K6_10 [(8, .int .i64 (c.gX_l.getD (i).toNat 0)), (7, .int .i64 i), (26, .int .i64 i), (25, .int .i64 (c.gX_n : Int)), (24, .slice c.gX_a c.gX_n c.gX_c), (3, .pointer (some ⟨b1, 0, none⟩)), (1, .int .i64 x), (2, .int .i64 y)] w6 (by kernel_rfl) ?_
          obtain ⟨p2, hp2, hc2⟩ := q5.at 0 (i).toNat (by omega)
          have hel2 := getD_Q q6 0 (n := (i).toNat) (by have := q5.len_eq; omega)
          refine J.drawPlan (fun w_ => Sep w [box b2 [.slice c.gX_a c.gX_n c.gX_c, .slice c.gY_a c.gY_n c.gY_c] 24, box b1 [.slice c.gX_a c.gX_n c.gX_c, .slice c.gY_a c.gY_n c.gY_c] 24] w_) [(0, true), (1, true), (3, true), (4, true), (5, true), (6, true), (7, true), (2, false), (8, true)] S6 Tryd.mixed (by kernel_rfl) (planOK_of (T := [(0, some 31, 8), (0, some 32, 256), (3, some 33, 6442450944), (0, some 34, 8), (8, some 35, 17179869184), (0, some 36, 128), (48, some 37, 103079215104), (64, some 38, 137438953472), (132, some 39, 283467841536)]) (by kernel_rfl) (by kernel_rfl)) ?_
          intro w7 S7
          refine PB.mk (S7.sub (.cons_cons _ (.cons_cons _ (.slnil)))) ?_
          refine PL.takeOK 0 (fun w_ S_ => OK.ldBox S_ 1 31 24 0 (.agg #[.slice c.gX_a c.gX_n c.gX_c, .slice c.gY_a c.gY_n c.gY_c]) (by kernel_rfl) rfl (by kernel_rfl)) rfl ?_
          refine PL.take 1 32 (.int .i64 (c.gX_l.getD (i).toNat 0)) (fun _ _ => by kernel_rfl) ?_
          refine PL.take 3 34 (.pointer (some ⟨b1, 1, none⟩)) (fun _ _ => by kernel_rfl) ?_
          refine PL.takeOK 4 (fun w_ S_ => OK.ldBox S_ 1 35 22 1 (.slice c.gY_a c.gY_n c.gY_c) (by kernel_rfl) rfl (by kernel_rfl)) rfl ?_
          refine PL.take 5 36 (.int .i64 i) (fun _ _ => by kernel_rfl) ?_
          refine PL.takeOK 6 (fun w_ S_ => OK.index 37 22 1 c.gY_a p2 c.gY_n (i).toNat i (p2.add (i).toNat) (by kernel_rfl) (by kernel_rfl) hp2 (by omega) (by omega) (by rw [Nat.mul_one])) rfl ?_
          refine PL.takeOK 7 (fun w_ S_ => OK.ldCell 38 3 (p2.add (i).toNat) (.int .i64 (c.gY_l.getD (i).toNat 0)) (by kernel_rfl) (by kernel_rfl) (S_.cell hc2)) rfl ?_
          refine PL.callF 33 19 #[.agg #[.slice c.gX_a c.gX_n c.gX_c, .slice c.gY_a c.gY_n c.gY_c], .int .i64 (c.gX_l.getD (i).toNat 0)] hb19 (by kernel_rfl) (cAt_any c (c.gX_l.getD (i).toNat 0) _ (crvQ_sep hc S7)) ?_
          rintro _ w8 ⟨rfl, T4⟩
          have S8 : Sep w [box b2 [.slice c.gX_a c.gX_n c.gX_c, .slice c.gY_a c.gY_n c.gY_c] 24, box b1 [.slice c.gX_a c.gX_n c.gX_c, .slice c.gY_a c.gY_n c.gY_c] 24] w8 := S7.trans T4
          clear T4 S7
          refine PB.mk (S8.sub (.cons_cons _ (.cons_cons _ (.slnil)))) ?_
          refine PL.take 8 39 (.bool ((atV c (c.gX_l.getD (i).toNat 0)) != (c.gY_l.getD (i).toNat 0))) (fun _ _ => by kernel_rfl) ?_
          refine PL.done ?_
          refine J.run 0 (rRest K6_10) [(39, .bool ((atV c (c.gX_l.getD (i).toNat 0)) != (c.gY_l.getD (i).toNat 0))), (26, .int .i64 i), (25, .int .i64 (c.gX_n : Int)), (24, .slice c.gX_a c.gX_n c.gX_c), (3, .pointer (some ⟨b1, 0, none⟩)), (1, .int .i64 x), (2, .int .i64 y)] w8 (by kernel_rfl) ?_
          have fk5 : (atV c (c.gX_l.getD (i).toNat 0)) = (c.gY_l.getD (i).toNat 0) := by rw [at_good hv]; exact node_at hv (by omega)
          refine J.head (.bool false) (congrArg Value.bool (bne_eq_false_iff_eq.2 fk5)) ?_
          refine J.run 5 K6_11 [(40, .int .i64 (IntKind.wrap .i64 (i + 1))), (25, .int .i64 (c.gX_n : Int)), (24, .slice c.gX_a c.gX_n c.gX_c), (3, .pointer (some ⟨b1, 0, none⟩)), (1, .int .i64 x), (2, .int .i64 y)] w8 (by kernel_rfl) ?_
          refine J.head (.int .i64 (i + 1)) (congrArg (Value.int .i64) (IntWalk.i64_in _ (by omega))) ?_
          refine J.run 3 K6_7 [(26, .int .i64 (i + 1)), (25, .int .i64 (c.gX_n : Int)), (24, .slice c.gX_a c.gX_n c.gX_c), (3, .pointer (some ⟨b1, 0, none⟩)), (1, .int .i64 x), (2, .int .i64 y)] w8 (by kernel_rfl) ?_
          refine J.run 0 K6_7 [(26, .int .i64 (i + 1)), (25, .int .i64 (c.gX_n : Int)), (24, .slice c.gX_a c.gX_n c.gX_c), (3, .pointer (some ⟨b1, 0, none⟩)), (1, .int .i64 x), (2, .int .i64 y)] w8 (by kernel_rfl) ?_
          exact ih1 _ (show ((c.gX_n : Int) - (i + 1)).toNat < mm1 from by omega) (i + 1) w8 (by omega) (by omega) S8 rfl
        · skip
          refine J.head (.bool false) (congrArg Value.bool (decide_eq_false fk3)) ?_
          refine J.run 5 K6_12 [(41, .pointer (some ⟨b1, 0, none⟩)), (3, .pointer (some ⟨b1, 0, none⟩)), (1, .int .i64 x), (2, .int .i64 y)] w6 (by kernel_rfl) ?_
          refine J.ok (OK.ldBox S6 1 42 22 0 (.slice c.gX_a c.gX_n c.gX_c) (by kernel_rfl) rfl (by kernel_rfl)) ?_
          refine J.run 4 K6_13 [(9, .int .i64 (c.gX_n : Int)), (3, .pointer (some ⟨b1, 0, none⟩)), (1, .int .i64 x), (2, .int .i64 y)] w6 (by kernel_rfl) ?_
          refine J.drawPlan (fun w_ => Sep w [box b2 [.slice c.gX_a c.gX_n c.gX_c, .slice c.gY_a c.gY_n c.gY_c] 24, box b1 [.slice c.gX_a c.gX_n c.gX_c, .slice c.gY_a c.gY_n c.gY_c] 24] w_) [(0, true), (1, true), (3, true), (4, true), (2, false), (5, false), (6, true), (7, true)] S6 Tryd.mixed (by kernel_rfl) (planOK_of (T := [(0, some 44, 8), (0, some 45, 2), (3, some 46, 52776558133248), (0, some 47, 8), (0, some 48, 4), (28, some 49, 422212465065984), (39, some 10, 70368744177664), (127, some 11, 562949953421312)]) (by kernel_rfl) (by kernel_rfl)) ?_
          intro w9 S9
          refine PB.mk (S9.sub (.cons_cons _ (.cons_cons _ (.slnil)))) ?_
          refine PL.takeOK 0 (fun w_ S_ => OK.ldBox S_ 1 44 24 0 (.agg #[.slice c.gX_a c.gX_n c.gX_c, .slice c.gY_a c.gY_n c.gY_c]) (by kernel_rfl) rfl (by kernel_rfl)) rfl ?_
          refine PL.take 1 45 (.int .i64 x) (fun _ _ => by kernel_rfl) ?_
          refine PL.takeOK 3 (fun w_ S_ => OK.ldBox S_ 1 47 24 0 (.agg #[.slice c.gX_a c.gX_n c.gX_c, .slice c.gY_a c.gY_n c.gY_c]) (by kernel_rfl) rfl (by kernel_rfl)) rfl ?_
          refine PL.take 4 48 (.int .i64 y) (fun _ _ => by kernel_rfl) ?_
          refine PL.callF 46 19 #[.agg #[.slice c.gX_a c.gX_n c.gX_c, .slice c.gY_a c.gY_n c.gY_c], .int .i64 x] hb19 (by kernel_rfl) (cAt_any c x _ (crvQ_sep hc S9)) ?_
          rintro _ w10 ⟨rfl, T5⟩
          have S10 : Sep w [box b2 [.slice c.gX_a c.gX_n c.gX_c, .slice c.gY_a c.gY_n c.gY_c] 24, box b1 [.slice c.gX_a c.gX_n c.gX_c, .slice c.gY_a c.gY_n c.gY_c] 24] w10 := S9.trans T5
          clear T5 S9
          refine PB.mk (S10.sub (.cons_cons _ (.cons_cons _ (.slnil)))) ?_
          refine PL.callF 49 19 #[.agg #[.slice c.gX_a c.gX_n c.gX_c, .slice c.gY_a c.gY_n c.gY_c], .int .i64 y] hb19 (by kernel_rfl) (cAt_any c y _ (crvQ_sep hc S10)) ?_
          rintro _ w11 ⟨rfl, T6⟩
          have S11 : Sep w [box b2 [.slice c.gX_a c.gX_n c.gX_c, .slice c.gY_a c.gY_n c.gY_c] 24, box b1 [.slice c.gX_a c.gX_n c.gX_c, .slice c.gY_a c.gY_n c.gY_c] 24] w11 := S10.trans T6
          clear T6 S10
          refine PB.mk (S11.sub (.cons_cons _ (.cons_cons _ (.slnil)))) ?_
          refine PL.take 6 10 (.int .i64 (atV c x)) (fun _ _ => by kernel_rfl) ?_
          refine PL.take 7 11 (.int .i64 (atV c y)) (fun _ _ => by kernel_rfl) ?_
          refine PL.done ?_
          refine J.run 0 (rRest K6_13) [(11, .int .i64 (atV c y)), (10, .int .i64 (atV c x)), (9, .int .i64 (c.gX_n : Int)), (3, .pointer (some ⟨b1, 0, none⟩)), (1, .int .i64 x), (2, .int .i64 y)] w11 (by kernel_rfl) ?_
          refine J.run 2 K6_14 [(11, .int .i64 (atV c y)), (10, .int .i64 (atV c x)), (9, .int .i64 (c.gX_n : Int)), (3, .pointer (some ⟨b1, 0, none⟩)), (1, .int .i64 x), (2, .int .i64 y)] w11 (by kernel_rfl) ?_
          have X1 : ∀ (w12 : World), Sep w [box b2 [.slice c.gX_a c.gX_n c.gX_c, .slice c.gY_a c.gY_n c.gY_c] 24, box b1 [.slice c.gX_a c.gX_n c.gX_c, .slice c.gY_a c.gY_n c.gY_c] 24] w12 → J Tryd.prog 6 176 R K6_15 [(11, .int .i64 (atV c y)), (10, .int .i64 (atV c x)), (9, .int .i64 (c.gX_n : Int)), (3, .pointer (some ⟨b1, 0, none⟩)), (1, .int .i64 x), (2, .int .i64 y), (83, .bool false)] w12 := by
            intro w12 S12
            refine J.run 9 K6_16 [(12, .int .i64 0), (11, .int .i64 (atV c y)), (10, .int .i64 (atV c x)), (9, .int .i64 (c.gX_n : Int)), (3, .pointer (some ⟨b1, 0, none⟩)), (1, .int .i64 x), (2, .int .i64 y)] w12 (by kernel_rfl) ?_
            have L6_2 : ∀ (mm_ : Nat) (i : Int) (w13 : World), (0 ≤ i) → (i ≤ (c.gX_n : Int)) → Sep w [box b2 [.slice c.gX_a c.gX_n c.gX_c, .slice c.gY_a c.gY_n c.gY_c] 24, box b1 [.slice c.gX_a c.gX_n c.gX_c, .slice c.gY_a c.gY_n c.gY_c] 24] w13 → ((c.gX_n : Int) - i).toNat = mm_ → J Tryd.prog 6 176 R K6_16 [(12, .int .i64 i), (11, .int .i64 (atV c y)), (10, .int .i64 (atV c x)), (9, .int .i64 (c.gX_n : Int)), (3, .pointer (some ⟨b1, 0, none⟩)), (1, .int .i64 x), (2, .int .i64 y)] w13 := by
              intro mm2
              induction mm2 using Nat.strongRecOn with
              | _ mm2 ih2 =>
              intro i w13 h0 h1 S13 hm2
              refine J.run 5 K6_17 [(85, .int .i64 (IntKind.wrap .i64 (i + 1))), (12, .int .i64 i), (11, .int .i64 (atV c y)), (10, .int .i64 (atV c x)), (9, .int .i64 (c.gX_n : Int)), (3, .pointer (some ⟨b1, 0, none⟩)), (1, .int .i64 x), (2, .int .i64 y)] w13 (by kernel_rfl) ?_
              refine J.head (.int .i64 (i + 1)) (congrArg (Value.int .i64) (IntWalk.i64_in _ (by omega))) ?_
              refine J.run 3 K6_18 [(87, .bool (decide ((i + 1) < (c.gX_n : Int)))), (12, .int .i64 i), (11, .int .i64 (atV c y)), (10, .int .i64 (atV c x)), (9, .int .i64 (c.gX_n : Int)), (3, .pointer (some ⟨b1, 0, none⟩)), (1, .int .i64 x), (2, .int .i64 y)] w13 (by kernel_rfl) ?_
              by_cases fk6 : (i + 1) < (c.gX_n : Int)
              · skip
                refine J.head (.bool true) (congrArg Value.bool (decide_eq_true fk6)) ?_
                refine J.run 5 K6_19 [(12, .int .i64 i), (11, .int .i64 (atV c y)), (10, .int .i64 (atV c x)), (9, .int .i64 (c.gX_n : Int)), (3, .pointer (some ⟨b1, 0, none⟩)), (1, .int .i64 x), (2, .int .i64 y)] w13 (by kernel_rfl) ?_
                by_cases fk7 : x ≥ (c.gX_l.getD (i).toNat 0)
                · skip
                  by_cases fk8 : x ≤ (c.gX_l.getD (i + 1).toNat 0)
                  · skip
                    have fk9 : ¬ ((atV c x) < (min (c.gY_l.getD (i).toNat 0) (c.gY_l.getD (i + 1).toNat 0))) := by have h_ := cell_bounds hX hv (x := x) (i := i) (by omega) (by omega) (by omega) (by omega); omega
                    obtain ⟨p3, hp3, hc3⟩ := q2.at 0 (i).toNat (by omega)
                    have hel3 := getD_Q q3 0 (n := (i).toNat) (by have := q2.len_eq; omega)
                    obtain ⟨p4, hp4, hc4⟩ := q2.at 0 (i + 1).toNat (by omega)
                    have hel4 := getD_Q q3 0 (n := (i + 1).toNat) (by have := q2.len_eq; omega)
                    obtain ⟨p5, hp5, hc5⟩ := q5.at 0 (i).toNat (by omega)
                    have hel5 := getD_Q q6 0 (n := (i).toNat) (by have := q5.len_eq; omega)
                    obtain ⟨p6, hp6, hc6⟩ := q5.at 0 (i + 1).toNat (by omega)
                    have hel6 := getD_Q q6 0 (n := (i + 1).toNat) (by have := q5.len_eq; omega)
                    refine J.drawStill S13 49 Tryd.mixed (by kernel_rfl) (by kernel_rfl) (by kernel_rfl) ?_
                    intro w14 S14
                    refine SL.ok (by decide) (OK.run 90 (.int .i64 x) (by kernel_rfl)) ?_
                    refine SL.ok (by decide) (OK.run 91 (.pointer (some ⟨b1, 0, none⟩)) (by kernel_rfl)) ?_
                    refine SL.ok (by decide) (OK.ldBox S14 1 92 22 0 (.slice c.gX_a c.gX_n c.gX_c) (by kernel_rfl) rfl (by kernel_rfl)) ?_
                    refine SL.ok (by decide) (OK.run 93 (.int .i64 i) (by kernel_rfl)) ?_
                    refine SL.ok (by decide) (OK.index 94 22 1 c.gX_a p3 c.gX_n (i).toNat i (p3.add (i).toNat) (by kernel_rfl) (by kernel_rfl) hp3 (by omega) (by omega) (by rw [Nat.mul_one])) ?_
                    refine SL.ok (by decide) (OK.ldCell 95 3 (p3.add (i).toNat) (.int .i64 (c.gX_l.getD (i).toNat 0)) (by kernel_rfl) (by kernel_rfl) (S14.cell hc3)) ?_
                    refine SL.ok (by decide) (OK.run 96 (.bool (decide (x ≥ (c.gX_l.getD (i).toNat 0)))) (by kernel_rfl)) ?_
                    refine SL.head (.bool true) (congrArg Value.bool (decide_eq_true fk7)) ?_
                    refine SL.ok (by decide) (OK.run 97 (.bool true) (by kernel_rfl)) ?_
                    refine SL.ok (by decide) (OK.run 98 (.int .i64 x) (by kernel_rfl)) ?_
                    refine SL.ok (by decide) (OK.run 99 (.pointer (some ⟨b1, 0, none⟩)) (by kernel_rfl)) ?_
                    refine SL.ok (by decide) (OK.ldBox S14 1 100 22 0 (.slice c.gX_a c.gX_n c.gX_c) (by kernel_rfl) rfl (by kernel_rfl)) ?_
                    refine SL.ok (by decide) (OK.run 101 (.int .i64 i) (by kernel_rfl)) ?_
                    refine SL.ok (by decide) (OK.run 102 (.int .i64 (IntKind.wrap .i64 (i + 1))) (by kernel_rfl)) ?_
                    refine SL.head (.int .i64 (i + 1)) (congrArg (Value.int .i64) (IntWalk.i64_in _ (by omega))) ?_
                    refine SL.ok (by decide) (OK.index 103 22 1 c.gX_a p4 c.gX_n (i + 1).toNat (i + 1) (p4.add (i + 1).toNat) (by kernel_rfl) (by kernel_rfl) hp4 (by omega) (by omega) (by rw [Nat.mul_one])) ?_
                    refine SL.ok (by decide) (OK.ldCell 104 3 (p4.add (i + 1).toNat) (.int .i64 (c.gX_l.getD (i + 1).toNat 0)) (by kernel_rfl) (by kernel_rfl) (S14.cell hc4)) ?_
                    refine SL.ok (by decide) (OK.run 105 (.bool (decide (x ≤ (c.gX_l.getD (i + 1).toNat 0)))) (by kernel_rfl)) ?_
                    refine SL.head (.bool true) (congrArg Value.bool (decide_eq_true fk8)) ?_
                    refine SL.ok (by decide) (OK.run 106 (.bool true) (by kernel_rfl)) ?_
                    refine SL.ok (by decide) (OK.run 107 (.bool true) (by kernel_rfl)) ?_
                    refine SL.ok (by decide) (OK.run 108 (.int .i64 (atV c x)) (by kernel_rfl)) ?_
                    refine SL.ok (by decide) (OK.run 109 (.pointer (some ⟨b1, 1, none⟩)) (by kernel_rfl)) ?_
                    refine SL.ok (by decide) (OK.ldBox S14 1 110 22 1 (.slice c.gY_a c.gY_n c.gY_c) (by kernel_rfl) rfl (by kernel_rfl)) ?_
                    refine SL.ok (by decide) (OK.run 111 (.int .i64 i) (by kernel_rfl)) ?_
                    refine SL.ok (by decide) (OK.index 112 22 1 c.gY_a p5 c.gY_n (i).toNat i (p5.add (i).toNat) (by kernel_rfl) (by kernel_rfl) hp5 (by omega) (by omega) (by rw [Nat.mul_one])) ?_
                    refine SL.ok (by decide) (OK.ldCell 113 3 (p5.add (i).toNat) (.int .i64 (c.gY_l.getD (i).toNat 0)) (by kernel_rfl) (by kernel_rfl) (S14.cell hc5)) ?_
                    refine SL.ok (by decide) (OK.run 114 (.pointer (some ⟨b1, 1, none⟩)) (by kernel_rfl)) ?_
                    refine SL.ok (by decide) (OK.ldBox S14 1 115 22 1 (.slice c.gY_a c.gY_n c.gY_c) (by kernel_rfl) rfl (by kernel_rfl)) ?_
                    refine SL.ok (by decide) (OK.run 116 (.int .i64 i) (by kernel_rfl)) ?_
                    refine SL.ok (by decide) (OK.run 117 (.int .i64 (IntKind.wrap .i64 (i + 1))) (by kernel_rfl)) ?_
                    refine SL.head (.int .i64 (i + 1)) (congrArg (Value.int .i64) (IntWalk.i64_in _ (by omega))) ?_
                    refine SL.ok (by decide) (OK.index 118 22 1 c.gY_a p6 c.gY_n (i + 1).toNat (i + 1) (p6.add (i + 1).toNat) (by kernel_rfl) (by kernel_rfl) hp6 (by omega) (by omega) (by rw [Nat.mul_one])) ?_
                    refine SL.ok (by decide) (OK.ldCell 119 3 (p6.add (i + 1).toNat) (.int .i64 (c.gY_l.getD (i + 1).toNat 0)) (by kernel_rfl) (by kernel_rfl) (S14.cell hc6)) ?_
                    refine SL.ok (by decide) (OK.run 120 (.int .i64 (if (c.gY_l.getD (i + 1).toNat 0) < (c.gY_l.getD (i).toNat 0) then (c.gY_l.getD (i + 1).toNat 0) else (c.gY_l.getD (i).toNat 0))) (by kernel_rfl)) ?_
                    refine SL.head (.int .i64 (min (c.gY_l.getD (i).toNat 0) (c.gY_l.getD (i + 1).toNat 0))) (congrArg (Value.int .i64) (by omega)) ?_
                    refine SL.ok (by decide) (OK.run 121 (.bool (decide ((atV c x) < (min (c.gY_l.getD (i).toNat 0) (c.gY_l.getD (i + 1).toNat 0))))) (by kernel_rfl)) ?_
                    refine SL.head (.bool false) (congrArg Value.bool (decide_eq_false fk9)) ?_
                    refine SL.ok (by decide) (OK.run 122 (.bool false) (by kernel_rfl)) ?_
                    refine SL.ok (by decide) (OK.run 123 (.int .i64 (atV c x)) (by kernel_rfl)) ?_
                    refine SL.ok (by decide) (OK.run 124 (.pointer (some ⟨b1, 1, none⟩)) (by kernel_rfl)) ?_
                    refine SL.ok (by decide) (OK.ldBox S14 1 125 22 1 (.slice c.gY_a c.gY_n c.gY_c) (by kernel_rfl) rfl (by kernel_rfl)) ?_
                    refine SL.ok (by decide) (OK.run 126 (.int .i64 i) (by kernel_rfl)) ?_
                    refine SL.ok (by decide) (OK.index 127 22 1 c.gY_a p5 c.gY_n (i).toNat i (p5.add (i).toNat) (by kernel_rfl) (by kernel_rfl) hp5 (by omega) (by omega) (by rw [Nat.mul_one])) ?_
                    refine SL.ok (by decide) (OK.ldCell 128 3 (p5.add (i).toNat) (.int .i64 (c.gY_l.getD (i).toNat 0)) (by kernel_rfl) (by kernel_rfl) (S14.cell hc5)) ?_
                    refine SL.ok (by decide) (OK.run 129 (.pointer (some ⟨b1, 1, none⟩)) (by kernel_rfl)) ?_
                    refine SL.ok (by decide) (OK.ldBox S14 1 130 22 1 (.slice c.gY_a c.gY_n c.gY_c) (by kernel_rfl) rfl (by kernel_rfl)) ?_
                    refine SL.ok (by decide) (OK.run 131 (.int .i64 i) (by kernel_rfl)) ?_
                    refine SL.ok (by decide) (OK.run 132 (.int .i64 (IntKind.wrap .i64 (i + 1))) (by kernel_rfl)) ?_
                    refine SL.head (.int .i64 (i + 1)) (congrArg (Value.int .i64) (IntWalk.i64_in _ (by omega))) ?_
                    refine SL.ok (by decide) (OK.index 133 22 1 c.gY_a p6 c.gY_n (i + 1).toNat (i + 1) (p6.add (i + 1).toNat) (by kernel_rfl) (by kernel_rfl) hp6 (by omega) (by omega) (by rw [Nat.mul_one])) ?_
                    refine SL.ok (by decide) (OK.ldCell 134 3 (p6.add (i + 1).toNat) (.int .i64 (c.gY_l.getD (i + 1).toNat 0)) (by kernel_rfl) (by kernel_rfl) (S14.cell hc6)) ?_
                    refine SL.ok (by decide) (OK.run 135 (.int .i64 (if (c.gY_l.getD (i + 1).toNat 0) > (c.gY_l.getD (i).toNat 0) then (c.gY_l.getD (i + 1).toNat 0) else (c.gY_l.getD (i).toNat 0))) (by kernel_rfl)) ?_
                    refine SL.head (.int .i64 (max (c.gY_l.getD (i).toNat 0) (c.gY_l.getD (i + 1).toNat 0))) (congrArg (Value.int .i64) (by omega)) ?_
                    refine SL.ok (by decide) (OK.run 136 (.bool (decide ((atV c x) > (max (c.gY_l.getD (i).toNat 0) (c.gY_l.getD (i + 1).toNat 0))))) (by kernel_rfl)) ?_
                    refine SL.ok (by decide) (OK.run 137 (.bool (decide ((atV c x) > (max (c.gY_l.getD (i).toNat 0) (c.gY_l.getD (i + 1).toNat 0))))) (by kernel_rfl)) ?_
                    refine SL.ok (by decide) (OK.run 138 (.bool (decide ((atV c x) > (max (c.gY_l.getD (i).toNat 0) (c.gY_l.getD (i + 1).toNat 0))))) (by kernel_rfl)) ?_
                    refine SL.done ?_
                    refine TL.done (by kernel_rfl) ?_
                    refine J.run 0 (rRest K6_19) [(138, .bool (decide ((atV c x) > (max (c.gY_l.getD (i).toNat 0) (c.gY_l.getD (i + 1).toNat 0))))), (12, .int .i64 i), (11, .int .i64 (atV c y)), (10, .int .i64 (atV c x)), (9, .int .i64 (c.gX_n : Int)), (3, .pointer (some ⟨b1, 0, none⟩)), (1, .int .i64 x), (2, .int .i64 y)] w14 (by kernel_rfl) ?_
                    have fk11 : ¬ ((atV c x) > (max (c.gY_l.getD (i).toNat 0) (c.gY_l.getD (i + 1).toNat 0))) := by have h_ := cell_bounds hX hv (x := x) (i := i) (by omega) (by omega) (by omega) (by omega); omega
                    refine J.head (.bool false) (congrArg Value.bool (decide_eq_false fk11)) ?_
                    refine J.run 6 K6_20 [(89, .int .i64 (IntKind.wrap .i64 (i + 1))), (11, .int .i64 (atV c y)), (10, .int .i64 (atV c x)), (9, .int .i64 (c.gX_n : Int)), (3, .pointer (some ⟨b1, 0, none⟩)), (1, .int .i64 x), (2, .int .i64 y)] w14 (by kernel_rfl) ?_
                    refine J.head (.int .i64 (i + 1)) (congrArg (Value.int .i64) (IntWalk.i64_in _ (by omega))) ?_
                    refine J.run 3 K6_16 [(12, .int .i64 (i + 1)), (11, .int .i64 (atV c y)), (10, .int .i64 (atV c x)), (9, .int .i64 (c.gX_n : Int)), (3, .pointer (some ⟨b1, 0, none⟩)), (1, .int .i64 x), (2, .int .i64 y)] w14 (by kernel_rfl) ?_
                    refine J.run 0 K6_16 [(12, .int .i64 (i + 1)), (11, .int .i64 (atV c y)), (10, .int .i64 (atV c x)), (9, .int .i64 (c.gX_n : Int)), (3, .pointer (some ⟨b1, 0, none⟩)), (1, .int .i64 x), (2, .int .i64 y)] w14 (by kernel_rfl) ?_
                    exact ih2 _ (show ((c.gX_n : Int) - (i + 1)).toNat < mm2 from by omega) (i + 1) w14 (by omega) (by omega) S14 rfl
                  · skip
                    obtain ⟨p7, hp7, hc7⟩ := q2.at 0 (i).toNat (by omega)
                    have hel7 := getD_Q q3 0 (n := (i).toNat) (by have := q2.len_eq; omega)
                    obtain ⟨p8, hp8, hc8⟩ := q2.at 0 (i + 1).toNat (by omega)
                    have hel8 := getD_Q q3 0 (n := (i + 1).toNat) (by have := q2.len_eq; omega)
                    refine J.drawStill S13 49 Tryd.mixed (by kernel_rfl) (by kernel_rfl) (by kernel_rfl) ?_
                    intro w15 S15
                    refine SL.ok (by decide) (OK.run 90 (.int .i64 x) (by kernel_rfl)) ?_
                    refine SL.ok (by decide) (OK.run 91 (.pointer (some ⟨b1, 0, none⟩)) (by kernel_rfl)) ?_
                    refine SL.ok (by decide) (OK.ldBox S15 1 92 22 0 (.slice c.gX_a c.gX_n c.gX_c) (by kernel_rfl) rfl (by kernel_rfl)) ?_
                    refine SL.ok (by decide) (OK.run 93 (.int .i64 i) (by kernel_rfl)) ?_
                    refine SL.ok (by decide) (OK.index 94 22 1 c.gX_a p7 c.gX_n (i).toNat i (p7.add (i).toNat) (by kernel_rfl) (by kernel_rfl) hp7 (by omega) (by omega) (by rw [Nat.mul_one])) ?_
                    refine SL.ok (by decide) (OK.ldCell 95 3 (p7.add (i).toNat) (.int .i64 (c.gX_l.getD (i).toNat 0)) (by kernel_rfl) (by kernel_rfl) (S15.cell hc7)) ?_
                    refine SL.ok (by decide) (OK.run 96 (.bool (decide (x ≥ (c.gX_l.getD (i).toNat 0)))) (by kernel_rfl)) ?_
                    refine SL.head (.bool true) (congrArg Value.bool (decide_eq_true fk7)) ?_
                    refine SL.ok (by decide) (OK.run 97 (.bool true) (by kernel_rfl)) ?_
                    refine SL.ok (by decide) (OK.run 98 (.int .i64 x) (by kernel_rfl)) ?_
                    refine SL.ok (by decide) (OK.run 99 (.pointer (some ⟨b1, 0, none⟩)) (by kernel_rfl)) ?_
                    refine SL.ok (by decide) (OK.ldBox S15 1 100 22 0 (.slice c.gX_a c.gX_n c.gX_c) (by kernel_rfl) rfl (by kernel_rfl)) ?_
                    refine SL.ok (by decide) (OK.run 101 (.int .i64 i) (by kernel_rfl)) ?_
                    refine SL.ok (by decide) (OK.run 102 (.int .i64 (IntKind.wrap .i64 (i + 1))) (by kernel_rfl)) ?_
                    refine SL.head (.int .i64 (i + 1)) (congrArg (Value.int .i64) (IntWalk.i64_in _ (by omega))) ?_
                    refine SL.ok (by decide) (OK.index 103 22 1 c.gX_a p8 c.gX_n (i + 1).toNat (i + 1) (p8.add (i + 1).toNat) (by kernel_rfl) (by kernel_rfl) hp8 (by omega) (by omega) (by rw [Nat.mul_one])) ?_
                    refine SL.ok (by decide) (OK.ldCell 104 3 (p8.add (i + 1).toNat) (.int .i64 (c.gX_l.getD (i + 1).toNat 0)) (by kernel_rfl) (by kernel_rfl) (S15.cell hc8)) ?_
                    refine SL.ok (by decide) (OK.run 105 (.bool (decide (x ≤ (c.gX_l.getD (i + 1).toNat 0)))) (by kernel_rfl)) ?_
                    refine SL.head (.bool false) (congrArg Value.bool (decide_eq_false fk8)) ?_
                    refine SL.ok (by decide) (OK.run 106 (.bool false) (by kernel_rfl)) ?_
                    refine SL.ok (by decide) (OK.run 107 (.bool false) (by kernel_rfl)) ?_
                    refine SL.pass (d := some 108) (by decide) (by kernel_rfl) ?_
                    refine SL.pass (d := some 109) (by decide) (by kernel_rfl) ?_
                    refine SL.pass (d := some 110) (by decide) (by kernel_rfl) ?_
                    refine SL.pass (d := some 111) (by decide) (by kernel_rfl) ?_
                    refine SL.pass (d := some 112) (by decide) (by kernel_rfl) ?_
                    refine SL.pass (d := some 113) (by decide) (by kernel_rfl) ?_
                    refine SL.pass (d := some 114) (by decide) (by kernel_rfl) ?_
                    refine SL.pass (d := some 115) (by decide) (by kernel_rfl) ?_
                    refine SL.pass (d := some 116) (by decide) (by kernel_rfl) ?_
                    refine SL.pass (d := some 117) (by decide) (by kernel_rfl) ?_
                    refine SL.pass (d := some 118) (by decide) (by kernel_rfl) ?_
                    refine SL.pass (d := some 119) (by decide) (by kernel_rfl) ?_
                    refine SL.pass (d := some 120) (by decide) (by kernel_rfl) ?_
                    refine SL.pass (d := some 121) (by decide) (by kernel_rfl) ?_
                    refine SL.pass (d := some 122) (by decide) (by kernel_rfl) ?_
                    refine SL.pass (d := some 123) (by decide) (by kernel_rfl) ?_
                    refine SL.pass (d := some 124) (by decide) (by kernel_rfl) ?_
                    refine SL.pass (d := some 125) (by decide) (by kernel_rfl) ?_
                    refine SL.pass (d := some 126) (by decide) (by kernel_rfl) ?_
                    refine SL.pass (d := some 127) (by decide) (by kernel_rfl) ?_
                    refine SL.pass (d := some 128) (by decide) (by kernel_rfl) ?_
                    refine SL.pass (d := some 129) (by decide) (by kernel_rfl) ?_
                    refine SL.pass (d := some 130) (by decide) (by kernel_rfl) ?_
                    refine SL.pass (d := some 131) (by decide) (by kernel_rfl) ?_
                    refine SL.pass (d := some 132) (by decide) (by kernel_rfl) ?_
                    refine SL.pass (d := some 133) (by decide) (by kernel_rfl) ?_
                    refine SL.pass (d := some 134) (by decide) (by kernel_rfl) ?_
                    refine SL.pass (d := some 135) (by decide) (by kernel_rfl) ?_
                    refine SL.pass (d := some 136) (by decide) (by kernel_rfl) ?_
                    refine SL.pass (d := some 137) (by decide) (by kernel_rfl) ?_
                    refine SL.ok (by decide) (OK.run 138 (.bool false) (by kernel_rfl)) ?_
                    refine SL.done ?_
                    refine TL.done (by kernel_rfl) ?_
                    refine J.run 0 (rRest K6_19) [(138, .bool false), (12, .int .i64 i), (11, .int .i64 (atV c y)), (10, .int .i64 (atV c x)), (9, .int .i64 (c.gX_n : Int)), (3, .pointer (some ⟨b1, 0, none⟩)), (1, .int .i64 x), (2, .int .i64 y)] w15 (by kernel_rfl) ?_
                    refine J.run 6 K6_21 [(89, .int .i64 (IntKind.wrap .i64 (i + 1))), (11, .int .i64 (atV c y)), (10, .int .i64 (atV c x)), (9, .int .i64 (c.gX_n : Int)), (3, .pointer (some ⟨b1, 0, none⟩)), (1, .int .i64 x), (2, .int .i64 y)] w15 (by kernel_rfl) ?_
                    refine J.head (.int .i64 (i + 1)) (congrArg (Value.int .i64) (IntWalk.i64_in _ (by omega))) ?_
                    refine J.run 3 K6_16 [(12, .int .i64 (i + 1)), (11, .int .i64 (atV c y)), (10, .int .i64 (atV c x)), (9, .int .i64 (c.gX_n : Int)), (3, .pointer (some ⟨b1, 0, none⟩)), (1, .int .i64 x), (2, .int .i64 y)] w15 (by kernel_rfl) ?_
                    refine J.run 0 K6_16 [(12, .int .i64 (i + 1)), (11, .int .i64 (atV c y)), (10, .int .i64 (atV c x)), (9, .int .i64 (c.gX_n : Int)), (3, .pointer (some ⟨b1, 0, none⟩)), (1, .int .i64 x), (2, .int .i64 y)] w15 (by kernel_rfl) ?_
                    exact ih2 _ (show ((c.gX_n : Int) - (i + 1)).toNat < mm2 from by omega) (i + 1) w15 (by omega) (by omega) S15 rfl
                · skip
                  obtain ⟨p9, hp9, hc9⟩ := q2.at 0 (i).toNat (by omega)
                  have hel9 := getD_Q q3 0 (n := (i).toNat) (by have := q2.len_eq; omega)
                  refine J.drawStill S13 49 Tryd.mixed (by kernel_rfl) (by kernel_rfl) (by kernel_rfl) ?_
                  intro w16 S16
                  refine SL.ok (by decide) (OK.run 90 (.int .i64 x) (by kernel_rfl)) ?_
                  refine SL.ok (by decide) (OK.run 91 (.pointer (some ⟨b1, 0, none⟩)) (by kernel_rfl)) ?_
                  refine SL.ok (by decide) (OK.ldBox S16 1 92 22 0 (.slice c.gX_a c.gX_n c.gX_c) (by kernel_rfl) rfl (by kernel_rfl)) ?_
                  refine SL.ok (by decide) (OK.run 93 (.int .i64 i) (by kernel_rfl)) ?_
                  refine SL.ok (by decide) (OK.index 94 22 1 c.gX_a p9 c.gX_n (i).toNat i (p9.add (i).toNat) (by kernel_rfl) (by kernel_rfl) hp9 (by omega) (by omega) (by rw [Nat.mul_one])) ?_
                  refine SL.ok (by decide) (OK.ldCell 95 3 (p9.add (i).toNat) (.int .i64 (c.gX_l.getD (i).toNat 0)) (by kernel_rfl) (by kernel_rfl) (S16.cell hc9)) ?_
                  refine SL.ok (by decide) (OK.run 96 (.bool (decide (x ≥ (c.gX_l.getD (i).toNat 0)))) (by kernel_rfl)) ?_
                  refine SL.head (.bool false) (congrArg Value.bool (decide_eq_false fk7)) ?_
                  refine SL.ok (by decide) (OK.run 97 (.bool false) (by kernel_rfl)) ?_
                  refine SL.pass (d := some 98) (by decide) (by kernel_rfl) ?_
                  refine SL.pass (d := some 99) (by decide) (by kernel_rfl) ?_
                  refine SL.pass (d := some 100) (by decide) (by kernel_rfl) ?_
                  refine SL.pass (d := some 101) (by decide) (by kernel_rfl) ?_
                  refine SL.pass (d := some 102) (by decide) (by kernel_rfl) ?_
                  refine SL.pass (d := some 103) (by decide) (by kernel_rfl) ?_
                  refine SL.pass (d := some 104) (by decide) (by kernel_rfl) ?_
                  refine SL.pass (d := some 105) (by decide) (by kernel_rfl) ?_
                  refine SL.ok (by decide) (OK.run 106 (.bool false) (by kernel_rfl)) ?_
                  refine SL.ok (by decide) (OK.run 107 (.bool false) (by kernel_rfl)) ?_
                  refine SL.pass (d := some 108) (by decide) (by kernel_rfl) ?_
                  refine SL.pass (d := some 109) (by decide) (by kernel_rfl) ?_
                  refine SL.pass (d := some 110) (by decide) (by kernel_rfl) ?_
                  refine SL.pass (d := some 111) (by decide) (by kernel_rfl) ?_
                  refine SL.pass (d := some 112) (by decide) (by kernel_rfl) ?_
                  refine SL.pass (d := some 113) (by decide) (by kernel_rfl) ?_
                  refine SL.pass (d := some 114) (by decide) (by kernel_rfl) ?_
                  refine SL.pass (d := some 115) (by decide) (by kernel_rfl) ?_
                  refine SL.pass (d := some 116) (by decide) (by kernel_rfl) ?_
                  refine SL.pass (d := some 117) (by decide) (by kernel_rfl) ?_
                  refine SL.pass (d := some 118) (by decide) (by kernel_rfl) ?_
                  refine SL.pass (d := some 119) (by decide) (by kernel_rfl) ?_
                  refine SL.pass (d := some 120) (by decide) (by kernel_rfl) ?_
                  refine SL.pass (d := some 121) (by decide) (by kernel_rfl) ?_
                  refine SL.pass (d := some 122) (by decide) (by kernel_rfl) ?_
                  refine SL.pass (d := some 123) (by decide) (by kernel_rfl) ?_
                  refine SL.pass (d := some 124) (by decide) (by kernel_rfl) ?_
                  refine SL.pass (d := some 125) (by decide) (by kernel_rfl) ?_
                  refine SL.pass (d := some 126) (by decide) (by kernel_rfl) ?_
                  refine SL.pass (d := some 127) (by decide) (by kernel_rfl) ?_
                  refine SL.pass (d := some 128) (by decide) (by kernel_rfl) ?_
                  refine SL.pass (d := some 129) (by decide) (by kernel_rfl) ?_
                  refine SL.pass (d := some 130) (by decide) (by kernel_rfl) ?_
                  refine SL.pass (d := some 131) (by decide) (by kernel_rfl) ?_
                  refine SL.pass (d := some 132) (by decide) (by kernel_rfl) ?_
                  refine SL.pass (d := some 133) (by decide) (by kernel_rfl) ?_
                  refine SL.pass (d := some 134) (by decide) (by kernel_rfl) ?_
                  refine SL.pass (d := some 135) (by decide) (by kernel_rfl) ?_
                  refine SL.pass (d := some 136) (by decide) (by kernel_rfl) ?_
                  refine SL.pass (d := some 137) (by decide) (by kernel_rfl) ?_
                  refine SL.ok (by decide) (OK.run 138 (.bool false) (by kernel_rfl)) ?_
                  refine SL.done ?_
                  refine TL.done (by kernel_rfl) ?_
                  refine J.run 0 (rRest K6_19) [(138, .bool false), (12, .int .i64 i), (11, .int .i64 (atV c y)), (10, .int .i64 (atV c x)), (9, .int .i64 (c.gX_n : Int)), (3, .pointer (some ⟨b1, 0, none⟩)), (1, .int .i64 x), (2, .int .i64 y)] w16 (by kernel_rfl) ?_
                  refine J.run 6 K6_22 [(89, .int .i64 (IntKind.wrap .i64 (i + 1))), (11, .int .i64 (atV c y)), (10, .int .i64 (atV c x)), (9, .int .i64 (c.gX_n : Int)), (3, .pointer (some ⟨b1, 0, none⟩)), (1, .int .i64 x), (2, .int .i64 y)] w16 (by kernel_rfl) ?_
                  refine J.head (.int .i64 (i + 1)) (congrArg (Value.int .i64) (IntWalk.i64_in _ (by omega))) ?_
                  refine J.run 3 K6_16 [(12, .int .i64 (i + 1)), (11, .int .i64 (atV c y)), (10, .int .i64 (atV c x)), (9, .int .i64 (c.gX_n : Int)), (3, .pointer (some ⟨b1, 0, none⟩)), (1, .int .i64 x), (2, .int .i64 y)] w16 (by kernel_rfl) ?_
                  refine J.run 0 K6_16 [(12, .int .i64 (i + 1)), (11, .int .i64 (atV c y)), (10, .int .i64 (atV c x)), (9, .int .i64 (c.gX_n : Int)), (3, .pointer (some ⟨b1, 0, none⟩)), (1, .int .i64 x), (2, .int .i64 y)] w16 (by kernel_rfl) ?_
                  exact ih2 _ (show ((c.gX_n : Int) - (i + 1)).toNat < mm2 from by omega) (i + 1) w16 (by omega) (by omega) S16 rfl
              · skip
                refine J.head (.bool false) (congrArg Value.bool (decide_eq_false fk6)) ?_
                refine J.run 5 K6_23 [(11, .int .i64 (atV c y)), (10, .int .i64 (atV c x)), (3, .pointer (some ⟨b1, 0, none⟩)), (1, .int .i64 x), (2, .int .i64 y)] w13 (by kernel_rfl) ?_
                refine J.ok (OK.ldBox S13 1 139 24 0 (.agg #[.slice c.gX_a c.gX_n c.gX_c, .slice c.gY_a c.gY_n c.gY_c]) (by kernel_rfl) rfl (by kernel_rfl)) ?_
                refine J.callF 140 18 #[.agg #[.slice c.gX_a c.gX_n c.gX_c, .slice c.gY_a c.gY_n c.gY_c]] hb18 (by kernel_rfl) (cdir_any c _ (crvQ_sep hc S13)) ?_
                rintro _ w17 ⟨rfl, T7⟩
                have S17 : Sep w [box b2 [.slice c.gX_a c.gX_n c.gX_c, .slice c.gY_a c.gY_n c.gY_c] 24, box b1 [.slice c.gX_a c.gX_n c.gX_c, .slice c.gY_a c.gY_n c.gY_c] 24] w17 := S13.trans T7
                clear T7 S13
                refine J.run 7 K6_24 [(141, .bool ((dirV c) == 1)), (140, .int .i64 (dirV c)), (11, .int .i64 (atV c y)), (10, .int .i64 (atV c x)), (3, .pointer (some ⟨b1, 0, none⟩)), (1, .int .i64 x), (2, .int .i64 y)] w17 (by kernel_rfl) ?_
                by_cases fk12 : (dirV c) = 1
                · skip
                  refine J.head (.bool true) (congrArg Value.bool (beq_iff_eq.2 fk12)) ?_
                  refine J.run 7 K6_25 [(146, .bool (decide (x > y))), (11, .int .i64 (atV c y)), (10, .int .i64 (atV c x)), (3, .pointer (some ⟨b1, 0, none⟩))] w17 (by kernel_rfl) ?_
                  by_cases fk13 : x > y
                  · skip
                    refine J.head (.bool true) (congrArg Value.bool (decide_eq_true fk13)) ?_
                    refine J.run 6 K6_26 [(152, .pointer (some ⟨b1, 1, none⟩)), (151, .bool true)] w17 (by kernel_rfl) ?_
                    refine J.ok (OK.ldBox S17 1 153 22 1 (.slice c.gY_a c.gY_n c.gY_c) (by kernel_rfl) rfl (by kernel_rfl)) ?_
                    refine J.callF 154 20 #[.slice c.gY_a c.gY_n c.gY_c] hb20 (by kernel_rfl) (sorted_any c.gY_a c.gY_n c.gY_c c.gY_l _ (q5.sep S17) (by first | omega | (simp; omega))) ?_
                    rintro _ w18 ⟨rfl, T8⟩
                    have S18 : Sep w [box b2 [.slice c.gX_a c.gX_n c.gX_c, .slice c.gY_a c.gY_n c.gY_c] 24, box b1 [.slice c.gX_a c.gX_n c.gX_c, .slice c.gY_a c.gY_n c.gY_c] 24] w18 := S17.trans T8
                    clear T8 S17
                    refine J.run 3 K6_27 [(6, .bool (upT c.gY_l ((c.gY_l.length : Int) - 1)))] w18 (by kernel_rfl) ?_
                    refine J.ret Tryd.f6 [.bool (upT c.gY_l ((c.gY_l.length : Int) - 1))] Tryd.func6 ⟨by kernel_rfl, trivial⟩ ?_
                    refine hR _ _ ?_
                    have fk14 : (upT c.gY_l ((c.gY_l.length : Int) - 1)) = true := dir_one.1 ((dir_good hv).symm.trans fk12)
                    exact ⟨congrArg Value.bool fk14, S18.nil⟩
                  · skip
                    refine J.head (.bool false) (congrArg Value.bool (decide_eq_false fk13)) ?_
                    refine J.run 5 K6_28 [(151, .bool (decide ((atV c x) ≤ (atV c y)))), (3, .pointer (some ⟨b1, 0, none⟩))] w17 (by kernel_rfl) ?_
                    have fk16 : (atV c x) ≤ (atV c y) := at_mono hX hY hv fk12 (by omega)
                    refine J.head (.bool true) (congrArg Value.bool (decide_eq_true fk16)) ?_
                    refine J.run 1 K6_29 [(152, .pointer (some ⟨b1, 1, none⟩)), (151, .bool true)] w17 (by kernel_rfl) ?_
                    refine J.ok (OK.ldBox S17 1 153 22 1 (.slice c.gY_a c.gY_n c.gY_c) (by kernel_rfl) rfl (by kernel_rfl)) ?_
                    refine J.callF 154 20 #[.slice c.gY_a c.gY_n c.gY_c] hb20 (by kernel_rfl) (sorted_any c.gY_a c.gY_n c.gY_c c.gY_l _ (q5.sep S17) (by first | omega | (simp; omega))) ?_
                    rintro _ w19 ⟨rfl, T9⟩
                    have S19 : Sep w [box b2 [.slice c.gX_a c.gX_n c.gX_c, .slice c.gY_a c.gY_n c.gY_c] 24, box b1 [.slice c.gX_a c.gX_n c.gX_c, .slice c.gY_a c.gY_n c.gY_c] 24] w19 := S17.trans T9
                    clear T9 S17
                    refine J.run 3 K6_30 [(6, .bool (upT c.gY_l ((c.gY_l.length : Int) - 1)))] w19 (by kernel_rfl) ?_
                    refine J.ret Tryd.f6 [.bool (upT c.gY_l ((c.gY_l.length : Int) - 1))] Tryd.func6 ⟨by kernel_rfl, trivial⟩ ?_
                    refine hR _ _ ?_
                    have fk17 : (upT c.gY_l ((c.gY_l.length : Int) - 1)) = true := dir_one.1 ((dir_good hv).symm.trans fk12)
                    exact ⟨congrArg Value.bool fk17, S19.nil⟩
                · skip
                  refine J.head (.bool false) (congrArg Value.bool (beq_eq_false_iff_ne.2 fk12)) ?_
                  refine J.run 6 K6_31 [(156, .bool ((dirV c) == (-1))), (11, .int .i64 (atV c y)), (10, .int .i64 (atV c x)), (3, .pointer (some ⟨b1, 0, none⟩)), (1, .int .i64 x), (2, .int .i64 y)] w17 (by kernel_rfl) ?_
                  by_cases fk18 : (dirV c) = (-1)
                  · skip
                    refine J.head (.bool true) (congrArg Value.bool (beq_iff_eq.2 fk18)) ?_
                    refine J.run 7 K6_32 [(161, .bool (decide (x > y))), (11, .int .i64 (atV c y)), (10, .int .i64 (atV c x)), (3, .pointer (some ⟨b1, 0, none⟩))] w17 (by kernel_rfl) ?_
                    by_cases fk19 : x > y
                    · skip
                      refine J.head (.bool true) (congrArg Value.bool (decide_eq_true fk19)) ?_
                      refine J.run 6 K6_33 [(167, .pointer (some ⟨b1, 1, none⟩)), (166, .bool true)] w17 (by kernel_rfl) ?_
                      refine J.ok (OK.ldBox S17 1 168 22 1 (.slice c.gY_a c.gY_n c.gY_c) (by kernel_rfl) rfl (by kernel_rfl)) ?_
                      refine J.callF 169 20 #[.slice c.gY_a c.gY_n c.gY_c] hb20 (by kernel_rfl) (sorted_any c.gY_a c.gY_n c.gY_c c.gY_l _ (q5.sep S17) (by first | omega | (simp; omega))) ?_
                      rintro _ w20 ⟨rfl, T10⟩
                      have S20 : Sep w [box b2 [.slice c.gX_a c.gX_n c.gX_c, .slice c.gY_a c.gY_n c.gY_c] 24, box b1 [.slice c.gX_a c.gX_n c.gX_c, .slice c.gY_a c.gY_n c.gY_c] 24] w20 := S17.trans T10
                      clear T10 S17
                      refine J.run 4 K6_34 [(6, .bool (!(upT c.gY_l ((c.gY_l.length : Int) - 1))))] w20 (by kernel_rfl) ?_
                      refine J.ret Tryd.f6 [.bool (!(upT c.gY_l ((c.gY_l.length : Int) - 1)))] Tryd.func6 ⟨by kernel_rfl, trivial⟩ ?_
                      refine hR _ _ ?_
                      have fk20 : (upT c.gY_l ((c.gY_l.length : Int) - 1)) = false := up_no (fun h_ => fk12 ((dir_good hv).trans h_))
                      exact ⟨congrArg Value.bool (by simp [fk20]), S20.nil⟩
                    · skip
                      refine J.head (.bool false) (congrArg Value.bool (decide_eq_false fk19)) ?_
                      refine J.run 5 K6_35 [(166, .bool (decide ((atV c x) ≥ (atV c y)))), (3, .pointer (some ⟨b1, 0, none⟩))] w17 (by kernel_rfl) ?_
                      have fk22 : (atV c x) ≥ (atV c y) := at_anti hX hY hv fk18 (by omega)
                      refine J.head (.bool true) (congrArg Value.bool (decide_eq_true fk22)) ?_
                      refine J.run 1 K6_36 [(167, .pointer (some ⟨b1, 1, none⟩)), (166, .bool true)] w17 (by kernel_rfl) ?_
                      refine J.ok (OK.ldBox S17 1 168 22 1 (.slice c.gY_a c.gY_n c.gY_c) (by kernel_rfl) rfl (by kernel_rfl)) ?_
                      refine J.callF 169 20 #[.slice c.gY_a c.gY_n c.gY_c] hb20 (by kernel_rfl) (sorted_any c.gY_a c.gY_n c.gY_c c.gY_l _ (q5.sep S17) (by first | omega | (simp; omega))) ?_
                      rintro _ w21 ⟨rfl, T11⟩
                      have S21 : Sep w [box b2 [.slice c.gX_a c.gX_n c.gX_c, .slice c.gY_a c.gY_n c.gY_c] 24, box b1 [.slice c.gX_a c.gX_n c.gX_c, .slice c.gY_a c.gY_n c.gY_c] 24] w21 := S17.trans T11
                      clear T11 S17
                      refine J.run 4 K6_37 [(6, .bool (!(upT c.gY_l ((c.gY_l.length : Int) - 1))))] w21 (by kernel_rfl) ?_
                      refine J.ret Tryd.f6 [.bool (!(upT c.gY_l ((c.gY_l.length : Int) - 1)))] Tryd.func6 ⟨by kernel_rfl, trivial⟩ ?_
                      refine hR _ _ ?_
                      have fk23 : (upT c.gY_l ((c.gY_l.length : Int) - 1)) = false := up_no (fun h_ => fk12 ((dir_good hv).trans h_))
                      exact ⟨congrArg Value.bool (by simp [fk23]), S21.nil⟩
                  · skip
                    refine J.head (.bool false) (congrArg Value.bool (beq_eq_false_iff_ne.2 fk18)) ?_
                    refine J.run 6 K6_38 [(172, .pointer (some ⟨b1, 1, none⟩))] w17 (by kernel_rfl) ?_
                    refine J.ok (OK.ldBox S17 1 173 22 1 (.slice c.gY_a c.gY_n c.gY_c) (by kernel_rfl) rfl (by kernel_rfl)) ?_
                    refine J.callF 174 20 #[.slice c.gY_a c.gY_n c.gY_c] hb20 (by kernel_rfl) (sorted_any c.gY_a c.gY_n c.gY_c c.gY_l _ (q5.sep S17) (by first | omega | (simp; omega))) ?_
                    rintro _ w22 ⟨rfl, T12⟩
                    have S22 : Sep w [box b2 [.slice c.gX_a c.gX_n c.gX_c, .slice c.gY_a c.gY_n c.gY_c] 24, box b1 [.slice c.gX_a c.gX_n c.gX_c, .slice c.gY_a c.gY_n c.gY_c] 24] w22 := S17.trans T12
                    clear T12 S17
                    refine J.run 3 K6_39 [(6, .bool (!(upT c.gY_l ((c.gY_l.length : Int) - 1))))] w22 (by kernel_rfl) ?_
                    refine J.ret Tryd.f6 [.bool (!(upT c.gY_l ((c.gY_l.length : Int) - 1)))] Tryd.func6 ⟨by kernel_rfl, trivial⟩ ?_
                    refine hR _ _ ?_
                    have fk24 : (upT c.gY_l ((c.gY_l.length : Int) - 1)) = false := up_no (fun h_ => fk12 ((dir_good hv).trans h_))
                    exact ⟨congrArg Value.bool (by simp [fk24]), S22.nil⟩
            exact L6_2 _ 0 w12 (by omega) (by omega) S12 rfl
          refine J.run 3 K6_40 [(51, .pointer (some ⟨b1, 0, none⟩)), (50, .int .i64 x), (11, .int .i64 (atV c y)), (10, .int .i64 (atV c x)), (9, .int .i64 (c.gX_n : Int)), (3, .pointer (some ⟨b1, 0, none⟩)), (1, .int .i64 x), (2, .int .i64 y)] w11 (by kernel_rfl) ?_
          refine J.ok (OK.ldBox S11 1 52 22 0 (.slice c.gX_a c.gX_n c.gX_c) (by kernel_rfl) rfl (by kernel_rfl)) ?_
          obtain ⟨p10, hp10, hc10⟩ := q2.at 0 0 (by omega)
          have hel10 := getD_Q q3 0 (n := 0) (by have := q2.len_eq; omega)
          refine J.ok (OK.index 53 22 1 c.gX_a p10 c.gX_n 0 0 (p10.add 0) (by kernel_rfl) (by kernel_rfl) hp10 (by omega) (by omega) (by rw [Nat.mul_one])) ?_
          refine J.ok (OK.ldCell 54 3 (p10.add 0) (.int .i64 (c.gX_l.getD 0 0)) (by kernel_rfl) (by kernel_rfl) (S11.cell hc10)) ?_
          refine J.run 2 K6_41 [(56, .bool (decide (x ≤ (c.gX_l.getD 0 0)))), (11, .int .i64 (atV c y)), (10, .int .i64 (atV c x)), (9, .int .i64 (c.gX_n : Int)), (3, .pointer (some ⟨b1, 0, none⟩)), (1, .int .i64 x), (2, .int .i64 y)] w11 (by kernel_rfl) ?_
          by_cases fk25 : x ≤ (c.gX_l.getD 0 0)
          · skip
            refine J.head (.bool true) (congrArg Value.bool (decide_eq_true fk25)) ?_
            refine J.run 2 K6_42 [(58, .pointer (some ⟨b1, 1, none⟩)), (57, .int .i64 (atV c x)), (56, .bool true), (11, .int .i64 (atV c y)), (10, .int .i64 (atV c x)), (9, .int .i64 (c.gX_n : Int)), (3, .pointer (some ⟨b1, 0, none⟩)), (1, .int .i64 x), (2, .int .i64 y)] w11 (by kernel_rfl) ?_
            refine J.ok (OK.ldBox S11 1 59 22 1 (.slice c.gY_a c.gY_n c.gY_c) (by kernel_rfl) rfl (by kernel_rfl)) ?_
            obtain ⟨p11, hp11, hc11⟩ := q5.at 0 0 (by omega)
            have hel11 := getD_Q q6 0 (n := 0) (by have := q5.len_eq; omega)
            refine J.ok (OK.index 60 22 1 c.gY_a p11 c.gY_n 0 0 (p11.add 0) (by kernel_rfl) (by kernel_rfl) hp11 (by omega) (by omega) (by rw [Nat.mul_one])) ?_
            refine J.ok (OK.ldCell 61 3 (p11.add 0) (.int .i64 (c.gY_l.getD 0 0)) (by kernel_rfl) (by kernel_rfl) (S11.cell hc11)) ?_
            refine J.run 3 K6_43 [(64, .bool ((atV c x) != (c.gY_l.getD 0 0))), (11, .int .i64 (atV c y)), (10, .int .i64 (atV c x)), (9, .int .i64 (c.gX_n : Int)), (3, .pointer (some ⟨b1, 0, none⟩)), (1, .int .i64 x), (2, .int .i64 y)] w11 (by kernel_rfl) ?_
            have fk27 : (atV c x) = (c.gY_l.getD 0 0) := at_first hv (by omega)
            refine J.head (.bool false) (congrArg Value.bool (bne_eq_false_iff_eq.2 fk27)) ?_
            refine J.run 2 K6_44 [(66, .pointer (some ⟨b1, 0, none⟩)), (65, .int .i64 x), (64, .bool false), (11, .int .i64 (atV c y)), (10, .int .i64 (atV c x)), (9, .int .i64 (c.gX_n : Int)), (3, .pointer (some ⟨b1, 0, none⟩)), (1, .int .i64 x), (2, .int .i64 y)] w11 (by kernel_rfl) ?_
            refine J.ok (OK.ldBox S11 1 67 22 0 (.slice c.gX_a c.gX_n c.gX_c) (by kernel_rfl) rfl (by kernel_rfl)) ?_
            refine J.run 2 K6_45 [(69, .int .i64 (IntKind.wrap .i64 ((c.gX_n : Int) - 1))), (67, .slice c.gX_a c.gX_n c.gX_c), (65, .int .i64 x), (64, .bool false), (11, .int .i64 (atV c y)), (10, .int .i64 (atV c x)), (9, .int .i64 (c.gX_n : Int)), (3, .pointer (some ⟨b1, 0, none⟩)), (1, .int .i64 x), (2, .int .i64 y)] w11 (by kernel_rfl) ?_
            refine J.head (.int .i64 ((c.gX_n : Int) - 1)) (congrArg (Value.int .i64) (IntWalk.i64_in _ (by omega))) ?_
            obtain ⟨p12, hp12, hc12⟩ := q2.at 0 ((c.gX_n : Int) - 1).toNat (by omega)
            have hel12 := getD_Q q3 0 (n := ((c.gX_n : Int) - 1).toNat) (by have := q2.len_eq; omega)
            refine J.ok (OK.index 70 22 1 c.gX_a p12 c.gX_n ((c.gX_n : Int) - 1).toNat ((c.gX_n : Int) - 1) (p12.add ((c.gX_n : Int) - 1).toNat) (by kernel_rfl) (by kernel_rfl) hp12 (by omega) (by omega) (by rw [Nat.mul_one])) ?_
            refine J.ok (OK.ldCell 71 3 (p12.add ((c.gX_n : Int) - 1).toNat) (.int .i64 (c.gX_l.getD ((c.gX_n : Int) - 1).toNat 0)) (by kernel_rfl) (by kernel_rfl) (S11.cell hc12)) ?_
            refine J.run 2 K6_46 [(73, .bool (decide (x ≥ (c.gX_l.getD ((c.gX_n : Int) - 1).toNat 0)))), (64, .bool false), (11, .int .i64 (atV c y)), (10, .int .i64 (atV c x)), (9, .int .i64 (c.gX_n : Int)), (3, .pointer (some ⟨b1, 0, none⟩)), (1, .int .i64 x), (2, .int .i64 y)] w11 (by kernel_rfl) ?_
            by_cases fk28 : x ≥ (c.gX_l.getD ((c.gX_n : Int) - 1).toNat 0)
            · skip
              refine J.head (.bool true) (congrArg Value.bool (decide_eq_true fk28)) ?_
              refine J.run 2 K6_47 [(75, .pointer (some ⟨b1, 1, none⟩)), (74, .int .i64 (atV c x)), (73, .bool true), (64, .bool false), (11, .int .i64 (atV c y)), (10, .int .i64 (atV c x)), (9, .int .i64 (c.gX_n : Int)), (3, .pointer (some ⟨b1, 0, none⟩)), (1, .int .i64 x), (2, .int .i64 y)] w11 (by kernel_rfl) ?_
              refine J.ok (OK.ldBox S11 1 76 22 1 (.slice c.gY_a c.gY_n c.gY_c) (by kernel_rfl) rfl (by kernel_rfl)) ?_
              refine J.run 2 K6_48 [(78, .int .i64 (IntKind.wrap .i64 ((c.gX_n : Int) - 1))), (76, .slice c.gY_a c.gY_n c.gY_c), (74, .int .i64 (atV c x)), (73, .bool true), (64, .bool false), (11, .int .i64 (atV c y)), (10, .int .i64 (atV c x)), (9, .int .i64 (c.gX_n : Int)), (3, .pointer (some ⟨b1, 0, none⟩)), (1, .int .i64 x), (2, .int .i64 y)] w11 (by kernel_rfl) ?_
              refine J.head (.int .i64 ((c.gX_n : Int) - 1)) (congrArg (Value.int .i64) (IntWalk.i64_in _ (by omega))) ?_
              obtain ⟨p13, hp13, hc13⟩ := q5.at 0 ((c.gX_n : Int) - 1).toNat (by omega)
              have hel13 := getD_Q q6 0 (n := ((c.gX_n : Int) - 1).toNat) (by have := q5.len_eq; omega)
              refine J.ok (OK.index 79 22 1 c.gY_a p13 c.gY_n ((c.gX_n : Int) - 1).toNat ((c.gX_n : Int) - 1) (p13.add ((c.gX_n : Int) - 1).toNat) (by kernel_rfl) (by kernel_rfl) hp13 (by omega) (by omega) (by rw [Nat.mul_one])) ?_
              refine J.ok (OK.ldCell 80 3 (p13.add ((c.gX_n : Int) - 1).toNat) (.int .i64 (c.gY_l.getD ((c.gX_n : Int) - 1).toNat 0)) (by kernel_rfl) (by kernel_rfl) (S11.cell hc13)) ?_
              have fk29 : (atV c x) = (c.gY_l.getD ((c.gX_n : Int) - 1).toNat 0) := at_last hX hv (by omega)
              refine J.run 4 K6_49 [(83, .bool ((atV c x) != (c.gY_l.getD ((c.gX_n : Int) - 1).toNat 0))), (11, .int .i64 (atV c y)), (10, .int .i64 (atV c x)), (9, .int .i64 (c.gX_n : Int)), (3, .pointer (some ⟨b1, 0, none⟩)), (1, .int .i64 x), (2, .int .i64 y)] w11 (by kernel_rfl) ?_
              refine J.head (.bool false) (congrArg Value.bool (bne_eq_false_iff_eq.2 fk29)) ?_
              refine J.run 0 K6_15 [(11, .int .i64 (atV c y)), (10, .int .i64 (atV c x)), (9, .int .i64 (c.gX_n : Int)), (3, .pointer (some ⟨b1, 0, none⟩)), (1, .int .i64 x), (2, .int .i64 y), (83, .bool false)] w11 (by kernel_rfl) ?_
              exact X1  w11  S11
            · skip
              refine J.head (.bool false) (congrArg Value.bool (decide_eq_false fk28)) ?_
              refine J.run 11 K6_15 [(11, .int .i64 (atV c y)), (10, .int .i64 (atV c x)), (9, .int .i64 (c.gX_n : Int)), (3, .pointer (some ⟨b1, 0, none⟩)), (1, .int .i64 x), (2, .int .i64 y), (83, .bool false)] w11 (by kernel_rfl) ?_
              exact X1  w11  S11
          · skip
            refine J.head (.bool false) (congrArg Value.bool (decide_eq_false fk25)) ?_
            refine J.run 10 K6_50 [(66, .pointer (some ⟨b1, 0, none⟩)), (65, .int .i64 x), (64, .bool false), (11, .int .i64 (atV c y)), (10, .int .i64 (atV c x)), (9, .int .i64 (c.gX_n : Int)), (3, .pointer (some ⟨b1, 0, none⟩)), (1, .int .i64 x), (2, .int .i64 y)] w11 (by kernel_rfl) ?_
            refine J.ok (OK.ldBox S11 1 67 22 0 (.slice c.gX_a c.gX_n c.gX_c) (by kernel_rfl) rfl (by kernel_rfl)) ?_
            refine J.run 2 K6_51 [(69, .int .i64 (IntKind.wrap .i64 ((c.gX_n : Int) - 1))), (67, .slice c.gX_a c.gX_n c.gX_c), (65, .int .i64 x), (64, .bool false), (11, .int .i64 (atV c y)), (10, .int .i64 (atV c x)), (9, .int .i64 (c.gX_n : Int)), (3, .pointer (some ⟨b1, 0, none⟩)), (1, .int .i64 x), (2, .int .i64 y)] w11 (by kernel_rfl) ?_
            refine J.head (.int .i64 ((c.gX_n : Int) - 1)) (congrArg (Value.int .i64) (IntWalk.i64_in _ (by omega))) ?_
            obtain ⟨p14, hp14, hc14⟩ := q2.at 0 ((c.gX_n : Int) - 1).toNat (by omega)
            have hel14 := getD_Q q3 0 (n := ((c.gX_n : Int) - 1).toNat) (by have := q2.len_eq; omega)
            refine J.ok (OK.index 70 22 1 c.gX_a p14 c.gX_n ((c.gX_n : Int) - 1).toNat ((c.gX_n : Int) - 1) (p14.add ((c.gX_n : Int) - 1).toNat) (by kernel_rfl) (by kernel_rfl) hp14 (by omega) (by omega) (by rw [Nat.mul_one])) ?_
            refine J.ok (OK.ldCell 71 3 (p14.add ((c.gX_n : Int) - 1).toNat) (.int .i64 (c.gX_l.getD ((c.gX_n : Int) - 1).toNat 0)) (by kernel_rfl) (by kernel_rfl) (S11.cell hc14)) ?_
            refine J.run 2 K6_52 [(73, .bool (decide (x ≥ (c.gX_l.getD ((c.gX_n : Int) - 1).toNat 0)))), (64, .bool false), (11, .int .i64 (atV c y)), (10, .int .i64 (atV c x)), (9, .int .i64 (c.gX_n : Int)), (3, .pointer (some ⟨b1, 0, none⟩)), (1, .int .i64 x), (2, .int .i64 y)] w11 (by kernel_rfl) ?_
            by_cases fk30 : x ≥ (c.gX_l.getD ((c.gX_n : Int) - 1).toNat 0)
            · skip
              refine J.head (.bool true) (congrArg Value.bool (decide_eq_true fk30)) ?_
              refine J.run 2 K6_53 [(75, .pointer (some ⟨b1, 1, none⟩)), (74, .int .i64 (atV c x)), (73, .bool true), (64, .bool false), (11, .int .i64 (atV c y)), (10, .int .i64 (atV c x)), (9, .int .i64 (c.gX_n : Int)), (3, .pointer (some ⟨b1, 0, none⟩)), (1, .int .i64 x), (2, .int .i64 y)] w11 (by kernel_rfl) ?_
              refine J.ok (OK.ldBox S11 1 76 22 1 (.slice c.gY_a c.gY_n c.gY_c) (by kernel_rfl) rfl (by kernel_rfl)) ?_
              refine J.run 2 K6_54 [(78, .int .i64 (IntKind.wrap .i64 ((c.gX_n : Int) - 1))), (76, .slice c.gY_a c.gY_n c.gY_c), (74, .int .i64 (atV c x)), (73, .bool true), (64, .bool false), (11, .int .i64 (atV c y)), (10, .int .i64 (atV c x)), (9, .int .i64 (c.gX_n : Int)), (3, .pointer (some ⟨b1, 0, none⟩)), (1, .int .i64 x), (2, .int .i64 y)] w11 (by kernel_rfl) ?_
              refine J.head (.int .i64 ((c.gX_n : Int) - 1)) (congrArg (Value.int .i64) (IntWalk.i64_in _ (by omega))) ?_
              obtain ⟨p15, hp15, hc15⟩ := q5.at 0 ((c.gX_n : Int) - 1).toNat (by omega)
              have hel15 := getD_Q q6 0 (n := ((c.gX_n : Int) - 1).toNat) (by have := q5.len_eq; omega)
              refine J.ok (OK.index 79 22 1 c.gY_a p15 c.gY_n ((c.gX_n : Int) - 1).toNat ((c.gX_n : Int) - 1) (p15.add ((c.gX_n : Int) - 1).toNat) (by kernel_rfl) (by kernel_rfl) hp15 (by omega) (by omega) (by rw [Nat.mul_one])) ?_
              refine J.ok (OK.ldCell 80 3 (p15.add ((c.gX_n : Int) - 1).toNat) (.int .i64 (c.gY_l.getD ((c.gX_n : Int) - 1).toNat 0)) (by kernel_rfl) (by kernel_rfl) (S11.cell hc15)) ?_
              have fk31 : (atV c x) = (c.gY_l.getD ((c.gX_n : Int) - 1).toNat 0) := at_last hX hv (by omega)
              refine J.run 4 K6_55 [(83, .bool ((atV c x) != (c.gY_l.getD ((c.gX_n : Int) - 1).toNat 0))), (11, .int .i64 (atV c y)), (10, .int .i64 (atV c x)), (9, .int .i64 (c.gX_n : Int)), (3, .pointer (some ⟨b1, 0, none⟩)), (1, .int .i64 x), (2, .int .i64 y)] w11 (by kernel_rfl) ?_
              refine J.head (.bool false) (congrArg Value.bool (bne_eq_false_iff_eq.2 fk31)) ?_
              refine J.run 0 K6_15 [(11, .int .i64 (atV c y)), (10, .int .i64 (atV c x)), (9, .int .i64 (c.gX_n : Int)), (3, .pointer (some ⟨b1, 0, none⟩)), (1, .int .i64 x), (2, .int .i64 y), (83, .bool false)] w11 (by kernel_rfl) ?_
              exact X1  w11  S11
            · skip
              refine J.head (.bool false) (congrArg Value.bool (decide_eq_false fk30)) ?_
              refine J.run 11 K6_15 [(11, .int .i64 (atV c y)), (10, .int .i64 (atV c x)), (9, .int .i64 (c.gX_n : Int)), (3, .pointer (some ⟨b1, 0, none⟩)), (1, .int .i64 x), (2, .int .i64 y), (83, .bool false)] w11 (by kernel_rfl) ?_
              exact X1  w11  S11
      exact L6_1 _ 0 w5 (by omega) (by omega) S5 rfl
    · skip
      refine J.head (.bool true) (congrArg Value.bool (by rw [fk2]; rfl)) ?_
      refine J.run 5 K6_56 [(6, .bool true)] w5 (by kernel_rfl) ?_
      refine J.ret Tryd.f6 [.bool true] Tryd.func6 ⟨by kernel_rfl, trivial⟩ ?_
      refine hR _ _ ?_
      exact ⟨rfl, S5.nil⟩

end Go.Proofs.YtdilhoibcbihlaaDoor
