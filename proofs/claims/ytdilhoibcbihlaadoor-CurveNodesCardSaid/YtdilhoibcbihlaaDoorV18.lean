/- Walks of functions of this seat, printed by a program over the engine. Conditions: as each theorem says. -/
import Derived.Test.YtdilhoibcbihlaaDoorV17
namespace Go.Proofs.YtdilhoibcbihlaaDoor
open Go.Eng Go.RowKit
set_option linter.unusedSimpArgs false
set_option linter.unusedVariables false
theorem great_no {c : Crv} (h : greatC c = false) : c.gX_n ≤ 100 ∧ c.gY_n ≤ 100 := by
  unfold greatC at h; simp only [Bool.or_eq_false_iff, decide_eq_false_iff_not] at h; omega
theorem at_bad {c : Crv} (h : validV c = false) (x : Int) : atV c x = 0 := by unfold atV; rw [h]; rfl
theorem at_good {c : Crv} (h : validV c = true) (x : Int) : atV c x = valueV c x := by unfold atV; rw [h]; rfl
theorem dir_bad {c : Crv} (h : validV c = false) : dirV c = 0 := by unfold dirV; rw [h]; rfl
theorem dir_good {c : Crv} (h : validV c = true) : dirV c = dirL c.gY_l := by unfold dirV; rw [h]; rfl
theorem slopeN_bad {c : Crv} (h : validV c = false) (x : Int) : slopeN c x = 0 := by unfold slopeN; rw [h]; rfl
theorem slopeD_bad {c : Crv} (h : validV c = false) (x : Int) : slopeD c x = 0 := by unfold slopeD; rw [h]; rfl
theorem hb3 : HasBody Tryd.prog 3 := fun _ _ => by kernel_rfl
noncomputable def K3_0 : List Item := adv 2 [] (bodyOf Tryd.f3)
noncomputable def K3_1 : List Item := adv 5 [] (popK (popK K3_0))
noncomputable def K3_2 : List Item := adv 7 [false] (popK K3_1)
noncomputable def K3_3 : List Item := adv 1 [] (popK (popK (popK K3_2)))
noncomputable def K3_4 : List Item := adv 5 [true] K3_3
noncomputable def K3_5 : List Item := adv 4 [false] K3_3
noncomputable def K3_6 : List Item := adv 1 [] (popK K3_5)
noncomputable def K3_7 : List Item := adv 8 [] (popK K3_6)
noncomputable def K3_8 : List Item := adv 1 [] (popK K3_7)
noncomputable def K3_9 : List Item := adv 8 [] (popK K3_8)
noncomputable def K3_10 : List Item := adv 3 [] (popK (popK (popK K3_9)))
noncomputable def K3_11 : List Item := adv 4 [] (popK (popK K3_10))
noncomputable def K3_12 : List Item := adv 3 [] (popK (popK (popK K3_11)))
noncomputable def K3_13 : List Item := adv 7 [] (popK (popK K3_12))
noncomputable def K3_14 : List Item := adv 4 [] K3_13
noncomputable def K3_15 : List Item := adv 2 [] K3_14
noncomputable def K3_16 : List Item := adv 5 [] (popK (popK (popK K3_15)))
noncomputable def K3_17 : List Item := adv 3 [] K3_16
set_option maxRecDepth 20000 in
set_option maxHeartbeats 20000000 in
theorem lawinverses_any (c : Crv) (y a b : Int) (w : World) (hc : crvQ w c) (hW : TabW w) : Ret Tryd.prog 3 #[.agg #[.slice c.gX_a c.gX_n c.gX_c, .slice c.gY_a c.gY_n c.gY_c], .int .i64 y, .agg #[.int .i64 a, .int .i64 b]] w (fun v w' => v = .bool true ∧ Sep w [] w') := by
  have S0 := Sep.refl w
  refine Ret.named fun R hR => ?_
  refine Ret.of_J (N := 62) [(0, .agg #[.slice c.gX_a c.gX_n c.gX_c, .slice c.gY_a c.gY_n c.gY_c]), (1, .int .i64 y), (2, .agg #[.int .i64 a, .int .i64 b])] Tryd.func3 rfl rfl (Nat.le_of_ble_eq_true (by kernel_rfl)) (by kernel_rfl) ?_
  obtain ⟨q1, q2, q3, q4, q5, q6, _⟩ := id hc
  have ql1 := q2.len_eq
  have ql2 := q5.len_eq
  refine J.run 2 K3_0 [(0, .agg #[.slice c.gX_a c.gX_n c.gX_c, .slice c.gY_a c.gY_n c.gY_c]), (1, .int .i64 y), (2, .agg #[.int .i64 a, .int .i64 b])] w (by kernel_rfl) ?_
  refine J.new S0 3 [.slice c.gX_a c.gX_n c.gX_c, .slice c.gY_a c.gY_n c.gY_c] 24 (by kernel_rfl) ?_
  intro b1 w1 S1
  refine J.new S1 5 [.int .i64 a, .int .i64 b] 26 (by kernel_rfl) ?_
  intro b2 w2 S2
  refine J.run 5 K3_1 [(5, .pointer (some ⟨b2, 0, none⟩)), (3, .pointer (some ⟨b1, 0, none⟩)), (1, .int .i64 y)] w2 (by kernel_rfl) ?_
  refine J.callF 15 10 #[] hb10 (by kernel_rfl) (awake_any  _ (tabW_sep hW S2)) ?_
  rintro _ w3 ⟨rfl, T1⟩
  have S3 : Sep w [box b2 [.int .i64 a, .int .i64 b] 26, box b1 [.slice c.gX_a c.gX_n c.gX_c, .slice c.gY_a c.gY_n c.gY_c] 24] w3 := S2.trans T1
  clear T1 S2
  refine J.run 7 K3_2 [(5, .pointer (some ⟨b2, 0, none⟩)), (3, .pointer (some ⟨b1, 0, none⟩)), (1, .int .i64 y)] w3 (by kernel_rfl) ?_
  refine J.ok (OK.ldBox S3 1 17 24 0 (.agg #[.slice c.gX_a c.gX_n c.gX_c, .slice c.gY_a c.gY_n c.gY_c]) (by kernel_rfl) rfl (by kernel_rfl)) ?_
  refine J.newSlice S3 18 1 [.slice c.gX_a c.gX_n c.gX_c, .slice c.gY_a c.gY_n c.gY_c] 24 (by kernel_rfl) ?_
  intro b3 w4 S4
  refine J.callF 19 11 #[.slice (some ⟨b3, 0, none⟩) 1 1] hb11 (by kernel_rfl) (great_any (some ⟨b3, 0, none⟩) 1 1 ([c]) _ ((show Recs crvE 2 w4 (some ⟨b3, 0, none⟩) 1 ([c] : List Crv) from ⟨rfl, fun _ => rfl, by decide, box_cells (S4.nth 0 rfl)⟩)) (by first | omega | (simp; omega))) ?_
  rintro _ w5 ⟨rfl, T2⟩
  have S5 : Sep w [box b3 [.slice c.gX_a c.gX_n c.gX_c, .slice c.gY_a c.gY_n c.gY_c] 24, box b2 [.int .i64 a, .int .i64 b] 26, box b1 [.slice c.gX_a c.gX_n c.gX_c, .slice c.gY_a c.gY_n c.gY_c] 24] w5 := S4.trans T2
  clear T2 S4
  refine J.head (.bool (greatC c)) (congrArg Value.bool (by simp)) ?_
  refine J.run 1 K3_3 [(19, .bool (greatC c)), (5, .pointer (some ⟨b2, 0, none⟩)), (3, .pointer (some ⟨b1, 0, none⟩)), (1, .int .i64 y)] w5 (by kernel_rfl) ?_
  rcases Bool.eq_false_or_eq_true (greatC c) with fk1 | fk1
  · skip
    refine J.head (.bool true) (congrArg Value.bool fk1) ?_
    refine J.run 5 K3_4 [(6, .bool true)] w5 (by kernel_rfl) ?_
    refine J.ret Tryd.f3 [.bool true] Tryd.func3 ⟨by kernel_rfl, trivial⟩ ?_
    refine hR _ _ ?_
    exact ⟨rfl, S5.nil⟩
  · skip
    refine J.head (.bool false) (congrArg Value.bool fk1) ?_
    have hgr := great_no fk1
    refine J.run 4 K3_5 [(5, .pointer (some ⟨b2, 0, none⟩)), (3, .pointer (some ⟨b1, 0, none⟩)), (1, .int .i64 y)] w5 (by kernel_rfl) ?_
    refine J.ok (OK.ldBox S5 2 21 24 0 (.agg #[.slice c.gX_a c.gX_n c.gX_c, .slice c.gY_a c.gY_n c.gY_c]) (by kernel_rfl) rfl (by kernel_rfl)) ?_
    refine J.run 1 K3_6 [(22, .int .i64 y), (21, .agg #[.slice c.gX_a c.gX_n c.gX_c, .slice c.gY_a c.gY_n c.gY_c]), (5, .pointer (some ⟨b2, 0, none⟩)), (3, .pointer (some ⟨b1, 0, none⟩)), (1, .int .i64 y)] w5 (by kernel_rfl) ?_
    refine J.callF 23 12 #[.agg #[.slice c.gX_a c.gX_n c.gX_c, .slice c.gY_a c.gY_n c.gY_c], .int .i64 y] hb12 (by kernel_rfl) (cinverse_any c y _ (crvQ_sep hc S5)) ?_
    rintro _ w6 ⟨rfl, T3⟩
    have S6 : Sep w [box b3 [.slice c.gX_a c.gX_n c.gX_c, .slice c.gY_a c.gY_n c.gY_c] 24, box b2 [.int .i64 a, .int .i64 b] 26, box b1 [.slice c.gX_a c.gX_n c.gX_c, .slice c.gY_a c.gY_n c.gY_c] 24] w6 := S5.trans T3
    clear T3 S5
    refine J.run 8 K3_7 [(8, .int .i64 (civE c y)), (7, .int .i64 (civX c y)), (5, .pointer (some ⟨b2, 0, none⟩)), (3, .pointer (some ⟨b1, 0, none⟩)), (1, .int .i64 y)] w6 (by kernel_rfl) ?_
    refine J.ok (OK.ldBox S6 2 27 24 0 (.agg #[.slice c.gX_a c.gX_n c.gX_c, .slice c.gY_a c.gY_n c.gY_c]) (by kernel_rfl) rfl (by kernel_rfl)) ?_
    refine J.run 1 K3_8 [(28, .int .i64 y), (27, .agg #[.slice c.gX_a c.gX_n c.gX_c, .slice c.gY_a c.gY_n c.gY_c]), (8, .int .i64 (civE c y)), (7, .int .i64 (civX c y)), (5, .pointer (some ⟨b2, 0, none⟩)), (3, .pointer (some ⟨b1, 0, none⟩))] w6 (by kernel_rfl) ?_
    refine J.callF 29 13 #[.agg #[.slice c.gX_a c.gX_n c.gX_c, .slice c.gY_a c.gY_n c.gY_c], .int .i64 y] hb13 (by kernel_rfl) (rcinverse_any c y _ (crvQ_sep hc S6)) ?_
    rintro _ w7 ⟨rfl, T4⟩
    have S7 : Sep w [box b3 [.slice c.gX_a c.gX_n c.gX_c, .slice c.gY_a c.gY_n c.gY_c] 24, box b2 [.int .i64 a, .int .i64 b] 26, box b1 [.slice c.gX_a c.gX_n c.gX_c, .slice c.gY_a c.gY_n c.gY_c] 24] w7 := S6.trans T4
    clear T4 S6
    refine J.run 8 K3_9 [(10, .int .i64 (civE c y)), (9, .int .i64 (civX c y)), (8, .int .i64 (civE c y)), (7, .int .i64 (civX c y)), (5, .pointer (some ⟨b2, 0, none⟩)), (3, .pointer (some ⟨b1, 0, none⟩))] w7 (by kernel_rfl) ?_
    refine J.ok (OK.ldBox S7 2 33 24 0 (.agg #[.slice c.gX_a c.gX_n c.gX_c, .slice c.gY_a c.gY_n c.gY_c]) (by kernel_rfl) rfl (by kernel_rfl)) ?_
    refine J.ok (OK.ldBox S7 1 34 26 0 (.agg #[.int .i64 a, .int .i64 b]) (by kernel_rfl) rfl (by kernel_rfl)) ?_
    refine J.callF 35 14 #[.agg #[.slice c.gX_a c.gX_n c.gX_c, .slice c.gY_a c.gY_n c.gY_c], .agg #[.int .i64 a, .int .i64 b]] hb14 (by kernel_rfl) (cover_any c a b _ (crvQ_sep hc S7)) ?_
    rintro _ w8 ⟨rfl, T5⟩
    have S8 : Sep w [box b3 [.slice c.gX_a c.gX_n c.gX_c, .slice c.gY_a c.gY_n c.gY_c] 24, box b2 [.int .i64 a, .int .i64 b] 26, box b1 [.slice c.gX_a c.gX_n c.gX_c, .slice c.gY_a c.gY_n c.gY_c] 24] w8 := S7.trans T5
    clear T5 S7
    refine J.run 3 K3_10 [(37, .int .i64 (covE c a b)), (36, .agg #[.int .i64 (covL c a b), .int .i64 (covH c a b)]), (10, .int .i64 (civE c y)), (9, .int .i64 (civX c y)), (8, .int .i64 (civE c y)), (7, .int .i64 (civX c y)), (5, .pointer (some ⟨b2, 0, none⟩)), (3, .pointer (some ⟨b1, 0, none⟩))] w8 (by kernel_rfl) ?_
    refine J.new S8 11 [.int .i64 0, .int .i64 0] 26 (by kernel_rfl) ?_
    intro b4 w9 S9
    refine J.stBox S9 0 26 0 (.agg #[.int .i64 (covL c a b), .int .i64 (covH c a b)]) [.int .i64 (covL c a b), .int .i64 (covH c a b)] [box b4 [.int .i64 (covL c a b), .int .i64 (covH c a b)] 26, box b3 [.slice c.gX_a c.gX_n c.gX_c, .slice c.gY_a c.gY_n c.gY_c] 24, box b2 [.int .i64 a, .int .i64 b] 26, box b1 [.slice c.gX_a c.gX_n c.gX_c, .slice c.gY_a c.gY_n c.gY_c] 24] (by kernel_rfl) rfl (by kernel_rfl) (by kernel_rfl) rfl ?_
    intro w10 S10
    refine J.run 4 K3_11 [(12, .int .i64 (covE c a b)), (11, .pointer (some ⟨b4, 0, none⟩)), (10, .int .i64 (civE c y)), (9, .int .i64 (civX c y)), (8, .int .i64 (civE c y)), (7, .int .i64 (civX c y)), (5, .pointer (some ⟨b2, 0, none⟩)), (3, .pointer (some ⟨b1, 0, none⟩))] w10 (by kernel_rfl) ?_
    refine J.ok (OK.ldBox S10 3 39 24 0 (.agg #[.slice c.gX_a c.gX_n c.gX_c, .slice c.gY_a c.gY_n c.gY_c]) (by kernel_rfl) rfl (by kernel_rfl)) ?_
    refine J.ok (OK.ldBox S10 2 40 26 0 (.agg #[.int .i64 a, .int .i64 b]) (by kernel_rfl) rfl (by kernel_rfl)) ?_
    refine J.callF 41 15 #[.agg #[.slice c.gX_a c.gX_n c.gX_c, .slice c.gY_a c.gY_n c.gY_c], .agg #[.int .i64 a, .int .i64 b]] hb15 (by kernel_rfl) (rcover_any c a b _ (crvQ_sep hc S10)) ?_
    rintro _ w11 ⟨rfl, T6⟩
    have S11 : Sep w [box b4 [.int .i64 (covL c a b), .int .i64 (covH c a b)] 26, box b3 [.slice c.gX_a c.gX_n c.gX_c, .slice c.gY_a c.gY_n c.gY_c] 24, box b2 [.int .i64 a, .int .i64 b] 26, box b1 [.slice c.gX_a c.gX_n c.gX_c, .slice c.gY_a c.gY_n c.gY_c] 24] w11 := S10.trans T6
    clear T6 S10
    refine J.run 3 K3_12 [(43, .int .i64 (covE c a b)), (42, .agg #[.int .i64 (covL c a b), .int .i64 (covH c a b)]), (12, .int .i64 (covE c a b)), (11, .pointer (some ⟨b4, 0, none⟩)), (10, .int .i64 (civE c y)), (9, .int .i64 (civX c y)), (8, .int .i64 (civE c y)), (7, .int .i64 (civX c y))] w11 (by kernel_rfl) ?_
    refine J.new S11 13 [.int .i64 0, .int .i64 0] 26 (by kernel_rfl) ?_
    intro b5 w12 S12
    refine J.stBox S12 0 26 0 (.agg #[.int .i64 (covL c a b), .int .i64 (covH c a b)]) [.int .i64 (covL c a b), .int .i64 (covH c a b)] [box b5 [.int .i64 (covL c a b), .int .i64 (covH c a b)] 26, box b4 [.int .i64 (covL c a b), .int .i64 (covH c a b)] 26, box b3 [.slice c.gX_a c.gX_n c.gX_c, .slice c.gY_a c.gY_n c.gY_c] 24, box b2 [.int .i64 a, .int .i64 b] 26, box b1 [.slice c.gX_a c.gX_n c.gX_c, .slice c.gY_a c.gY_n c.gY_c] 24] (by kernel_rfl) rfl (by kernel_rfl) (by kernel_rfl) rfl ?_
    intro w13 S13
    refine J.run 7 K3_13 [(46, .bool ((civX c y) == (civX c y))), (14, .int .i64 (covE c a b)), (13, .pointer (some ⟨b5, 0, none⟩)), (12, .int .i64 (covE c a b)), (11, .pointer (some ⟨b4, 0, none⟩)), (10, .int .i64 (civE c y)), (8, .int .i64 (civE c y))] w13 (by kernel_rfl) ?_
    refine J.head (.bool true) (congrArg Value.bool (by simp)) ?_
    refine J.run 4 K3_14 [(50, .bool ((civE c y) == (civE c y))), (47, .bool true), (14, .int .i64 (covE c a b)), (13, .pointer (some ⟨b5, 0, none⟩)), (12, .int .i64 (covE c a b)), (11, .pointer (some ⟨b4, 0, none⟩))] w13 (by kernel_rfl) ?_
    refine J.head (.bool true) (congrArg Value.bool (by simp)) ?_
    refine J.run 2 K3_15 [(52, .bool true), (14, .int .i64 (covE c a b)), (13, .pointer (some ⟨b5, 0, none⟩)), (12, .int .i64 (covE c a b)), (11, .pointer (some ⟨b4, 0, none⟩))] w13 (by kernel_rfl) ?_
    refine J.ok (OK.ldBox S13 1 53 26 0 (.agg #[.int .i64 (covL c a b), .int .i64 (covH c a b)]) (by kernel_rfl) rfl (by kernel_rfl)) ?_
    refine J.ok (OK.ldBox S13 0 54 26 0 (.agg #[.int .i64 (covL c a b), .int .i64 (covH c a b)]) (by kernel_rfl) rfl (by kernel_rfl)) ?_
    refine J.ok (OK.eqS 55 true 26 #[.int .i64 (covL c a b), .int .i64 (covH c a b)] #[.int .i64 (covL c a b), .int .i64 (covH c a b)] (((covL c a b) == (covL c a b)) && (((covH c a b) == (covH c a b)) && true)) (by kernel_rfl) (by kernel_rfl) (by kernel_rfl) true (by simp)) ?_
    refine J.run 5 K3_16 [(60, .bool ((covE c a b) == (covE c a b))), (57, .bool true)] w13 (by kernel_rfl) ?_
    refine J.head (.bool true) (congrArg Value.bool (by simp)) ?_
    refine J.run 3 K3_17 [(6, .bool true)] w13 (by kernel_rfl) ?_
    refine J.ret Tryd.f3 [.bool true] Tryd.func3 ⟨by kernel_rfl, trivial⟩ ?_
    refine hR _ _ ?_
    exact ⟨rfl, S13.nil⟩

theorem hb7 : HasBody Tryd.prog 7 := fun _ _ => by kernel_rfl
noncomputable def K7_0 : List Item := adv 2 [] (bodyOf Tryd.f7)
noncomputable def K7_1 : List Item := adv 5 [] (popK K7_0)
noncomputable def K7_2 : List Item := adv 7 [false] (popK K7_1)
noncomputable def K7_3 : List Item := adv 1 [] (popK (popK (popK K7_2)))
noncomputable def K7_4 : List Item := adv 5 [true] K7_3
noncomputable def K7_5 : List Item := adv 5 [false] K7_3
noncomputable def K7_6 : List Item := adv 2 [] (popK (popK K7_5))
noncomputable def K7_7 : List Item := adv 3 [false] K7_6
noncomputable def K7_8 : List Item := adv 3 [true] K7_6
noncomputable def K7_9 : List Item := adv 2 [] (popK (popK K7_8))
noncomputable def K7_10 : List Item := adv 1 [] (popK K7_9)
noncomputable def K7_11 : List Item := adv 3 [] (popK K7_10)
noncomputable def K7_12 : List Item := adv 3 [] (popK (popK K7_11))
noncomputable def K7_13 : List Item := adv 1 [] (popK K7_12)
noncomputable def K7_14 : List Item := adv 1 [] (popK K7_13)
noncomputable def K7_15 : List Item := adv 3 [] (popK K7_14)
set_option maxRecDepth 20000 in
set_option maxHeartbeats 20000000 in
theorem lawvalues_any (c : Crv) (x : Int) (w : World) (hc : crvQ w c) (hW : TabW w) : Ret Tryd.prog 7 #[.agg #[.slice c.gX_a c.gX_n c.gX_c, .slice c.gY_a c.gY_n c.gY_c], .int .i64 x] w (fun v w' => v = .bool true ∧ Sep w [] w') := by
  have S0 := Sep.refl w
  refine Ret.named fun R hR => ?_
  refine Ret.of_J (N := 61) [(0, .agg #[.slice c.gX_a c.gX_n c.gX_c, .slice c.gY_a c.gY_n c.gY_c]), (1, .int .i64 x)] Tryd.func7 rfl rfl (Nat.le_of_ble_eq_true (by kernel_rfl)) (by kernel_rfl) ?_
  obtain ⟨q1, q2, q3, q4, q5, q6, _⟩ := id hc
  have ql1 := q2.len_eq
  have ql2 := q5.len_eq
  refine J.run 2 K7_0 [(0, .agg #[.slice c.gX_a c.gX_n c.gX_c, .slice c.gY_a c.gY_n c.gY_c]), (1, .int .i64 x)] w (by kernel_rfl) ?_
  refine J.new S0 2 [.slice c.gX_a c.gX_n c.gX_c, .slice c.gY_a c.gY_n c.gY_c] 24 (by kernel_rfl) ?_
  intro b1 w1 S1
  refine J.run 5 K7_1 [(2, .pointer (some ⟨b1, 0, none⟩)), (1, .int .i64 x)] w1 (by kernel_rfl) ?_
  refine J.callF 5 10 #[] hb10 (by kernel_rfl) (awake_any  _ (tabW_sep hW S1)) ?_
  rintro _ w2 ⟨rfl, T1⟩
  have S2 : Sep w [box b1 [.slice c.gX_a c.gX_n c.gX_c, .slice c.gY_a c.gY_n c.gY_c] 24] w2 := S1.trans T1
  clear T1 S1
  refine J.run 7 K7_2 [(2, .pointer (some ⟨b1, 0, none⟩)), (1, .int .i64 x)] w2 (by kernel_rfl) ?_
  refine J.ok (OK.ldBox S2 0 7 24 0 (.agg #[.slice c.gX_a c.gX_n c.gX_c, .slice c.gY_a c.gY_n c.gY_c]) (by kernel_rfl) rfl (by kernel_rfl)) ?_
  refine J.newSlice S2 8 1 [.slice c.gX_a c.gX_n c.gX_c, .slice c.gY_a c.gY_n c.gY_c] 24 (by kernel_rfl) ?_
  intro b2 w3 S3
  refine J.callF 9 11 #[.slice (some ⟨b2, 0, none⟩) 1 1] hb11 (by kernel_rfl) (great_any (some ⟨b2, 0, none⟩) 1 1 ([c]) _ ((show Recs crvE 2 w3 (some ⟨b2, 0, none⟩) 1 ([c] : List Crv) from ⟨rfl, fun _ => rfl, by decide, box_cells (S3.nth 0 rfl)⟩)) (by first | omega | (simp; omega))) ?_
  rintro _ w4 ⟨rfl, T2⟩
  have S4 : Sep w [box b2 [.slice c.gX_a c.gX_n c.gX_c, .slice c.gY_a c.gY_n c.gY_c] 24, box b1 [.slice c.gX_a c.gX_n c.gX_c, .slice c.gY_a c.gY_n c.gY_c] 24] w4 := S3.trans T2
  clear T2 S3
  refine J.head (.bool (greatC c)) (congrArg Value.bool (by simp)) ?_
  refine J.run 1 K7_3 [(9, .bool (greatC c)), (2, .pointer (some ⟨b1, 0, none⟩)), (1, .int .i64 x)] w4 (by kernel_rfl) ?_
  rcases Bool.eq_false_or_eq_true (greatC c) with fk1 | fk1
  · skip
    refine J.head (.bool true) (congrArg Value.bool fk1) ?_
    refine J.run 5 K7_4 [(4, .bool true)] w4 (by kernel_rfl) ?_
    refine J.ret Tryd.f7 [.bool true] Tryd.func7 ⟨by kernel_rfl, trivial⟩ ?_
    refine hR _ _ ?_
    exact ⟨rfl, S4.nil⟩
  · skip
    refine J.head (.bool false) (congrArg Value.bool fk1) ?_
    have hgr := great_no fk1
    refine J.run 5 K7_5 [(2, .pointer (some ⟨b1, 0, none⟩)), (1, .int .i64 x)] w4 (by kernel_rfl) ?_
    refine J.ok (OK.ldBox S4 1 10 24 0 (.agg #[.slice c.gX_a c.gX_n c.gX_c, .slice c.gY_a c.gY_n c.gY_c]) (by kernel_rfl) rfl (by kernel_rfl)) ?_
    refine J.callF 11 17 #[.agg #[.slice c.gX_a c.gX_n c.gX_c, .slice c.gY_a c.gY_n c.gY_c]] hb17 (by kernel_rfl) (rcvalid_any c _ (crvQ_sep hc S4)) ?_
    rintro _ w5 ⟨rfl, T3⟩
    have S5 : Sep w [box b2 [.slice c.gX_a c.gX_n c.gX_c, .slice c.gY_a c.gY_n c.gY_c] 24, box b1 [.slice c.gX_a c.gX_n c.gX_c, .slice c.gY_a c.gY_n c.gY_c] 24] w5 := S4.trans T3
    clear T3 S4
    refine J.run 2 K7_6 [(12, .bool (!(validV c))), (2, .pointer (some ⟨b1, 0, none⟩)), (1, .int .i64 x)] w5 (by kernel_rfl) ?_
    rcases Bool.eq_false_or_eq_true (validV c) with fk2 | fk2
    · skip
      refine J.head (.bool false) (congrArg Value.bool (by rw [fk2]; rfl)) ?_
      have hv := fk2
      refine J.run 3 K7_7 [(2, .pointer (some ⟨b1, 0, none⟩)), (1, .int .i64 x)] w5 (by kernel_rfl) ?_
      have fk3 : (atV c x) = (valueV c x) := at_good fk2 x
      have fk4 : (dirV c) = (dirL c.gY_l) := dir_good fk2
      refine J.drawPlan (fun w_ => Sep w [box b2 [.slice c.gX_a c.gX_n c.gX_c, .slice c.gY_a c.gY_n c.gY_c] 24, box b1 [.slice c.gX_a c.gX_n c.gX_c, .slice c.gY_a c.gY_n c.gY_c] 24] w_) [(0, true), (1, false), (2, true), (3, true), (4, true), (6, true), (7, true), (5, false), (8, false), (9, true), (10, true), (11, true), (12, true), (14, true), (13, false), (15, false), (16, true), (17, true), (18, true), (19, true), (20, true), (22, true), (23, true), (21, false), (24, false), (25, true), (26, true), (27, true)] S5 Tryd.mixed (by kernel_rfl) (planOK_of (T := [(0, some 34, 4), (1, some 35, 17179869184), (2, some 36, 34359738368), (4, some 37, 68719476740), (4, some 38, 68719476738), (28, some 39, 481036337152), (4, some 40, 68719476740), (4, some 41, 68719476738), (228, some 42, 3367254360064), (292, some 43, 5016521801728), (516, some 44, 8864812498944), (1280, some 45, 17592186044416), (2048, some 46, 35184372088836), (6144, some 47, 105553116266496), (2048, some 48, 35184372088836), (26624, some 49, 316659348799488), (43008, some 50, 738871813865472), (67584, some 51, 1161084278931456), (163840, some 52, 2251799813685248), (262144, some 53, 4503599627370500), (262144, some 54, 4503599627370498), (1835008, some 55, 31525197391593472), (262144, some 56, 4503599627370500), (262144, some 57, 4503599627370498), (14942208, some 58, 220676381741154304), (19136512, some 59, 328762772798046208), (33816576, some 60, 580964351930793984), (134217727, some 4, 1152921504606846976)]) (by kernel_rfl) (by kernel_rfl)) ?_
      intro w6 S6
      refine PB.mk (S6.sub (.cons_cons _ (.cons_cons _ (.slnil)))) ?_
      refine PL.takeOK 0 (fun w_ S_ => OK.ldBox S_ 1 34 24 0 (.agg #[.slice c.gX_a c.gX_n c.gX_c, .slice c.gY_a c.gY_n c.gY_c]) (by kernel_rfl) rfl (by kernel_rfl)) rfl ?_
      refine PL.callF 35 16 #[.agg #[.slice c.gX_a c.gX_n c.gX_c, .slice c.gY_a c.gY_n c.gY_c]] hb16 (by kernel_rfl) (cvalid_any c _ (crvQ_sep hc S6)) ?_
      rintro _ w7 ⟨rfl, T4⟩
      have S7 : Sep w [box b2 [.slice c.gX_a c.gX_n c.gX_c, .slice c.gY_a c.gY_n c.gY_c] 24, box b1 [.slice c.gX_a c.gX_n c.gX_c, .slice c.gY_a c.gY_n c.gY_c] 24] w7 := S6.trans T4
      clear T4 S6
      refine PB.head (.bool true) (congrArg Value.bool fk2) ?_
      refine PB.mk (S7.sub (.cons_cons _ (.cons_cons _ (.slnil)))) ?_
      refine PL.take 2 36 (.bool true) (fun _ _ => by kernel_rfl) ?_
      refine PL.takeOK 3 (fun w_ S_ => OK.ldBox S_ 1 37 24 0 (.agg #[.slice c.gX_a c.gX_n c.gX_c, .slice c.gY_a c.gY_n c.gY_c]) (by kernel_rfl) rfl (by kernel_rfl)) rfl ?_
      refine PL.take 4 38 (.int .i64 x) (fun _ _ => by kernel_rfl) ?_
      refine PL.takeOK 6 (fun w_ S_ => OK.ldBox S_ 1 40 24 0 (.agg #[.slice c.gX_a c.gX_n c.gX_c, .slice c.gY_a c.gY_n c.gY_c]) (by kernel_rfl) rfl (by kernel_rfl)) rfl ?_
      refine PL.take 7 41 (.int .i64 x) (fun _ _ => by kernel_rfl) ?_
      refine PL.callF 39 19 #[.agg #[.slice c.gX_a c.gX_n c.gX_c, .slice c.gY_a c.gY_n c.gY_c], .int .i64 x] hb19 (by kernel_rfl) (cAt_any c x _ (crvQ_sep hc S7)) ?_
      rintro _ w8 ⟨rfl, T5⟩
      have S8 : Sep w [box b2 [.slice c.gX_a c.gX_n c.gX_c, .slice c.gY_a c.gY_n c.gY_c] 24, box b1 [.slice c.gX_a c.gX_n c.gX_c, .slice c.gY_a c.gY_n c.gY_c] 24] w8 := S7.trans T5
      clear T5 S7
      refine PB.mk (S8.sub (.cons_cons _ (.cons_cons _ (.slnil)))) ?_
      refine PL.callF 42 22 #[.agg #[.slice c.gX_a c.gX_n c.gX_c, .slice c.gY_a c.gY_n c.gY_c], .int .i64 x] hb22 (by kernel_rfl) (rcAt_any c x _ (crvQ_sep hc S8) hv) ?_
      rintro _ w9 ⟨rfl, T6⟩
      have S9 : Sep w [box b2 [.slice c.gX_a c.gX_n c.gX_c, .slice c.gY_a c.gY_n c.gY_c] 24, box b1 [.slice c.gX_a c.gX_n c.gX_c, .slice c.gY_a c.gY_n c.gY_c] 24] w9 := S8.trans T6
      clear T6 S8
      refine PB.mk (S9.sub (.cons_cons _ (.cons_cons _ (.slnil)))) ?_
      refine PL.take 9 43 (.bool ((atV c x) == (valueV c x))) (fun _ _ => by kernel_rfl) ?_
      refine PL.head (.bool true) (congrArg Value.bool (beq_iff_eq.2 fk3)) ?_
      refine PL.take 10 44 (.bool true) (fun _ _ => by kernel_rfl) ?_
      refine PL.take 11 45 (.bool true) (fun _ _ => by kernel_rfl) ?_
      refine PL.takeOK 12 (fun w_ S_ => OK.ldBox S_ 1 46 24 0 (.agg #[.slice c.gX_a c.gX_n c.gX_c, .slice c.gY_a c.gY_n c.gY_c]) (by kernel_rfl) rfl (by kernel_rfl)) rfl ?_
      refine PL.takeOK 14 (fun w_ S_ => OK.ldBox S_ 1 48 24 0 (.agg #[.slice c.gX_a c.gX_n c.gX_c, .slice c.gY_a c.gY_n c.gY_c]) (by kernel_rfl) rfl (by kernel_rfl)) rfl ?_
      refine PL.callF 47 18 #[.agg #[.slice c.gX_a c.gX_n c.gX_c, .slice c.gY_a c.gY_n c.gY_c]] hb18 (by kernel_rfl) (cdir_any c _ (crvQ_sep hc S9)) ?_
      rintro _ w10 ⟨rfl, T7⟩
      have S10 : Sep w [box b2 [.slice c.gX_a c.gX_n c.gX_c, .slice c.gY_a c.gY_n c.gY_c] 24, box b1 [.slice c.gX_a c.gX_n c.gX_c, .slice c.gY_a c.gY_n c.gY_c] 24] w10 := S9.trans T7
      clear T7 S9
      refine PB.mk (S10.sub (.cons_cons _ (.cons_cons _ (.slnil)))) ?_
      refine PL.callF 49 23 #[.agg #[.slice c.gX_a c.gX_n c.gX_c, .slice c.gY_a c.gY_n c.gY_c]] hb23 (by kernel_rfl) (rcdir_any c _ (crvQ_sep hc S10)) ?_
      rintro _ w11 ⟨rfl, T8⟩
      have S11 : Sep w [box b2 [.slice c.gX_a c.gX_n c.gX_c, .slice c.gY_a c.gY_n c.gY_c] 24, box b1 [.slice c.gX_a c.gX_n c.gX_c, .slice c.gY_a c.gY_n c.gY_c] 24] w11 := S10.trans T8
      clear T8 S10
      refine PB.mk (S11.sub (.cons_cons _ (.cons_cons _ (.slnil)))) ?_
      refine PL.take 16 50 (.bool ((dirV c) == (dirL c.gY_l))) (fun _ _ => by kernel_rfl) ?_
      refine PL.head (.bool true) (congrArg Value.bool (beq_iff_eq.2 fk4)) ?_
      refine PL.take 17 51 (.bool true) (fun _ _ => by kernel_rfl) ?_
      refine PL.take 18 52 (.bool true) (fun _ _ => by kernel_rfl) ?_
      refine PL.takeOK 19 (fun w_ S_ => OK.ldBox S_ 1 53 24 0 (.agg #[.slice c.gX_a c.gX_n c.gX_c, .slice c.gY_a c.gY_n c.gY_c]) (by kernel_rfl) rfl (by kernel_rfl)) rfl ?_
      refine PL.take 20 54 (.int .i64 x) (fun _ _ => by kernel_rfl) ?_
      refine PL.takeOK 22 (fun w_ S_ => OK.ldBox S_ 1 56 24 0 (.agg #[.slice c.gX_a c.gX_n c.gX_c, .slice c.gY_a c.gY_n c.gY_c]) (by kernel_rfl) rfl (by kernel_rfl)) rfl ?_
      refine PL.take 23 57 (.int .i64 x) (fun _ _ => by kernel_rfl) ?_
      refine PL.callF 55 21 #[.agg #[.slice c.gX_a c.gX_n c.gX_c, .slice c.gY_a c.gY_n c.gY_c], .int .i64 x] hb21 (by kernel_rfl) (cslope_any c x _ (crvQ_sep hc S11)) ?_
      rintro _ w12 ⟨rfl, T9⟩
      have S12 : Sep w [box b2 [.slice c.gX_a c.gX_n c.gX_c, .slice c.gY_a c.gY_n c.gY_c] 24, box b1 [.slice c.gX_a c.gX_n c.gX_c, .slice c.gY_a c.gY_n c.gY_c] 24] w12 := S11.trans T9
      clear T9 S11
      refine PB.mk (S12.sub (.cons_cons _ (.cons_cons _ (.slnil)))) ?_
      refine PL.callF 58 24 #[.agg #[.slice c.gX_a c.gX_n c.gX_c, .slice c.gY_a c.gY_n c.gY_c], .int .i64 x] hb24 (by kernel_rfl) (rcslope_any c x _ (crvQ_sep hc S12) hv) ?_
      rintro _ w13 ⟨rfl, T10⟩
      have S13 : Sep w [box b2 [.slice c.gX_a c.gX_n c.gX_c, .slice c.gY_a c.gY_n c.gY_c] 24, box b1 [.slice c.gX_a c.gX_n c.gX_c, .slice c.gY_a c.gY_n c.gY_c] 24] w13 := S12.trans T10
      clear T10 S12
      refine PB.mk (S13.sub (.cons_cons _ (.cons_cons _ (.slnil)))) ?_
      refine PL.takeOK 25 (fun w_ S_ => OK.eqS 59 true 46 #[.int .i64 (slopeN c x), .int .i64 (slopeD c x)] #[.int .i64 (slopeN c x), .int .i64 (slopeD c x)] (((slopeN c x) == (slopeN c x)) && (((slopeD c x) == (slopeD c x)) && true)) (by kernel_rfl) (by kernel_rfl) (by kernel_rfl) true (by simp)) rfl ?_
      refine PL.take 26 60 (.bool true) (fun _ _ => by kernel_rfl) ?_
      refine PL.take 27 4 (.bool true) (fun _ _ => by kernel_rfl) ?_
      refine PL.done ?_
      refine J.run 0 (rRest K7_7) [(4, .bool true)] w13 (by kernel_rfl) ?_
      refine J.ret Tryd.f7 [.bool true] Tryd.func7 ⟨by kernel_rfl, trivial⟩ ?_
      refine hR _ _ ?_
      exact ⟨rfl, S13.nil⟩
    · skip
      refine J.head (.bool true) (congrArg Value.bool (by rw [fk2]; rfl)) ?_
      refine J.run 3 K7_8 [(2, .pointer (some ⟨b1, 0, none⟩)), (1, .int .i64 x)] w5 (by kernel_rfl) ?_
      refine J.ok (OK.ldBox S5 1 13 24 0 (.agg #[.slice c.gX_a c.gX_n c.gX_c, .slice c.gY_a c.gY_n c.gY_c]) (by kernel_rfl) rfl (by kernel_rfl)) ?_
      refine J.callF 14 16 #[.agg #[.slice c.gX_a c.gX_n c.gX_c, .slice c.gY_a c.gY_n c.gY_c]] hb16 (by kernel_rfl) (cvalid_any c _ (crvQ_sep hc S5)) ?_
      rintro _ w14 ⟨rfl, T11⟩
      have S14 : Sep w [box b2 [.slice c.gX_a c.gX_n c.gX_c, .slice c.gY_a c.gY_n c.gY_c] 24, box b1 [.slice c.gX_a c.gX_n c.gX_c, .slice c.gY_a c.gY_n c.gY_c] 24] w14 := S5.trans T11
      clear T11 S5
      refine J.head (.bool false) (congrArg Value.bool fk2) ?_
      refine J.run 2 K7_9 [(16, .bool true), (2, .pointer (some ⟨b1, 0, none⟩)), (1, .int .i64 x)] w14 (by kernel_rfl) ?_
      refine J.ok (OK.ldBox S14 1 17 24 0 (.agg #[.slice c.gX_a c.gX_n c.gX_c, .slice c.gY_a c.gY_n c.gY_c]) (by kernel_rfl) rfl (by kernel_rfl)) ?_
      refine J.run 1 K7_10 [(18, .int .i64 x), (17, .agg #[.slice c.gX_a c.gX_n c.gX_c, .slice c.gY_a c.gY_n c.gY_c]), (16, .bool true), (2, .pointer (some ⟨b1, 0, none⟩)), (1, .int .i64 x)] w14 (by kernel_rfl) ?_
      refine J.callF 19 19 #[.agg #[.slice c.gX_a c.gX_n c.gX_c, .slice c.gY_a c.gY_n c.gY_c], .int .i64 x] hb19 (by kernel_rfl) (cAt_any c x _ (crvQ_sep hc S14)) ?_
      rintro _ w15 ⟨rfl, T12⟩
      have S15 : Sep w [box b2 [.slice c.gX_a c.gX_n c.gX_c, .slice c.gY_a c.gY_n c.gY_c] 24, box b1 [.slice c.gX_a c.gX_n c.gX_c, .slice c.gY_a c.gY_n c.gY_c] 24] w15 := S14.trans T12
      clear T12 S14
      refine J.run 3 K7_11 [(22, .bool ((atV c x) == 0)), (2, .pointer (some ⟨b1, 0, none⟩)), (1, .int .i64 x)] w15 (by kernel_rfl) ?_
      have fk6 : (atV c x) = 0 := at_bad fk2 x
      refine J.head (.bool true) (congrArg Value.bool (beq_iff_eq.2 fk6)) ?_
      refine J.ok (OK.ldBox S15 1 23 24 0 (.agg #[.slice c.gX_a c.gX_n c.gX_c, .slice c.gY_a c.gY_n c.gY_c]) (by kernel_rfl) rfl (by kernel_rfl)) ?_
      refine J.callF 24 18 #[.agg #[.slice c.gX_a c.gX_n c.gX_c, .slice c.gY_a c.gY_n c.gY_c]] hb18 (by kernel_rfl) (cdir_any c _ (crvQ_sep hc S15)) ?_
      rintro _ w16 ⟨rfl, T13⟩
      have S16 : Sep w [box b2 [.slice c.gX_a c.gX_n c.gX_c, .slice c.gY_a c.gY_n c.gY_c] 24, box b1 [.slice c.gX_a c.gX_n c.gX_c, .slice c.gY_a c.gY_n c.gY_c] 24] w16 := S15.trans T13
      clear T13 S15
      refine J.run 3 K7_12 [(27, .bool ((dirV c) == 0)), (2, .pointer (some ⟨b1, 0, none⟩)), (1, .int .i64 x)] w16 (by kernel_rfl) ?_
      have fk8 : (dirV c) = 0 := dir_bad fk2
      refine J.head (.bool true) (congrArg Value.bool (beq_iff_eq.2 fk8)) ?_
      refine J.ok (OK.ldBox S16 1 28 24 0 (.agg #[.slice c.gX_a c.gX_n c.gX_c, .slice c.gY_a c.gY_n c.gY_c]) (by kernel_rfl) rfl (by kernel_rfl)) ?_
      refine J.run 1 K7_13 [(29, .int .i64 x), (28, .agg #[.slice c.gX_a c.gX_n c.gX_c, .slice c.gY_a c.gY_n c.gY_c]), (27, .bool true)] w16 (by kernel_rfl) ?_
      refine J.callF 30 21 #[.agg #[.slice c.gX_a c.gX_n c.gX_c, .slice c.gY_a c.gY_n c.gY_c], .int .i64 x] hb21 (by kernel_rfl) (cslope_any c x _ (crvQ_sep hc S16)) ?_
      rintro _ w17 ⟨rfl, T14⟩
      have S17 : Sep w [box b2 [.slice c.gX_a c.gX_n c.gX_c, .slice c.gY_a c.gY_n c.gY_c] 24, box b1 [.slice c.gX_a c.gX_n c.gX_c, .slice c.gY_a c.gY_n c.gY_c] 24] w17 := S16.trans T14
      clear T14 S16
      refine J.run 1 K7_14 [(31, .agg #[.int .i64 0, .int .i64 0]), (30, .agg #[.int .i64 (slopeN c x), .int .i64 (slopeD c x)]), (27, .bool true)] w17 (by kernel_rfl) ?_
      refine J.ok (OK.eqS 32 true 46 #[.int .i64 (slopeN c x), .int .i64 (slopeD c x)] #[.int .i64 0, .int .i64 0] (((slopeN c x) == 0) && (((slopeD c x) == 0) && true)) (by kernel_rfl) (by kernel_rfl) (by kernel_rfl) (((slopeN c x) == 0) && ((slopeD c x) == 0)) (by simp)) ?_
      refine J.run 3 K7_15 [(4, .bool (((slopeN c x) == 0) && ((slopeD c x) == 0)))] w17 (by kernel_rfl) ?_
      refine J.ret Tryd.f7 [.bool (((slopeN c x) == 0) && ((slopeD c x) == 0))] Tryd.func7 ⟨by kernel_rfl, trivial⟩ ?_
      refine hR _ _ ?_
      have fk9 : (((slopeN c x) == 0) && ((slopeD c x) == 0)) = true := by rw [slopeN_bad fk2, slopeD_bad fk2]; rfl
      exact ⟨congrArg Value.bool fk9, S17.nil⟩

theorem cell_bounds {c : Crv} (hX : c.gX_l.length = c.gX_n) (hv : validV c = true) {x i : Int} (h0 : 0 ≤ i) (hi : i + 1 < (c.gX_n : Int)) (h1 : c.gX_l.getD i.toNat 0 ≤ x) (h2 : x ≤ c.gX_l.getD (i + 1).toNat 0) :
    min (c.gY_l.getD i.toNat 0) (c.gY_l.getD (i + 1).toNat 0) ≤ atV c x ∧ atV c x ≤ max (c.gY_l.getD i.toNat 0) (c.gY_l.getD (i + 1).toNat 0) := by
  have ax := (validV_facts hv).2.1
  rw [at_good hv]
  have e : (i + 1).toNat = i.toNat + 1 := by omega
  rw [e] at h2 ⊢
  unfold valueV
  rw [curve_cell c.gY_l ax (by omega) h1 h2]
  obtain ⟨b1, b2⟩ := btw_bounds (y0 := c.gY_l.getD i.toNat 0) (y1 := c.gY_l.getD (i.toNat + 1) 0) (axis_mono ax (show i.toNat < i.toNat + 1 by omega) (by omega)) h1 h2
  omega
theorem at_first {c : Crv} (hv : validV c = true) {x : Int} (h : x ≤ c.gX_l.getD 0 0) : atV c x = c.gY_l.getD 0 0 := by rw [at_good hv]; exact curve_low h
theorem at_last {c : Crv} (hX : c.gX_l.length = c.gX_n) (hv : validV c = true) {x : Int} (h : c.gX_l.getD ((c.gX_n : Int) - 1).toNat 0 ≤ x) : atV c x = c.gY_l.getD ((c.gX_n : Int) - 1).toNat 0 := by
  have hl := (axis_facts (validV_facts hv).2.1).1
  have e : c.gX_l.length - 1 = ((c.gX_n : Int) - 1).toNat := by omega
  rw [at_good hv]
  have h_ := curve_high (ys := c.gY_l) (validV_facts hv).2.1 (x := x) (by rw [e]; exact h)
  rw [e] at h_; exact h_
theorem dir_neg {l : List Int} (h : dirL l = -1) : upT l ((l.length : Int) - 1) = false ∧ dnT l ((l.length : Int) - 1) = true := by
  unfold dirL at h
  cases hu : upT l ((l.length : Int) - 1) with
  | true => rw [hu] at h; simp at h
  | false =>
    cases hd : dnT l ((l.length : Int) - 1) with
    | true => exact ⟨rfl, rfl⟩
    | false => rw [hu, hd] at h; simp at h
theorem up_no {l : List Int} (h : ¬ dirL l = 1) : upT l ((l.length : Int) - 1) = false := by
  cases hu : upT l ((l.length : Int) - 1) with
  | true => exact absurd (dir_up hu) h
  | false => rfl
theorem at_mono {c : Crv} (hX : c.gX_l.length = c.gX_n) (hY : c.gY_l.length = c.gX_n) (hv : validV c = true) (hd : dirV c = 1) {x y : Int} (h : x ≤ y) : atV c x ≤ atV c y := by
  rw [at_good hv, at_good hv]; rw [dir_good hv] at hd; exact value_mono_c hX hY hv (dir_one.1 hd) h
theorem at_anti {c : Crv} (hX : c.gX_l.length = c.gX_n) (hY : c.gY_l.length = c.gX_n) (hv : validV c = true) (hd : dirV c = -1) {x y : Int} (h : x ≤ y) : atV c y ≤ atV c x := by
  rw [at_good hv, at_good hv]; rw [dir_good hv] at hd; exact value_anti_c hX hY hv (dir_neg hd).2 h
/-- the inverse of a value -/
theorem undone {c : Crv} (hX : c.gX_l.length = c.gX_n) (hY : c.gY_l.length = c.gX_n) (hv : validV c = true) (hd : dirV c = 1) (x : Int) :
    civE c (atV c x) = 0 ∧ atV c (civX c (atV c x)) = atV c x ∧ (civX c (atV c x) ≤ x ∨ civX c (atV c x) = c.gX_l.getD 0 0) := by
  have hl := (axis_facts (validV_facts hv).2.1).1
  have hm := axis_mono (validV_facts hv).2.1 (show 0 < ((c.gX_n : Int) - 1).toNat by omega) (by omega)
  have hd' := hd; rw [dir_good hv] at hd'
  obtain ⟨k1, k2, k3, k4⟩ := civ_cases hX hv hd' (atV c x)
  have htop : atV c x ≤ c.gY_l.getD ((c.gX_n : Int) - 1).toNat 0 := by
    have h1 := at_mono hX hY hv hd (show x ≤ max x (c.gX_l.getD ((c.gX_n : Int) - 1).toNat 0) by omega)
    rw [at_last hX hv (x := max x (c.gX_l.getD ((c.gX_n : Int) - 1).toNat 0)) (by omega)] at h1; exact h1
  have hE : civE c (atV c x) = 0 := by
    rcases k1 with h | h
    · exact h
    · have := k2 h; omega
  obtain ⟨m1, m2, m3, m4⟩ := k4 hE
  have hor : civX c (atV c x) ≤ x ∨ civX c (atV c x) = c.gX_l.getD 0 0 := by
    rcases m4 with h | h
    · exact .inr h
    · left
      by_cases e : civX c (atV c x) ≤ x
      · exact e
      · have := at_mono hX hY hv hd (show x ≤ civX c (atV c x) - 1 by omega)
        rw [at_good hv (civX c (atV c x) - 1)] at this; omega
  refine ⟨hE, ?_, hor⟩
  rw [← at_good hv] at m3
  rcases hor with h | h
  · have := at_mono hX hY hv hd h; omega
  · by_cases e : civX c (atV c x) ≤ x
    · have := at_mono hX hY hv hd e; omega
    · have h1 := at_first hv (x := x) (by omega)
      have h2 := at_first hv (x := civX c (atV c x)) (by omega)
      omega
theorem inv_at {c : Crv} (hX : c.gX_l.length = c.gX_n) (hv : validV c = true) (hd : dirV c = 1) {y : Int} (h : civE c y = 0) :
    y ≤ atV c (civX c y) ∧ c.gX_l.getD 0 0 ≤ civX c y ∧ civX c y ≤ c.gX_l.getD ((c.gX_n : Int) - 1).toNat 0 ∧ (c.gX_l.getD 0 0 < civX c y → atV c (civX c y - 1) < y) := by
  rw [dir_good hv] at hd
  obtain ⟨k1, k2, k3, k4⟩ := civ_cases hX hv hd y
  obtain ⟨m1, m2, m3, m4⟩ := k4 h
  rw [at_good hv, at_good hv]
  exact ⟨m3, m1, m2, fun h => by rcases m4 with h2 | h2 <;> omega⟩
theorem inv_no {c : Crv} (hv : validV c = true) (hd : ¬ dirV c = 1) (y : Int) : civE c y = 6 ∧ civX c y = 0 := by
  rw [dir_good hv] at hd; exact civ2 hv hd
theorem inv_high {c : Crv} (hX : c.gX_l.length = c.gX_n) (hv : validV c = true) (hd : dirV c = 1) {y : Int} (h : ¬ civE c y = 0) : civE c y = 2 ∧ c.gY_l.getD ((c.gX_n : Int) - 1).toNat 0 < y := by
  rw [dir_good hv] at hd
  obtain ⟨k1, k2, k3, k4⟩ := civ_cases hX hv hd y
  rcases k1 with h1 | h1
  · exact absurd h1 h
  · exact ⟨h1, k2 h1⟩
theorem cov_facts {c : Crv} (hX : c.gX_l.length = c.gX_n) (hv : validV c = true) {a b : Int} (h : a ≤ b) : covE c a b = 0 ∧ (∀ x, a ≤ x → x ≤ b → covL c a b ≤ atV c x ∧ atV c x ≤ covH c a b) ∧ covL c a b ≤ covH c a b := by
  obtain ⟨e1, e2, e3⟩ := cov_yes (c := c) hv h
  have l := ovLo_is hX hv h
  have u := ovHi_is hX hv h
  rw [e2, e3]
  refine ⟨e1, fun x h1 h2 => by rw [at_good hv]; exact ⟨l.2 x h1 h2, u.2 x h1 h2⟩, ?_⟩
  have := l.2 a (Int.le_refl _) h; have := u.2 a (Int.le_refl _) h; omega
theorem cov_join {c : Crv} (hX : c.gX_l.length = c.gX_n) (hv : validV c = true) {a x b : Int} (h1 : a ≤ x) (h2 : x ≤ b) : covL c a b = min (covL c a x) (covL c x b) ∧ covH c a b = max (covH c a x) (covH c x b) := by
  obtain ⟨_, e2, e3⟩ := cov_yes (c := c) hv (Int.le_trans h1 h2)
  obtain ⟨_, f2, f3⟩ := cov_yes (c := c) hv h1
  obtain ⟨_, g2, g3⟩ := cov_yes (c := c) hv h2
  rw [e2, e3, f2, f3, g2, g3]
  exact ⟨(ovLo_is hX hv (Int.le_trans h1 h2)).eq (isLo_join h1 h2 (ovLo_is hX hv h1) (ovLo_is hX hv h2)), (ovHi_is hX hv (Int.le_trans h1 h2)).eq (isHi_join h1 h2 (ovHi_is hX hv h1) (ovHi_is hX hv h2))⟩
theorem cov_out {c : Crv} (hv : validV c = true) {a b : Int} (h : ¬ covE c a b = 0) : a > b := by
  by_cases e : a ≤ b
  · exact absurd (cov_yes (c := c) hv e).1 h
  · omega
theorem cov_in {c : Crv} {a b : Int} (h : covE c a b = 0) : a ≤ b := by
  unfold covE at h
  split at h
  · rename_i h1; exact h1.2
  · omega

end Go.Proofs.YtdilhoibcbihlaaDoor
