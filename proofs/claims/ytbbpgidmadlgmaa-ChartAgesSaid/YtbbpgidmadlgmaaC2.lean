/- Walks of functions of this seat, printed by a program over the engine. Conditions: as each theorem says. -/
import Derived.Test.YtbbpgidmadlgmaaC1
namespace Go.Proofs.Ytbbpgidmadlgmaa
open Go.Eng Go.RowKit
set_option linter.unusedSimpArgs false
set_option linter.unusedVariables false
theorem valid_bad {c : Cht} {i : Int} (h0 : 0 ≤ i) (h : i < (c.gMoves_l.length : Int)) (hm : mvB c.gStates_n (2 ^ c.gInputs_n - 1) (c.gMoves_l.getD i.toNat (⟨0, 0, 0, 0, 0⟩ : Mv)) = false) : validC c = false := by
  have : c.gMoves_l.all (mvB c.gStates_n (maskF c)) = false := by
    rw [List.all_eq_false]
    refine ⟨c.gMoves_l.getD i.toNat (⟨0, 0, 0, 0, 0⟩ : Mv), ?_, by unfold maskF; rw [hm]; simp⟩
    have hi : i.toNat < c.gMoves_l.length := by omega
    rw [List.getD_eq_getElem?_getD, List.getElem?_eq_getElem hi]; exact List.getElem_mem hi
  unfold validC; rw [this]; simp
theorem all_moves {c : Cht} {q : Mv → Bool} (h : ∀ j, j < c.gMoves_l.length → q (c.gMoves_l.getD j (⟨0, 0, 0, 0, 0⟩ : Mv)) = true) : c.gMoves_l.all q = true := by
  rw [List.all_eq_true]
  intro x hx
  obtain ⟨j, hj, rfl⟩ := List.mem_iff_getElem.1 hx
  have := h j hj
  simpa [List.getD, hj] using this
theorem hb20 : HasBody Try.prog 20 := fun _ _ => by kernel_rfl
noncomputable def K20_0 : List Item := adv 2 [] (bodyOf Try.f20)
noncomputable def K20_1 : List Item := adv 6 [] (popK K20_0)
noncomputable def K20_2 : List Item := adv 3 [] (popK K20_1)
noncomputable def K20_3 : List Item := adv 48 [true] K20_2
noncomputable def K20_4 : List Item := adv 1 [] K20_2
noncomputable def K20_5 : List Item := adv 4 [] (popK K20_4)
noncomputable def K20_6 : List Item := adv 42 [true] K20_5
noncomputable def K20_7 : List Item := adv 1 [] K20_5
noncomputable def K20_8 : List Item := adv 4 [] (popK K20_7)
noncomputable def K20_9 : List Item := adv 36 [true] K20_8
noncomputable def K20_10 : List Item := adv 1 [] K20_8
noncomputable def K20_11 : List Item := adv 3 [] (popK (popK K20_10))
noncomputable def K20_12 : List Item := adv 1 [] K20_11
noncomputable def K20_13 : List Item := adv 3 [] (popK (popK K20_12))
noncomputable def K20_14 : List Item := adv 1 [] K20_13
noncomputable def K20_15 : List Item := adv 3 [] (popK K20_14)
noncomputable def K20_16 : List Item := adv 19 [true] K20_15
noncomputable def K20_17 : List Item := adv 1 [] K20_15
noncomputable def K20_18 : List Item := adv 1 [] (popK K20_17)
noncomputable def K20_19 : List Item := adv 4 [] (popK K20_18)
noncomputable def K20_20 : List Item := adv 11 [true] K20_19
noncomputable def K20_21 : List Item := adv 1 [] K20_19
noncomputable def K20_22 : List Item := adv 4 [] (popK K20_21)
noncomputable def K20_23 : List Item := adv 5 [true] K20_22
noncomputable def K20_24 : List Item := adv 5 [false] K20_22
noncomputable def K20_25 : List Item := adv 1 [] (popK K20_24)
noncomputable def K20_26 : List Item := adv 1 [] (popK K20_25)
noncomputable def K20_27 : List Item := adv 9 [] K20_26
noncomputable def K20_28 : List Item := adv 5 [] K20_27
noncomputable def K20_29 : List Item := adv 3 [] (popK K20_28)
noncomputable def K20_30 : List Item := adv 7 [true] K20_29
noncomputable def K20_31 : List Item := adv 1 [] (popK K20_30)
noncomputable def K20_32 : List Item := adv 4 [] (popK (popK (popK (popK K20_31))))
noncomputable def K20_33 : List Item := adv 2 [] (popK K20_32)
noncomputable def K20_34 : List Item := adv 66 [true] K20_33
noncomputable def K20_35 : List Item := adv 1 [] K20_33
noncomputable def K20_36 : List Item := adv 1 [] (popK K20_35)
noncomputable def K20_37 : List Item := adv 4 [] (popK K20_36)
noncomputable def K20_38 : List Item := adv 58 [true] K20_37
noncomputable def K20_39 : List Item := adv 1 [] K20_37
noncomputable def K20_40 : List Item := adv 3 [] (popK K20_39)
noncomputable def K20_41 : List Item := adv 53 [true] K20_40
noncomputable def K20_42 : List Item := adv 1 [] K20_40
noncomputable def K20_43 : List Item := adv 1 [] (popK K20_42)
noncomputable def K20_44 : List Item := adv 4 [] (popK K20_43)
noncomputable def K20_45 : List Item := adv 45 [true] K20_44
noncomputable def K20_46 : List Item := adv 1 [] K20_44
noncomputable def K20_47 : List Item := adv 3 [] (popK K20_46)
noncomputable def K20_48 : List Item := adv 40 [true] K20_47
noncomputable def K20_49 : List Item := adv 1 [] K20_47
noncomputable def K20_50 : List Item := adv 4 [] (popK K20_49)
noncomputable def K20_51 : List Item := adv 34 [true] K20_50
noncomputable def K20_52 : List Item := adv 1 [] K20_50
noncomputable def K20_53 : List Item := adv 3 [] (popK K20_52)
noncomputable def K20_54 : List Item := adv 29 [true] K20_53
noncomputable def K20_55 : List Item := adv 1 [] K20_53
noncomputable def K20_56 : List Item := adv 4 [] (popK K20_55)
noncomputable def K20_57 : List Item := adv 23 [true] K20_56
noncomputable def K20_58 : List Item := adv 1 [] K20_56
noncomputable def K20_59 : List Item := adv 1 [] (popK K20_58)
noncomputable def K20_60 : List Item := adv 1 [] (popK K20_59)
noncomputable def K20_61 : List Item := adv 3 [] K20_60
noncomputable def K20_62 : List Item := adv 1 [] K20_61
noncomputable def K20_63 : List Item := adv 3 [] (popK K20_62)
noncomputable def K20_64 : List Item := adv 10 [true] K20_63
noncomputable def K20_65 : List Item := adv 1 [] K20_63
noncomputable def K20_66 : List Item := adv 3 [] (popK K20_65)
noncomputable def K20_67 : List Item := adv 5 [true] K20_66
noncomputable def K20_68 : List Item := adv 6 [false] K20_66
noncomputable def K20_69 : List Item := adv 15 [true] K20_61
noncomputable def K20_70 : List Item := adv 6 [false] K20_29
noncomputable def K20_71 : List Item := adv 24 [true] K20_13
noncomputable def K20_72 : List Item := adv 30 [true] K20_11
set_option maxRecDepth 20000 in
set_option maxHeartbeats 20000000 in
theorem rvalid_any (c : Cht) (w : World) (hc : chtQ w c) : Ret Try.prog 20 #[.agg #[.slice c.gStates_a c.gStates_n c.gStates_c, .slice c.gInputs_a c.gInputs_n c.gInputs_c, .int .i64 c.gStart, .slice c.gMoves_a c.gMoves_n c.gMoves_c]] w (fun v w' => v = .bool (validC c) ∧ Sep w [] w') := by
  have S0 := Sep.refl w
  refine Ret.named fun R hR => ?_
  refine Ret.of_J (N := 134) [(0, .agg #[.slice c.gStates_a c.gStates_n c.gStates_c, .slice c.gInputs_a c.gInputs_n c.gInputs_c, .int .i64 c.gStart, .slice c.gMoves_a c.gMoves_n c.gMoves_c])] Try.func20 rfl rfl (Nat.le_of_ble_eq_true (by kernel_rfl)) (by kernel_rfl) ?_
  obtain ⟨q1, q2, q3, q4, q5, q6, q7, q8, q9, q10, _⟩ := id hc
  have ql1 := q2.len_eq
  have ql2 := q5.len_eq
  have ql3 := q9.len_eq
  refine J.run 2 K20_0 [(0, .agg #[.slice c.gStates_a c.gStates_n c.gStates_c, .slice c.gInputs_a c.gInputs_n c.gInputs_c, .int .i64 c.gStart, .slice c.gMoves_a c.gMoves_n c.gMoves_c])] w (by kernel_rfl) ?_
  refine J.new S0 1 [.slice c.gStates_a c.gStates_n c.gStates_c, .slice c.gInputs_a c.gInputs_n c.gInputs_c, .int .i64 c.gStart, .slice c.gMoves_a c.gMoves_n c.gMoves_c] 25 (by kernel_rfl) ?_
  intro b1 w1 S1
  refine J.run 6 K20_1 [(6, .pointer (some ⟨b1, 0, none⟩)), (1, .pointer (some ⟨b1, 0, none⟩))] w1 (by kernel_rfl) ?_
  refine J.ok (OK.ldBox S1 0 7 22 0 (.slice c.gStates_a c.gStates_n c.gStates_c) (by kernel_rfl) rfl (by kernel_rfl)) ?_
  refine J.run 3 K20_2 [(10, .bool (decide ((c.gStates_n : Int) < 1))), (1, .pointer (some ⟨b1, 0, none⟩))] w1 (by kernel_rfl) ?_
  by_cases fk1 : (c.gStates_n : Int) < 1
  · skip
    refine J.head (.bool true) (congrArg Value.bool (decide_eq_true fk1)) ?_
    refine J.run 48 K20_3 [(2, .bool false)] w1 (by kernel_rfl) ?_
    refine J.ret Try.f20 [.bool false] Try.func20 ⟨by kernel_rfl, trivial⟩ ?_
    refine hR _ _ ?_
    exact ⟨congrArg Value.bool (by rw [Bool.eq_iff_iff]; first | (simp [validC, maskF, any_not_all, fk1]; done) | (simp [validC, maskF, any_not_all, fk1]; omega) | (simp [validC, maskF, fk1]; intros; omega)), S1.nil⟩
  · skip
    refine J.head (.bool false) (congrArg Value.bool (decide_eq_false fk1)) ?_
    refine J.run 1 K20_4 [(11, .pointer (some ⟨b1, 0, none⟩)), (10, .bool false), (1, .pointer (some ⟨b1, 0, none⟩))] w1 (by kernel_rfl) ?_
    refine J.ok (OK.ldBox S1 0 12 22 0 (.slice c.gStates_a c.gStates_n c.gStates_c) (by kernel_rfl) rfl (by kernel_rfl)) ?_
    refine J.run 4 K20_5 [(16, .bool (decide ((c.gStates_n : Int) > 20))), (1, .pointer (some ⟨b1, 0, none⟩))] w1 (by kernel_rfl) ?_
    by_cases fk2 : (c.gStates_n : Int) > 20
    · skip
      refine J.head (.bool true) (congrArg Value.bool (decide_eq_true fk2)) ?_
      refine J.run 42 K20_6 [(2, .bool false)] w1 (by kernel_rfl) ?_
      refine J.ret Try.f20 [.bool false] Try.func20 ⟨by kernel_rfl, trivial⟩ ?_
      refine hR _ _ ?_
      exact ⟨congrArg Value.bool (by rw [Bool.eq_iff_iff]; first | (simp [validC, maskF, any_not_all, fk1, fk2]; done) | (simp [validC, maskF, any_not_all, fk1, fk2]; omega) | (simp [validC, maskF, fk1, fk2]; intros; omega)), S1.nil⟩
    · skip
      refine J.head (.bool false) (congrArg Value.bool (decide_eq_false fk2)) ?_
      refine J.run 1 K20_7 [(17, .pointer (some ⟨b1, 1, none⟩)), (16, .bool false), (1, .pointer (some ⟨b1, 0, none⟩))] w1 (by kernel_rfl) ?_
      refine J.ok (OK.ldBox S1 0 18 22 1 (.slice c.gInputs_a c.gInputs_n c.gInputs_c) (by kernel_rfl) rfl (by kernel_rfl)) ?_
      refine J.run 4 K20_8 [(22, .bool (decide ((c.gInputs_n : Int) > 10))), (1, .pointer (some ⟨b1, 0, none⟩))] w1 (by kernel_rfl) ?_
      by_cases fk3 : (c.gInputs_n : Int) > 10
      · skip
        refine J.head (.bool true) (congrArg Value.bool (decide_eq_true fk3)) ?_
        refine J.run 36 K20_9 [(2, .bool false)] w1 (by kernel_rfl) ?_
        refine J.ret Try.f20 [.bool false] Try.func20 ⟨by kernel_rfl, trivial⟩ ?_
        refine hR _ _ ?_
        exact ⟨congrArg Value.bool (by rw [Bool.eq_iff_iff]; first | (simp [validC, maskF, any_not_all, fk1, fk2, fk3]; done) | (simp [validC, maskF, any_not_all, fk1, fk2, fk3]; omega) | (simp [validC, maskF, fk1, fk2, fk3]; intros; omega)), S1.nil⟩
      · skip
        refine J.head (.bool false) (congrArg Value.bool (decide_eq_false fk3)) ?_
        refine J.run 1 K20_10 [(23, .pointer (some ⟨b1, 0, none⟩)), (22, .bool false), (1, .pointer (some ⟨b1, 0, none⟩))] w1 (by kernel_rfl) ?_
        refine J.ok (OK.ldBox S1 0 24 22 0 (.slice c.gStates_a c.gStates_n c.gStates_c) (by kernel_rfl) rfl (by kernel_rfl)) ?_
        refine J.callF 25 40 #[.slice c.gStates_a c.gStates_n c.gStates_c] hb40 (by kernel_rfl) (rnames_any c.gStates_a c.gStates_n c.gStates_c c.gStates_l _ (q2.sep S1) (by omega) (by omega) q3) ?_
        rintro _ w2 ⟨rfl, T1⟩
        have S2 : Sep w [box b1 [.slice c.gStates_a c.gStates_n c.gStates_c, .slice c.gInputs_a c.gInputs_n c.gInputs_c, .int .i64 c.gStart, .slice c.gMoves_a c.gMoves_n c.gMoves_c] 25] w2 := S1.trans T1
        clear T1 S1
        refine J.run 3 K20_11 [(28, .bool (!(namesB c.gStates_l))), (1, .pointer (some ⟨b1, 0, none⟩))] w2 (by kernel_rfl) ?_
        rcases Bool.eq_false_or_eq_true (namesB c.gStates_l) with fk4 | fk4
        · skip
          refine J.head (.bool false) (congrArg Value.bool (by rw [fk4]; rfl)) ?_
          refine J.run 1 K20_12 [(29, .pointer (some ⟨b1, 1, none⟩)), (28, .bool false), (1, .pointer (some ⟨b1, 0, none⟩))] w2 (by kernel_rfl) ?_
          refine J.ok (OK.ldBox S2 0 30 22 1 (.slice c.gInputs_a c.gInputs_n c.gInputs_c) (by kernel_rfl) rfl (by kernel_rfl)) ?_
          refine J.callF 31 40 #[.slice c.gInputs_a c.gInputs_n c.gInputs_c] hb40 (by kernel_rfl) (rnames_any c.gInputs_a c.gInputs_n c.gInputs_c c.gInputs_l _ (q5.sep S2) (by omega) (by omega) q6) ?_
          rintro _ w3 ⟨rfl, T2⟩
          have S3 : Sep w [box b1 [.slice c.gStates_a c.gStates_n c.gStates_c, .slice c.gInputs_a c.gInputs_n c.gInputs_c, .int .i64 c.gStart, .slice c.gMoves_a c.gMoves_n c.gMoves_c] 25] w3 := S2.trans T2
          clear T2 S2
          refine J.run 3 K20_13 [(34, .bool (!(namesB c.gInputs_l))), (1, .pointer (some ⟨b1, 0, none⟩))] w3 (by kernel_rfl) ?_
          rcases Bool.eq_false_or_eq_true (namesB c.gInputs_l) with fk5 | fk5
          · skip
            refine J.head (.bool false) (congrArg Value.bool (by rw [fk5]; rfl)) ?_
            refine J.run 1 K20_14 [(35, .pointer (some ⟨b1, 2, none⟩)), (34, .bool false), (1, .pointer (some ⟨b1, 0, none⟩))] w3 (by kernel_rfl) ?_
            refine J.ok (OK.ldBox S3 0 36 3 2 (.int .i64 c.gStart) (by kernel_rfl) rfl (by kernel_rfl)) ?_
            refine J.run 3 K20_15 [(39, .bool (decide (c.gStart < 0))), (1, .pointer (some ⟨b1, 0, none⟩))] w3 (by kernel_rfl) ?_
            by_cases fk6 : c.gStart < 0
            · skip
              refine J.head (.bool true) (congrArg Value.bool (decide_eq_true fk6)) ?_
              refine J.run 19 K20_16 [(2, .bool false)] w3 (by kernel_rfl) ?_
              refine J.ret Try.f20 [.bool false] Try.func20 ⟨by kernel_rfl, trivial⟩ ?_
              refine hR _ _ ?_
              exact ⟨congrArg Value.bool (by rw [Bool.eq_iff_iff]; first | (simp [validC, maskF, any_not_all, fk1, fk2, fk3, fk4, fk5, fk6]; done) | (simp [validC, maskF, any_not_all, fk1, fk2, fk3, fk4, fk5, fk6]; omega) | (simp [validC, maskF, fk1, fk2, fk3, fk4, fk5, fk6]; intros; omega)), S3.nil⟩
            · skip
              refine J.head (.bool false) (congrArg Value.bool (decide_eq_false fk6)) ?_
              refine J.run 1 K20_17 [(40, .pointer (some ⟨b1, 2, none⟩)), (39, .bool false), (1, .pointer (some ⟨b1, 0, none⟩))] w3 (by kernel_rfl) ?_
              refine J.ok (OK.ldBox S3 0 41 3 2 (.int .i64 c.gStart) (by kernel_rfl) rfl (by kernel_rfl)) ?_
              refine J.run 1 K20_18 [(42, .pointer (some ⟨b1, 0, none⟩)), (41, .int .i64 c.gStart), (39, .bool false), (1, .pointer (some ⟨b1, 0, none⟩))] w3 (by kernel_rfl) ?_
              refine J.ok (OK.ldBox S3 0 43 22 0 (.slice c.gStates_a c.gStates_n c.gStates_c) (by kernel_rfl) rfl (by kernel_rfl)) ?_
              refine J.run 4 K20_19 [(47, .bool (decide (c.gStart ≥ (c.gStates_n : Int)))), (1, .pointer (some ⟨b1, 0, none⟩))] w3 (by kernel_rfl) ?_
              by_cases fk7 : c.gStart ≥ (c.gStates_n : Int)
              · skip
                refine J.head (.bool true) (congrArg Value.bool (decide_eq_true fk7)) ?_
                refine J.run 11 K20_20 [(2, .bool false)] w3 (by kernel_rfl) ?_
                refine J.ret Try.f20 [.bool false] Try.func20 ⟨by kernel_rfl, trivial⟩ ?_
                refine hR _ _ ?_
                exact ⟨congrArg Value.bool (by rw [Bool.eq_iff_iff]; first | (simp [validC, maskF, any_not_all, fk1, fk2, fk3, fk4, fk5, fk6, fk7]; done) | (simp [validC, maskF, any_not_all, fk1, fk2, fk3, fk4, fk5, fk6, fk7]; omega) | (simp [validC, maskF, fk1, fk2, fk3, fk4, fk5, fk6, fk7]; intros; omega)), S3.nil⟩
              · skip
                refine J.head (.bool false) (congrArg Value.bool (decide_eq_false fk7)) ?_
                refine J.run 1 K20_21 [(48, .pointer (some ⟨b1, 3, none⟩)), (47, .bool false), (1, .pointer (some ⟨b1, 0, none⟩))] w3 (by kernel_rfl) ?_
                refine J.ok (OK.ldBox S3 0 49 23 3 (.slice c.gMoves_a c.gMoves_n c.gMoves_c) (by kernel_rfl) rfl (by kernel_rfl)) ?_
                refine J.run 4 K20_22 [(52, .bool (decide ((c.gMoves_n : Int) > 100))), (1, .pointer (some ⟨b1, 0, none⟩))] w3 (by kernel_rfl) ?_
                by_cases fk8 : (c.gMoves_n : Int) > 100
                · skip
                  refine J.head (.bool true) (congrArg Value.bool (decide_eq_true fk8)) ?_
                  refine J.run 5 K20_23 [(2, .bool false)] w3 (by kernel_rfl) ?_
                  refine J.ret Try.f20 [.bool false] Try.func20 ⟨by kernel_rfl, trivial⟩ ?_
                  refine hR _ _ ?_
                  exact ⟨congrArg Value.bool (by rw [Bool.eq_iff_iff]; first | (simp [validC, maskF, any_not_all, fk1, fk2, fk3, fk4, fk5, fk6, fk7, fk8]; done) | (simp [validC, maskF, any_not_all, fk1, fk2, fk3, fk4, fk5, fk6, fk7, fk8]; omega) | (simp [validC, maskF, fk1, fk2, fk3, fk4, fk5, fk6, fk7, fk8]; intros; omega)), S3.nil⟩
                · skip
                  refine J.head (.bool false) (congrArg Value.bool (decide_eq_false fk8)) ?_
                  refine J.run 5 K20_24 [(53, .pointer (some ⟨b1, 1, none⟩)), (1, .pointer (some ⟨b1, 0, none⟩))] w3 (by kernel_rfl) ?_
                  refine J.ok (OK.ldBox S3 0 54 22 1 (.slice c.gInputs_a c.gInputs_n c.gInputs_c) (by kernel_rfl) rfl (by kernel_rfl)) ?_
                  refine J.run 1 K20_25 [(55, .int .i64 (c.gInputs_n : Int)), (1, .pointer (some ⟨b1, 0, none⟩))] w3 (by kernel_rfl) ?_
                  have := pow10 (n := c.gInputs_n) (by omega)
                  refine J.ok (OK.shl 56 .i64 1 (c.gInputs_n : Int) (2 ^ c.gInputs_n) (by kernel_rfl) (by omega) (shl_one rfl (by omega))) ?_
                  refine J.run 1 K20_26 [(57, .int .i64 (IntKind.wrap .i64 ((2 ^ c.gInputs_n) - 1))), (1, .pointer (some ⟨b1, 0, none⟩))] w3 (by kernel_rfl) ?_
                  refine J.head (.int .i64 ((2 ^ c.gInputs_n) - 1)) (congrArg (Value.int .i64) (IntWalk.i64_in _ (by omega))) ?_
                  refine J.run 9 K20_27 [(4, .int .i64 0), (3, .int .i64 ((2 ^ c.gInputs_n) - 1)), (1, .pointer (some ⟨b1, 0, none⟩))] w3 (by kernel_rfl) ?_
                  have L20_1 : ∀ (m : Nat) (i : Int) (w4 : World), (0 ≤ i) → (i ≤ (c.gMoves_n : Int)) → (∀ j, j < (i).toNat → mvB c.gStates_n (2 ^ c.gInputs_n - 1) (c.gMoves_l.getD j (⟨0, 0, 0, 0, 0⟩ : Mv)) = true) → Sep w [box b1 [.slice c.gStates_a c.gStates_n c.gStates_c, .slice c.gInputs_a c.gInputs_n c.gInputs_c, .int .i64 c.gStart, .slice c.gMoves_a c.gMoves_n c.gMoves_c] 25] w4 → ((c.gMoves_n : Int) - i).toNat = m → J Try.prog 20 134 R K20_27 [(4, .int .i64 i), (3, .int .i64 ((2 ^ c.gInputs_n) - 1)), (1, .pointer (some ⟨b1, 0, none⟩))] w4 := by
                    intro m
                    induction m using Nat.strongRecOn with
                    | _ m ih1 =>
                    intro i w4 h0 h1 hq S4 hm1
                    refine J.run 5 K20_28 [(59, .pointer (some ⟨b1, 3, none⟩)), (58, .int .i64 i), (4, .int .i64 i), (3, .int .i64 ((2 ^ c.gInputs_n) - 1)), (1, .pointer (some ⟨b1, 0, none⟩))] w4 (by kernel_rfl) ?_
                    refine J.ok (OK.ldBox S4 0 60 23 3 (.slice c.gMoves_a c.gMoves_n c.gMoves_c) (by kernel_rfl) rfl (by kernel_rfl)) ?_
                    refine J.run 3 K20_29 [(62, .bool (decide (i < (c.gMoves_n : Int)))), (4, .int .i64 i), (3, .int .i64 ((2 ^ c.gInputs_n) - 1)), (1, .pointer (some ⟨b1, 0, none⟩))] w4 (by kernel_rfl) ?_
                    by_cases fk9 : i < (c.gMoves_n : Int)
                    · skip
                      refine J.head (.bool true) (congrArg Value.bool (decide_eq_true fk9)) ?_
                      refine J.run 7 K20_30 [(65, .pointer (some ⟨b1, 3, none⟩)), (4, .int .i64 i), (3, .int .i64 ((2 ^ c.gInputs_n) - 1)), (1, .pointer (some ⟨b1, 0, none⟩))] w4 (by kernel_rfl) ?_
                      refine J.ok (OK.ldBox S4 0 66 23 3 (.slice c.gMoves_a c.gMoves_n c.gMoves_c) (by kernel_rfl) rfl (by kernel_rfl)) ?_
                      refine J.run 1 K20_31 [(67, .int .i64 i), (66, .slice c.gMoves_a c.gMoves_n c.gMoves_c), (4, .int .i64 i), (3, .int .i64 ((2 ^ c.gInputs_n) - 1)), (1, .pointer (some ⟨b1, 0, none⟩))] w4 (by kernel_rfl) ?_
                      obtain ⟨p1, hp1, hc1⟩ := q9.at (⟨0, 0, 0, 0, 0⟩ : Mv) (i).toNat (by omega)
                      have hq1 := getD_Q q10 (⟨0, 0, 0, 0, 0⟩ : Mv) (n := (i).toNat) (by have := q9.len_eq; omega)
                      obtain ⟨q11, q12, q13, q14, q15, _⟩ := id hq1
                      refine J.ok (OK.index 68 23 5 c.gMoves_a p1 c.gMoves_n (i).toNat i (p1.add ((i).toNat * 5)) (by kernel_rfl) (by kernel_rfl) hp1 (by omega) (by omega) rfl) ?_
                      refine J.ok (OK.ldCells 69 42 (p1.add ((i).toNat * 5)) [.int .i64 ((c.gMoves_l.getD (i).toNat (⟨0, 0, 0, 0, 0⟩ : Mv)).gFrom), .int .i64 ((c.gMoves_l.getD (i).toNat (⟨0, 0, 0, 0, 0⟩ : Mv)).gTo), .int .i64 ((c.gMoves_l.getD (i).toNat (⟨0, 0, 0, 0, 0⟩ : Mv)).gOn), .int .i64 ((c.gMoves_l.getD (i).toNat (⟨0, 0, 0, 0, 0⟩ : Mv)).gOff), .int .i64 ((c.gMoves_l.getD (i).toNat (⟨0, 0, 0, 0, 0⟩ : Mv)).gAfter)] (by kernel_rfl) (by kernel_rfl) (by kernel_rfl) (fun j_ v_ hj_ => S4.cell (hc1 j_ v_ hj_))) ?_
                      refine J.new S4 5 [.int .i64 0, .int .i64 0, .int .i64 0, .int .i64 0, .int .i64 0] 42 (by kernel_rfl) ?_
                      intro b2 w5 S5
                      refine J.stBox S5 0 42 0 (.agg #[.int .i64 ((c.gMoves_l.getD (i).toNat (⟨0, 0, 0, 0, 0⟩ : Mv)).gFrom), .int .i64 ((c.gMoves_l.getD (i).toNat (⟨0, 0, 0, 0, 0⟩ : Mv)).gTo), .int .i64 ((c.gMoves_l.getD (i).toNat (⟨0, 0, 0, 0, 0⟩ : Mv)).gOn), .int .i64 ((c.gMoves_l.getD (i).toNat (⟨0, 0, 0, 0, 0⟩ : Mv)).gOff), .int .i64 ((c.gMoves_l.getD (i).toNat (⟨0, 0, 0, 0, 0⟩ : Mv)).gAfter)]) [.int .i64 ((c.gMoves_l.getD (i).toNat (⟨0, 0, 0, 0, 0⟩ : Mv)).gFrom), .int .i64 ((c.gMoves_l.getD (i).toNat (⟨0, 0, 0, 0, 0⟩ : Mv)).gTo), .int .i64 ((c.gMoves_l.getD (i).toNat (⟨0, 0, 0, 0, 0⟩ : Mv)).gOn), .int .i64 ((c.gMoves_l.getD (i).toNat (⟨0, 0, 0, 0, 0⟩ : Mv)).gOff), .int .i64 ((c.gMoves_l.getD (i).toNat (⟨0, 0, 0, 0, 0⟩ : Mv)).gAfter)] [box b2 [.int .i64 ((c.gMoves_l.getD (i).toNat (⟨0, 0, 0, 0, 0⟩ : Mv)).gFrom), .int .i64 ((c.gMoves_l.getD (i).toNat (⟨0, 0, 0, 0, 0⟩ : Mv)).gTo), .int .i64 ((c.gMoves_l.getD (i).toNat (⟨0, 0, 0, 0, 0⟩ : Mv)).gOn), .int .i64 ((c.gMoves_l.getD (i).toNat (⟨0, 0, 0, 0, 0⟩ : Mv)).gOff), .int .i64 ((c.gMoves_l.getD (i).toNat (⟨0, 0, 0, 0, 0⟩ : Mv)).gAfter)] 42, box b1 [.slice c.gStates_a c.gStates_n c.gStates_c, .slice c.gInputs_a c.gInputs_n c.gInputs_c, .int .i64 c.gStart, .slice c.gMoves_a c.gMoves_n c.gMoves_c] 25] (by kernel_rfl) rfl (by kernel_rfl) (by kernel_rfl) rfl ?_
                      intro w6 S6
                      refine J.run 4 K20_32 [(70, .pointer (some ⟨b2, 0, none⟩)), (5, .pointer (some ⟨b2, 0, none⟩)), (4, .int .i64 i), (3, .int .i64 ((2 ^ c.gInputs_n) - 1)), (1, .pointer (some ⟨b1, 0, none⟩))] w6 (by kernel_rfl) ?_
                      refine J.ok (OK.ldBox S6 0 71 3 0 (.int .i64 ((c.gMoves_l.getD (i).toNat (⟨0, 0, 0, 0, 0⟩ : Mv)).gFrom)) (by kernel_rfl) rfl (by kernel_rfl)) ?_
                      refine J.run 2 K20_33 [(73, .bool (decide (((c.gMoves_l.getD (i).toNat (⟨0, 0, 0, 0, 0⟩ : Mv)).gFrom) < 0))), (5, .pointer (some ⟨b2, 0, none⟩)), (4, .int .i64 i), (3, .int .i64 ((2 ^ c.gInputs_n) - 1)), (1, .pointer (some ⟨b1, 0, none⟩))] w6 (by kernel_rfl) ?_
                      by_cases fk10 : ((c.gMoves_l.getD (i).toNat (⟨0, 0, 0, 0, 0⟩ : Mv)).gFrom) < 0
                      · skip
                        refine J.head (.bool true) (congrArg Value.bool (decide_eq_true fk10)) ?_
                        refine J.run 66 K20_34 [(2, .bool false)] w6 (by kernel_rfl) ?_
                        refine J.ret Try.f20 [.bool false] Try.func20 ⟨by kernel_rfl, trivial⟩ ?_
                        refine hR _ _ ?_
                        exact ⟨congrArg Value.bool (valid_bad h0 (by omega) (by rw [Bool.eq_iff_iff]; simp only [mvB, Bool.and_eq_true, decide_eq_true_eq, beq_iff_eq, Bool.false_eq_true, iff_false]; omega)).symm, S6.nil⟩
                      · skip
                        refine J.head (.bool false) (congrArg Value.bool (decide_eq_false fk10)) ?_
                        refine J.run 1 K20_35 [(74, .pointer (some ⟨b2, 0, none⟩)), (73, .bool false), (5, .pointer (some ⟨b2, 0, none⟩)), (4, .int .i64 i), (3, .int .i64 ((2 ^ c.gInputs_n) - 1)), (1, .pointer (some ⟨b1, 0, none⟩))] w6 (by kernel_rfl) ?_
                        refine J.ok (OK.ldBox S6 0 75 3 0 (.int .i64 ((c.gMoves_l.getD (i).toNat (⟨0, 0, 0, 0, 0⟩ : Mv)).gFrom)) (by kernel_rfl) rfl (by kernel_rfl)) ?_
                        refine J.run 1 K20_36 [(76, .pointer (some ⟨b1, 0, none⟩)), (75, .int .i64 ((c.gMoves_l.getD (i).toNat (⟨0, 0, 0, 0, 0⟩ : Mv)).gFrom)), (73, .bool false), (5, .pointer (some ⟨b2, 0, none⟩)), (4, .int .i64 i), (3, .int .i64 ((2 ^ c.gInputs_n) - 1)), (1, .pointer (some ⟨b1, 0, none⟩))] w6 (by kernel_rfl) ?_
                        refine J.ok (OK.ldBox S6 1 77 22 0 (.slice c.gStates_a c.gStates_n c.gStates_c) (by kernel_rfl) rfl (by kernel_rfl)) ?_
                        refine J.run 4 K20_37 [(81, .bool (decide (((c.gMoves_l.getD (i).toNat (⟨0, 0, 0, 0, 0⟩ : Mv)).gFrom) ≥ (c.gStates_n : Int)))), (5, .pointer (some ⟨b2, 0, none⟩)), (4, .int .i64 i), (3, .int .i64 ((2 ^ c.gInputs_n) - 1)), (1, .pointer (some ⟨b1, 0, none⟩))] w6 (by kernel_rfl) ?_
                        by_cases fk11 : ((c.gMoves_l.getD (i).toNat (⟨0, 0, 0, 0, 0⟩ : Mv)).gFrom) ≥ (c.gStates_n : Int)
                        · skip
                          refine J.head (.bool true) (congrArg Value.bool (decide_eq_true fk11)) ?_
                          refine J.run 58 K20_38 [(2, .bool false)] w6 (by kernel_rfl) ?_
                          refine J.ret Try.f20 [.bool false] Try.func20 ⟨by kernel_rfl, trivial⟩ ?_
                          refine hR _ _ ?_
                          exact ⟨congrArg Value.bool (valid_bad h0 (by omega) (by rw [Bool.eq_iff_iff]; simp only [mvB, Bool.and_eq_true, decide_eq_true_eq, beq_iff_eq, Bool.false_eq_true, iff_false]; omega)).symm, S6.nil⟩
                        · skip
                          refine J.head (.bool false) (congrArg Value.bool (decide_eq_false fk11)) ?_
                          refine J.run 1 K20_39 [(82, .pointer (some ⟨b2, 1, none⟩)), (81, .bool false), (5, .pointer (some ⟨b2, 0, none⟩)), (4, .int .i64 i), (3, .int .i64 ((2 ^ c.gInputs_n) - 1)), (1, .pointer (some ⟨b1, 0, none⟩))] w6 (by kernel_rfl) ?_
                          refine J.ok (OK.ldBox S6 0 83 3 1 (.int .i64 ((c.gMoves_l.getD (i).toNat (⟨0, 0, 0, 0, 0⟩ : Mv)).gTo)) (by kernel_rfl) rfl (by kernel_rfl)) ?_
                          refine J.run 3 K20_40 [(86, .bool (decide (((c.gMoves_l.getD (i).toNat (⟨0, 0, 0, 0, 0⟩ : Mv)).gTo) < 0))), (5, .pointer (some ⟨b2, 0, none⟩)), (4, .int .i64 i), (3, .int .i64 ((2 ^ c.gInputs_n) - 1)), (1, .pointer (some ⟨b1, 0, none⟩))] w6 (by kernel_rfl) ?_
                          by_cases fk12 : ((c.gMoves_l.getD (i).toNat (⟨0, 0, 0, 0, 0⟩ : Mv)).gTo) < 0
                          · skip
                            refine J.head (.bool true) (congrArg Value.bool (decide_eq_true fk12)) ?_
                            refine J.run 53 K20_41 [(2, .bool false)] w6 (by kernel_rfl) ?_
                            refine J.ret Try.f20 [.bool false] Try.func20 ⟨by kernel_rfl, trivial⟩ ?_
                            refine hR _ _ ?_
                            exact ⟨congrArg Value.bool (valid_bad h0 (by omega) (by rw [Bool.eq_iff_iff]; simp only [mvB, Bool.and_eq_true, decide_eq_true_eq, beq_iff_eq, Bool.false_eq_true, iff_false]; omega)).symm, S6.nil⟩
                          · skip
                            refine J.head (.bool false) (congrArg Value.bool (decide_eq_false fk12)) ?_
                            refine J.run 1 K20_42 [(87, .pointer (some ⟨b2, 1, none⟩)), (86, .bool false), (5, .pointer (some ⟨b2, 0, none⟩)), (4, .int .i64 i), (3, .int .i64 ((2 ^ c.gInputs_n) - 1)), (1, .pointer (some ⟨b1, 0, none⟩))] w6 (by kernel_rfl) ?_
                            refine J.ok (OK.ldBox S6 0 88 3 1 (.int .i64 ((c.gMoves_l.getD (i).toNat (⟨0, 0, 0, 0, 0⟩ : Mv)).gTo)) (by kernel_rfl) rfl (by kernel_rfl)) ?_
                            refine J.run 1 K20_43 [(89, .pointer (some ⟨b1, 0, none⟩)), (88, .int .i64 ((c.gMoves_l.getD (i).toNat (⟨0, 0, 0, 0, 0⟩ : Mv)).gTo)), (86, .bool false), (5, .pointer (some ⟨b2, 0, none⟩)), (4, .int .i64 i), (3, .int .i64 ((2 ^ c.gInputs_n) - 1)), (1, .pointer (some ⟨b1, 0, none⟩))] w6 (by kernel_rfl) ?_
                            refine J.ok (OK.ldBox S6 1 90 22 0 (.slice c.gStates_a c.gStates_n c.gStates_c) (by kernel_rfl) rfl (by kernel_rfl)) ?_
                            refine J.run 4 K20_44 [(94, .bool (decide (((c.gMoves_l.getD (i).toNat (⟨0, 0, 0, 0, 0⟩ : Mv)).gTo) ≥ (c.gStates_n : Int)))), (5, .pointer (some ⟨b2, 0, none⟩)), (4, .int .i64 i), (3, .int .i64 ((2 ^ c.gInputs_n) - 1)), (1, .pointer (some ⟨b1, 0, none⟩))] w6 (by kernel_rfl) ?_
                            by_cases fk13 : ((c.gMoves_l.getD (i).toNat (⟨0, 0, 0, 0, 0⟩ : Mv)).gTo) ≥ (c.gStates_n : Int)
                            · skip
                              refine J.head (.bool true) (congrArg Value.bool (decide_eq_true fk13)) ?_
                              refine J.run 45 K20_45 [(2, .bool false)] w6 (by kernel_rfl) ?_
                              refine J.ret Try.f20 [.bool false] Try.func20 ⟨by kernel_rfl, trivial⟩ ?_
                              refine hR _ _ ?_
                              exact ⟨congrArg Value.bool (valid_bad h0 (by omega) (by rw [Bool.eq_iff_iff]; simp only [mvB, Bool.and_eq_true, decide_eq_true_eq, beq_iff_eq, Bool.false_eq_true, iff_false]; omega)).symm, S6.nil⟩
                            · skip
                              refine J.head (.bool false) (congrArg Value.bool (decide_eq_false fk13)) ?_
                              refine J.run 1 K20_46 [(95, .pointer (some ⟨b2, 2, none⟩)), (94, .bool false), (5, .pointer (some ⟨b2, 0, none⟩)), (4, .int .i64 i), (3, .int .i64 ((2 ^ c.gInputs_n) - 1)), (1, .pointer (some ⟨b1, 0, none⟩))] w6 (by kernel_rfl) ?_
                              refine J.ok (OK.ldBox S6 0 96 3 2 (.int .i64 ((c.gMoves_l.getD (i).toNat (⟨0, 0, 0, 0, 0⟩ : Mv)).gOn)) (by kernel_rfl) rfl (by kernel_rfl)) ?_
                              refine J.run 3 K20_47 [(99, .bool (decide (((c.gMoves_l.getD (i).toNat (⟨0, 0, 0, 0, 0⟩ : Mv)).gOn) < 0))), (5, .pointer (some ⟨b2, 0, none⟩)), (4, .int .i64 i), (3, .int .i64 ((2 ^ c.gInputs_n) - 1)), (1, .pointer (some ⟨b1, 0, none⟩))] w6 (by kernel_rfl) ?_
                              by_cases fk14 : ((c.gMoves_l.getD (i).toNat (⟨0, 0, 0, 0, 0⟩ : Mv)).gOn) < 0
                              · skip
                                refine J.head (.bool true) (congrArg Value.bool (decide_eq_true fk14)) ?_
                                refine J.run 40 K20_48 [(2, .bool false)] w6 (by kernel_rfl) ?_
                                refine J.ret Try.f20 [.bool false] Try.func20 ⟨by kernel_rfl, trivial⟩ ?_
                                refine hR _ _ ?_
                                exact ⟨congrArg Value.bool (valid_bad h0 (by omega) (by rw [Bool.eq_iff_iff]; simp only [mvB, Bool.and_eq_true, decide_eq_true_eq, beq_iff_eq, Bool.false_eq_true, iff_false]; omega)).symm, S6.nil⟩
                              · skip
                                refine J.head (.bool false) (congrArg Value.bool (decide_eq_false fk14)) ?_
                                refine J.run 1 K20_49 [(100, .pointer (some ⟨b2, 2, none⟩)), (99, .bool false), (5, .pointer (some ⟨b2, 0, none⟩)), (4, .int .i64 i), (3, .int .i64 ((2 ^ c.gInputs_n) - 1)), (1, .pointer (some ⟨b1, 0, none⟩))] w6 (by kernel_rfl) ?_
                                refine J.ok (OK.ldBox S6 0 101 3 2 (.int .i64 ((c.gMoves_l.getD (i).toNat (⟨0, 0, 0, 0, 0⟩ : Mv)).gOn)) (by kernel_rfl) rfl (by kernel_rfl)) ?_
                                refine J.run 4 K20_50 [(105, .bool (decide (((c.gMoves_l.getD (i).toNat (⟨0, 0, 0, 0, 0⟩ : Mv)).gOn) > ((2 ^ c.gInputs_n) - 1)))), (5, .pointer (some ⟨b2, 0, none⟩)), (4, .int .i64 i), (3, .int .i64 ((2 ^ c.gInputs_n) - 1)), (1, .pointer (some ⟨b1, 0, none⟩))] w6 (by kernel_rfl) ?_
                                by_cases fk15 : ((c.gMoves_l.getD (i).toNat (⟨0, 0, 0, 0, 0⟩ : Mv)).gOn) > ((2 ^ c.gInputs_n) - 1)
                                · skip
                                  refine J.head (.bool true) (congrArg Value.bool (decide_eq_true fk15)) ?_
                                  refine J.run 34 K20_51 [(2, .bool false)] w6 (by kernel_rfl) ?_
                                  refine J.ret Try.f20 [.bool false] Try.func20 ⟨by kernel_rfl, trivial⟩ ?_
                                  refine hR _ _ ?_
                                  exact ⟨congrArg Value.bool (valid_bad h0 (by omega) (by rw [Bool.eq_iff_iff]; simp only [mvB, Bool.and_eq_true, decide_eq_true_eq, beq_iff_eq, Bool.false_eq_true, iff_false]; omega)).symm, S6.nil⟩
                                · skip
                                  refine J.head (.bool false) (congrArg Value.bool (decide_eq_false fk15)) ?_
                                  refine J.run 1 K20_52 [(106, .pointer (some ⟨b2, 3, none⟩)), (105, .bool false), (5, .pointer (some ⟨b2, 0, none⟩)), (4, .int .i64 i), (3, .int .i64 ((2 ^ c.gInputs_n) - 1)), (1, .pointer (some ⟨b1, 0, none⟩))] w6 (by kernel_rfl) ?_
                                  refine J.ok (OK.ldBox S6 0 107 3 3 (.int .i64 ((c.gMoves_l.getD (i).toNat (⟨0, 0, 0, 0, 0⟩ : Mv)).gOff)) (by kernel_rfl) rfl (by kernel_rfl)) ?_
                                  refine J.run 3 K20_53 [(110, .bool (decide (((c.gMoves_l.getD (i).toNat (⟨0, 0, 0, 0, 0⟩ : Mv)).gOff) < 0))), (5, .pointer (some ⟨b2, 0, none⟩)), (4, .int .i64 i), (3, .int .i64 ((2 ^ c.gInputs_n) - 1)), (1, .pointer (some ⟨b1, 0, none⟩))] w6 (by kernel_rfl) ?_
                                  by_cases fk16 : ((c.gMoves_l.getD (i).toNat (⟨0, 0, 0, 0, 0⟩ : Mv)).gOff) < 0
                                  · skip
                                    refine J.head (.bool true) (congrArg Value.bool (decide_eq_true fk16)) ?_
                                    refine J.run 29 K20_54 [(2, .bool false)] w6 (by kernel_rfl) ?_
                                    refine J.ret Try.f20 [.bool false] Try.func20 ⟨by kernel_rfl, trivial⟩ ?_
                                    refine hR _ _ ?_
                                    exact ⟨congrArg Value.bool (valid_bad h0 (by omega) (by rw [Bool.eq_iff_iff]; simp only [mvB, Bool.and_eq_true, decide_eq_true_eq, beq_iff_eq, Bool.false_eq_true, iff_false]; omega)).symm, S6.nil⟩
                                  · skip
                                    refine J.head (.bool false) (congrArg Value.bool (decide_eq_false fk16)) ?_
                                    refine J.run 1 K20_55 [(111, .pointer (some ⟨b2, 3, none⟩)), (110, .bool false), (5, .pointer (some ⟨b2, 0, none⟩)), (4, .int .i64 i), (3, .int .i64 ((2 ^ c.gInputs_n) - 1)), (1, .pointer (some ⟨b1, 0, none⟩))] w6 (by kernel_rfl) ?_
                                    refine J.ok (OK.ldBox S6 0 112 3 3 (.int .i64 ((c.gMoves_l.getD (i).toNat (⟨0, 0, 0, 0, 0⟩ : Mv)).gOff)) (by kernel_rfl) rfl (by kernel_rfl)) ?_
                                    refine J.run 4 K20_56 [(116, .bool (decide (((c.gMoves_l.getD (i).toNat (⟨0, 0, 0, 0, 0⟩ : Mv)).gOff) > ((2 ^ c.gInputs_n) - 1)))), (5, .pointer (some ⟨b2, 0, none⟩)), (4, .int .i64 i), (3, .int .i64 ((2 ^ c.gInputs_n) - 1)), (1, .pointer (some ⟨b1, 0, none⟩))] w6 (by kernel_rfl) ?_
                                    by_cases fk17 : ((c.gMoves_l.getD (i).toNat (⟨0, 0, 0, 0, 0⟩ : Mv)).gOff) > ((2 ^ c.gInputs_n) - 1)
                                    · skip
                                      refine J.head (.bool true) (congrArg Value.bool (decide_eq_true fk17)) ?_
                                      refine J.run 23 K20_57 [(2, .bool false)] w6 (by kernel_rfl) ?_
                                      refine J.ret Try.f20 [.bool false] Try.func20 ⟨by kernel_rfl, trivial⟩ ?_
                                      refine hR _ _ ?_
                                      exact ⟨congrArg Value.bool (valid_bad h0 (by omega) (by rw [Bool.eq_iff_iff]; simp only [mvB, Bool.and_eq_true, decide_eq_true_eq, beq_iff_eq, Bool.false_eq_true, iff_false]; omega)).symm, S6.nil⟩
                                    · skip
                                      refine J.head (.bool false) (congrArg Value.bool (decide_eq_false fk17)) ?_
                                      refine J.run 1 K20_58 [(117, .pointer (some ⟨b2, 2, none⟩)), (116, .bool false), (5, .pointer (some ⟨b2, 0, none⟩)), (4, .int .i64 i), (3, .int .i64 ((2 ^ c.gInputs_n) - 1)), (1, .pointer (some ⟨b1, 0, none⟩))] w6 (by kernel_rfl) ?_
                                      refine J.ok (OK.ldBox S6 0 118 3 2 (.int .i64 ((c.gMoves_l.getD (i).toNat (⟨0, 0, 0, 0, 0⟩ : Mv)).gOn)) (by kernel_rfl) rfl (by kernel_rfl)) ?_
                                      refine J.run 1 K20_59 [(119, .pointer (some ⟨b2, 3, none⟩)), (118, .int .i64 ((c.gMoves_l.getD (i).toNat (⟨0, 0, 0, 0, 0⟩ : Mv)).gOn)), (116, .bool false), (5, .pointer (some ⟨b2, 0, none⟩)), (4, .int .i64 i), (3, .int .i64 ((2 ^ c.gInputs_n) - 1)), (1, .pointer (some ⟨b1, 0, none⟩))] w6 (by kernel_rfl) ?_
                                      refine J.ok (OK.ldBox S6 0 120 3 3 (.int .i64 ((c.gMoves_l.getD (i).toNat (⟨0, 0, 0, 0, 0⟩ : Mv)).gOff)) (by kernel_rfl) rfl (by kernel_rfl)) ?_
                                      refine J.run 1 K20_60 [(121, .int .i64 (IntKind.wrap .i64 ((BitVec.ofInt 64 ((c.gMoves_l.getD (i).toNat (⟨0, 0, 0, 0, 0⟩ : Mv)).gOn) &&& (BitVec.ofInt 64 ((c.gMoves_l.getD (i).toNat (⟨0, 0, 0, 0, 0⟩ : Mv)).gOff))).toNat : Int))), (116, .bool false), (5, .pointer (some ⟨b2, 0, none⟩)), (4, .int .i64 i), (3, .int .i64 ((2 ^ c.gInputs_n) - 1)), (1, .pointer (some ⟨b1, 0, none⟩))] w6 (by kernel_rfl) ?_
                                      refine J.head (.int .i64 (andF ((c.gMoves_l.getD (i).toNat (⟨0, 0, 0, 0, 0⟩ : Mv)).gOn) ((c.gMoves_l.getD (i).toNat (⟨0, 0, 0, 0, 0⟩ : Mv)).gOff))) (congrArg (Value.int .i64) rfl) ?_
                                      refine J.run 3 K20_61 [(124, .bool ((andF ((c.gMoves_l.getD (i).toNat (⟨0, 0, 0, 0, 0⟩ : Mv)).gOn) ((c.gMoves_l.getD (i).toNat (⟨0, 0, 0, 0, 0⟩ : Mv)).gOff)) != 0)), (5, .pointer (some ⟨b2, 0, none⟩)), (4, .int .i64 i), (3, .int .i64 ((2 ^ c.gInputs_n) - 1)), (1, .pointer (some ⟨b1, 0, none⟩))] w6 (by kernel_rfl) ?_
                                      by_cases fk18 : (andF ((c.gMoves_l.getD (i).toNat (⟨0, 0, 0, 0, 0⟩ : Mv)).gOn) ((c.gMoves_l.getD (i).toNat (⟨0, 0, 0, 0, 0⟩ : Mv)).gOff)) = 0
                                      · skip
                                        refine J.head (.bool false) (congrArg Value.bool (bne_eq_false_iff_eq.2 fk18)) ?_
                                        refine J.run 1 K20_62 [(125, .pointer (some ⟨b2, 4, none⟩)), (124, .bool false), (5, .pointer (some ⟨b2, 0, none⟩)), (4, .int .i64 i), (3, .int .i64 ((2 ^ c.gInputs_n) - 1)), (1, .pointer (some ⟨b1, 0, none⟩))] w6 (by kernel_rfl) ?_
                                        refine J.ok (OK.ldBox S6 0 126 3 4 (.int .i64 ((c.gMoves_l.getD (i).toNat (⟨0, 0, 0, 0, 0⟩ : Mv)).gAfter)) (by kernel_rfl) rfl (by kernel_rfl)) ?_
                                        refine J.run 3 K20_63 [(129, .bool (decide (((c.gMoves_l.getD (i).toNat (⟨0, 0, 0, 0, 0⟩ : Mv)).gAfter) < 0))), (5, .pointer (some ⟨b2, 0, none⟩)), (4, .int .i64 i), (3, .int .i64 ((2 ^ c.gInputs_n) - 1)), (1, .pointer (some ⟨b1, 0, none⟩))] w6 (by kernel_rfl) ?_
                                        by_cases fk19 : ((c.gMoves_l.getD (i).toNat (⟨0, 0, 0, 0, 0⟩ : Mv)).gAfter) < 0
                                        · skip
                                          refine J.head (.bool true) (congrArg Value.bool (decide_eq_true fk19)) ?_
                                          refine J.run 10 K20_64 [(2, .bool false)] w6 (by kernel_rfl) ?_
                                          refine J.ret Try.f20 [.bool false] Try.func20 ⟨by kernel_rfl, trivial⟩ ?_
                                          refine hR _ _ ?_
                                          exact ⟨congrArg Value.bool (valid_bad h0 (by omega) (by rw [Bool.eq_iff_iff]; simp only [mvB, Bool.and_eq_true, decide_eq_true_eq, beq_iff_eq, Bool.false_eq_true, iff_false]; omega)).symm, S6.nil⟩
                                        · skip
                                          refine J.head (.bool false) (congrArg Value.bool (decide_eq_false fk19)) ?_
                                          refine J.run 1 K20_65 [(130, .pointer (some ⟨b2, 4, none⟩)), (129, .bool false), (4, .int .i64 i), (3, .int .i64 ((2 ^ c.gInputs_n) - 1)), (1, .pointer (some ⟨b1, 0, none⟩))] w6 (by kernel_rfl) ?_
                                          refine J.ok (OK.ldBox S6 0 131 3 4 (.int .i64 ((c.gMoves_l.getD (i).toNat (⟨0, 0, 0, 0, 0⟩ : Mv)).gAfter)) (by kernel_rfl) rfl (by kernel_rfl)) ?_
                                          refine J.run 3 K20_66 [(133, .bool (decide (((c.gMoves_l.getD (i).toNat (⟨0, 0, 0, 0, 0⟩ : Mv)).gAfter) > 1000))), (4, .int .i64 i), (3, .int .i64 ((2 ^ c.gInputs_n) - 1)), (1, .pointer (some ⟨b1, 0, none⟩))] w6 (by kernel_rfl) ?_
                                          by_cases fk20 : ((c.gMoves_l.getD (i).toNat (⟨0, 0, 0, 0, 0⟩ : Mv)).gAfter) > 1000
                                          · skip
                                            refine J.head (.bool true) (congrArg Value.bool (decide_eq_true fk20)) ?_
                                            refine J.run 5 K20_67 [(2, .bool false)] w6 (by kernel_rfl) ?_
                                            refine J.ret Try.f20 [.bool false] Try.func20 ⟨by kernel_rfl, trivial⟩ ?_
                                            refine hR _ _ ?_
                                            exact ⟨congrArg Value.bool (valid_bad h0 (by omega) (by rw [Bool.eq_iff_iff]; simp only [mvB, Bool.and_eq_true, decide_eq_true_eq, beq_iff_eq, Bool.false_eq_true, iff_false]; omega)).symm, S6.nil⟩
                                          · skip
                                            refine J.head (.bool false) (congrArg Value.bool (decide_eq_false fk20)) ?_
                                            refine J.run 6 K20_68 [(64, .int .i64 (IntKind.wrap .i64 (i + 1))), (3, .int .i64 ((2 ^ c.gInputs_n) - 1)), (1, .pointer (some ⟨b1, 0, none⟩))] w6 (by kernel_rfl) ?_
                                            refine J.head (.int .i64 (i + 1)) (congrArg (Value.int .i64) (IntWalk.i64_in _ (by omega))) ?_
                                            refine J.run 3 K20_27 [(4, .int .i64 (i + 1)), (3, .int .i64 ((2 ^ c.gInputs_n) - 1)), (1, .pointer (some ⟨b1, 0, none⟩))] w6 (by kernel_rfl) ?_
                                            have S7 : Sep w [box b1 [.slice c.gStates_a c.gStates_n c.gStates_c, .slice c.gInputs_a c.gInputs_n c.gInputs_c, .int .i64 c.gStart, .slice c.gMoves_a c.gMoves_n c.gMoves_c] 25] w6 := S6.erase 0
                                            clear S6
                                            refine J.run 0 K20_27 [(4, .int .i64 (i + 1)), (3, .int .i64 ((2 ^ c.gInputs_n) - 1)), (1, .pointer (some ⟨b1, 0, none⟩))] w6 (by kernel_rfl) ?_
                                            exact ih1 _ (show ((c.gMoves_n : Int) - (i + 1)).toNat < m from by omega) (i + 1) w6 (by omega) (by omega) (by intro j hj; by_cases e : j = i.toNat; (subst e; simp only [mvB, Bool.and_eq_true, decide_eq_true_eq, beq_iff_eq]; omega); exact hq j (by omega)) S7 rfl
                                      · skip
                                        refine J.head (.bool true) (congrArg Value.bool (bne_iff_ne.2 fk18)) ?_
                                        refine J.run 15 K20_69 [(2, .bool false)] w6 (by kernel_rfl) ?_
                                        refine J.ret Try.f20 [.bool false] Try.func20 ⟨by kernel_rfl, trivial⟩ ?_
                                        refine hR _ _ ?_
                                        exact ⟨congrArg Value.bool (valid_bad h0 (by omega) (by rw [Bool.eq_iff_iff]; simp only [mvB, Bool.and_eq_true, decide_eq_true_eq, beq_iff_eq, Bool.false_eq_true, iff_false]; omega)).symm, S6.nil⟩
                    · skip
                      refine J.head (.bool false) (congrArg Value.bool (decide_eq_false fk9)) ?_
                      refine J.run 6 K20_70 [(2, .bool true)] w4 (by kernel_rfl) ?_
                      refine J.ret Try.f20 [.bool true] Try.func20 ⟨by kernel_rfl, trivial⟩ ?_
                      refine hR _ _ ?_
                      have hall : c.gMoves_l.all (mvB c.gStates_n (2 ^ c.gInputs_n - 1)) = true := all_moves fun j hj => hq j (by omega)
                      exact ⟨congrArg Value.bool (by rw [Bool.eq_iff_iff]; simp [validC, maskF, hall, fk1, fk2, fk3, fk4, fk5, fk6, fk7, fk8, fk9]; omega), S4.nil⟩
                  exact L20_1 _ 0 w3 (by omega) (by omega) (by intro j hj; simp at hj) S3 rfl
          · skip
            refine J.head (.bool true) (congrArg Value.bool (by rw [fk5]; rfl)) ?_
            refine J.run 24 K20_71 [(2, .bool false)] w3 (by kernel_rfl) ?_
            refine J.ret Try.f20 [.bool false] Try.func20 ⟨by kernel_rfl, trivial⟩ ?_
            refine hR _ _ ?_
            exact ⟨congrArg Value.bool (by rw [Bool.eq_iff_iff]; first | (simp [validC, maskF, any_not_all, fk1, fk2, fk3, fk4, fk5]; done) | (simp [validC, maskF, any_not_all, fk1, fk2, fk3, fk4, fk5]; omega) | (simp [validC, maskF, fk1, fk2, fk3, fk4, fk5]; intros; omega)), S3.nil⟩
        · skip
          refine J.head (.bool true) (congrArg Value.bool (by rw [fk4]; rfl)) ?_
          refine J.run 30 K20_72 [(2, .bool false)] w2 (by kernel_rfl) ?_
          refine J.ret Try.f20 [.bool false] Try.func20 ⟨by kernel_rfl, trivial⟩ ?_
          refine hR _ _ ?_
          exact ⟨congrArg Value.bool (by rw [Bool.eq_iff_iff]; first | (simp [validC, maskF, any_not_all, fk1, fk2, fk3, fk4]; done) | (simp [validC, maskF, any_not_all, fk1, fk2, fk3, fk4]; omega) | (simp [validC, maskF, fk1, fk2, fk3, fk4]; intros; omega)), S2.nil⟩

theorem hb34 : HasBody Try.prog 34 := fun _ _ => by kernel_rfl
noncomputable def K34_0 : List Item := adv 2 [] (bodyOf Try.f34)
noncomputable def K34_1 : List Item := adv 7 [] (popK K34_0)
noncomputable def K34_2 : List Item := adv 2 [] K34_1
noncomputable def K34_3 : List Item := adv 1 [] (popK K34_2)
noncomputable def K34_4 : List Item := adv 4 [] (popK K34_3)
noncomputable def K34_5 : List Item := adv 9 [] K34_1
set_option maxRecDepth 20000 in
set_option maxHeartbeats 20000000 in
theorem inside_any (c : Cht) (x : Int) (w : World) (hc : chtQ w c) (hn : c.gInputs_n ≤ 12) : Ret Try.prog 34 #[.agg #[.slice c.gStates_a c.gStates_n c.gStates_c, .slice c.gInputs_a c.gInputs_n c.gInputs_c, .int .i64 c.gStart, .slice c.gMoves_a c.gMoves_n c.gMoves_c], .int .i64 x] w (fun v w' => v = .bool (insideB c x) ∧ Sep w [] w') := by
  have S0 := Sep.refl w
  refine Ret.named fun R hR => ?_
  refine Ret.of_J (N := 15) [(0, .agg #[.slice c.gStates_a c.gStates_n c.gStates_c, .slice c.gInputs_a c.gInputs_n c.gInputs_c, .int .i64 c.gStart, .slice c.gMoves_a c.gMoves_n c.gMoves_c]), (1, .int .i64 x)] Try.func34 rfl rfl (Nat.le_of_ble_eq_true (by kernel_rfl)) (by kernel_rfl) ?_
  obtain ⟨q1, q2, q3, q4, q5, q6, q7, q8, q9, q10, _⟩ := id hc
  have ql1 := q2.len_eq
  have ql2 := q5.len_eq
  have ql3 := q9.len_eq
  refine J.run 2 K34_0 [(0, .agg #[.slice c.gStates_a c.gStates_n c.gStates_c, .slice c.gInputs_a c.gInputs_n c.gInputs_c, .int .i64 c.gStart, .slice c.gMoves_a c.gMoves_n c.gMoves_c]), (1, .int .i64 x)] w (by kernel_rfl) ?_
  refine J.new S0 2 [.slice c.gStates_a c.gStates_n c.gStates_c, .slice c.gInputs_a c.gInputs_n c.gInputs_c, .int .i64 c.gStart, .slice c.gMoves_a c.gMoves_n c.gMoves_c] 25 (by kernel_rfl) ?_
  intro b1 w1 S1
  refine J.run 7 K34_1 [(7, .bool (decide (x ≥ 0))), (2, .pointer (some ⟨b1, 0, none⟩)), (1, .int .i64 x)] w1 (by kernel_rfl) ?_
  by_cases fk1 : x ≥ 0
  · skip
    refine J.head (.bool true) (congrArg Value.bool (decide_eq_true fk1)) ?_
    refine J.run 2 K34_2 [(9, .pointer (some ⟨b1, 1, none⟩)), (8, .int .i64 x), (7, .bool true)] w1 (by kernel_rfl) ?_
    refine J.ok (OK.ldBox S1 0 10 22 1 (.slice c.gInputs_a c.gInputs_n c.gInputs_c) (by kernel_rfl) rfl (by kernel_rfl)) ?_
    refine J.run 1 K34_3 [(11, .int .i64 (c.gInputs_n : Int)), (8, .int .i64 x), (7, .bool true)] w1 (by kernel_rfl) ?_
    have := pow10 (n := c.gInputs_n) (by omega)
    refine J.ok (OK.shl 12 .i64 1 (c.gInputs_n : Int) (2 ^ c.gInputs_n) (by kernel_rfl) (by omega) (shl_one rfl (by omega))) ?_
    refine J.run 4 K34_4 [(4, .bool (decide (x < (2 ^ c.gInputs_n))))] w1 (by kernel_rfl) ?_
    refine J.ret Try.f34 [.bool (decide (x < (2 ^ c.gInputs_n)))] Try.func34 ⟨by kernel_rfl, trivial⟩ ?_
    refine hR _ _ ?_
    exact ⟨by simp [insideB, tup_one, tup_two, tup_three, fk1, (decide_eq_true fk1)], S1.nil⟩
  · skip
    refine J.head (.bool false) (congrArg Value.bool (decide_eq_false fk1)) ?_
    refine J.run 9 K34_5 [(4, .bool false)] w1 (by kernel_rfl) ?_
    refine J.ret Try.f34 [.bool false] Try.func34 ⟨by kernel_rfl, trivial⟩ ?_
    refine hR _ _ ?_
    exact ⟨by simp [insideB, tup_one, tup_two, tup_three, fk1, (decide_eq_false fk1)], S1.nil⟩

theorem hb33 : HasBody Try.prog 33 := fun _ _ => by kernel_rfl
noncomputable def K33_0 : List Item := adv 6 [] (bodyOf Try.f33)
noncomputable def K33_1 : List Item := adv 1 [] (popK K33_0)
noncomputable def K33_2 : List Item := adv 3 [] (popK K33_1)
set_option maxRecDepth 20000 in
set_option maxHeartbeats 20000000 in
theorem run1_any (c : Cht) (bx : Nat) (x : Int) (w : World) (hc : chtQ w c) (hn : c.gInputs_n ≤ 12) (hb1 : (box bx [.slice c.gStates_a c.gStates_n c.gStates_c, .slice c.gInputs_a c.gInputs_n c.gInputs_c, .int .i64 c.gStart, .slice c.gMoves_a c.gMoves_n c.gMoves_c] 25).holds w) : Ret Try.prog 33 #[.int .i64 x, .pointer (some ⟨bx, 0, none⟩)] w (fun v w' => v = .bool (!insideB c x) ∧ Sep w [] w') := by
  have S0 := Sep.refl w
  refine Ret.named fun R hR => ?_
  refine Ret.of_J (N := 8) [(0, .int .i64 x), (1, .pointer (some ⟨bx, 0, none⟩))] Try.func33 rfl rfl (Nat.le_of_ble_eq_true (by kernel_rfl)) (by kernel_rfl) ?_
  obtain ⟨q1, q2, q3, q4, q5, q6, q7, q8, q9, q10, _⟩ := id hc
  have ql1 := q2.len_eq
  have ql2 := q5.len_eq
  have ql3 := q9.len_eq
  refine J.run 6 K33_0 [(0, .int .i64 x), (1, .pointer (some ⟨bx, 0, none⟩))] w (by kernel_rfl) ?_
  refine J.ok (OK.ldRo S0 hb1 4 25 0 (.agg #[.slice c.gStates_a c.gStates_n c.gStates_c, .slice c.gInputs_a c.gInputs_n c.gInputs_c, .int .i64 c.gStart, .slice c.gMoves_a c.gMoves_n c.gMoves_c]) (by kernel_rfl) (by kernel_rfl)) ?_
  refine J.run 1 K33_1 [(5, .int .i64 x), (4, .agg #[.slice c.gStates_a c.gStates_n c.gStates_c, .slice c.gInputs_a c.gInputs_n c.gInputs_c, .int .i64 c.gStart, .slice c.gMoves_a c.gMoves_n c.gMoves_c])] w (by kernel_rfl) ?_
  refine J.callF 6 34 #[.agg #[.slice c.gStates_a c.gStates_n c.gStates_c, .slice c.gInputs_a c.gInputs_n c.gInputs_c, .int .i64 c.gStart, .slice c.gMoves_a c.gMoves_n c.gMoves_c], .int .i64 x] hb34 (by kernel_rfl) (inside_any c x _ (chtQ_sep hc S0) (by omega)) ?_
  rintro _ w1 ⟨rfl, T1⟩
  have S1 : Sep w [] w1 := S0.trans T1
  clear T1
  refine J.run 3 K33_2 [(3, .bool (!(insideB c x)))] w1 (by kernel_rfl) ?_
  refine J.ret Try.f33 [.bool (!(insideB c x))] Try.func33 ⟨by kernel_rfl, trivial⟩ ?_
  refine hR _ _ ?_
  exact ⟨rfl, S1.nil⟩

theorem hb43 : HasBody Try.prog 43 := fun _ _ => by kernel_rfl
noncomputable def K43_0 : List Item := adv 13 [] (bodyOf Try.f43)
noncomputable def K43_1 : List Item := adv 5 [] K43_0
noncomputable def K43_2 : List Item := adv 14 [true] K43_1
noncomputable def K43_3 : List Item := adv 1 [] (popK (popK (popK K43_2)))
noncomputable def K43_4 : List Item := adv 6 [true] K43_3
noncomputable def K43_5 : List Item := adv 5 [false] K43_3
noncomputable def K43_6 : List Item := adv 6 [false] K43_1
set_option maxRecDepth 20000 in
set_option maxHeartbeats 20000000 in
theorem indexI1 (la : Option Addr) (len cap : Nat) (l : List Int) (g : FuncId) (c1 : Value) (q : Int → Bool) (w : World) (hI : Ones (Value.int .i64) w la len l) (hlen : len ≤ 9223372036854775807) (hbg : HasBody Try.prog g) (hcall : ∀ (i : Nat) (w2 : World), i < l.length → Sep w [] w2 → Ret Try.prog g #[.int .i64 (l.getD i 0), c1] w2 (fun v w3 => v = .bool (q (l.getD i 0)) ∧ Sep w2 [] w3)) : Ret Try.prog 43 #[.slice la len cap, .func (.func g) #[] #[c1]] w (fun v w' => v = .int .i64 (indexF q l) ∧ Sep w [] w') := by
  have S0 := Sep.refl w
  refine Ret.named fun R hR => ?_
  refine Ret.of_J (N := 19) [(0, .slice la len cap), (1, .func (.func g) #[] #[c1])] Try.func43 rfl rfl (Nat.le_of_ble_eq_true (by kernel_rfl)) (by kernel_rfl) ?_
  refine J.run 13 K43_0 [(8, .int .i64 0), (7, .int .i64 (len : Int)), (0, .slice la len cap), (1, .func (.func g) #[] #[c1])] w (by kernel_rfl) ?_
  have L43_1 : ∀ (m : Nat) (i : Int) (w1 : World), (0 ≤ i) → (i ≤ (len : Int)) → (∀ j, j < (i).toNat → q (l.getD j 0) = false) → Sep w [] w1 → ((len : Int) - i).toNat = m → J Try.prog 43 19 R K43_0 [(8, .int .i64 i), (7, .int .i64 (len : Int)), (0, .slice la len cap), (1, .func (.func g) #[] #[c1])] w1 := by
    intro m
    induction m using Nat.strongRecOn with
    | _ m ih1 =>
    intro i w1 h0 h1 hq S1 hm1
    refine J.run 5 K43_1 [(9, .bool (decide (i < (len : Int)))), (8, .int .i64 i), (7, .int .i64 (len : Int)), (0, .slice la len cap), (1, .func (.func g) #[] #[c1])] w1 (by kernel_rfl) ?_
    by_cases fk1 : i < (len : Int)
    · skip
      refine J.head (.bool true) (congrArg Value.bool (decide_eq_true fk1)) ?_
      refine J.run 14 K43_2 [(13, .int .i64 i), (12, .slice la len cap), (11, .func (.func g) #[] #[c1]), (5, .int .i64 i), (8, .int .i64 i), (7, .int .i64 (len : Int)), (0, .slice la len cap), (1, .func (.func g) #[] #[c1])] w1 (by kernel_rfl) ?_
      obtain ⟨p1, hp1, hc1⟩ := hI.at 0 (i).toNat (by omega)
      refine J.ok (OK.index 14 26 1 la p1 len (i).toNat i (p1.add (i).toNat) (by kernel_rfl) (by kernel_rfl) hp1 (by omega) (by omega) (by rw [Nat.mul_one])) ?_
      refine J.ok (OK.ldCell 15 3 (p1.add (i).toNat) (.int .i64 (l.getD (i).toNat 0)) (by kernel_rfl) (by kernel_rfl) (S1.cell hc1)) ?_
      refine J.callF 16 g #[.int .i64 (l.getD (i).toNat 0), c1] hbg (by kernel_rfl) (hcall (i).toNat w1 (by have := hI.len_eq; omega) S1.nil) ?_
      rintro _ w2 ⟨rfl, T1⟩
      have S2 : Sep w [] w2 := S1.trans T1
      clear T1 S1
      refine J.run 1 K43_3 [(16, .bool (q (l.getD (i).toNat 0))), (5, .int .i64 i), (8, .int .i64 i), (7, .int .i64 (len : Int)), (0, .slice la len cap), (1, .func (.func g) #[] #[c1])] w2 (by kernel_rfl) ?_
      rcases Bool.eq_false_or_eq_true (q (l.getD (i).toNat 0)) with fk2 | fk2
      · skip
        refine J.head (.bool true) (congrArg Value.bool fk2) ?_
        refine J.run 6 K43_4 [(4, .int .i64 i)] w2 (by kernel_rfl) ?_
        refine J.ret Try.f43 [.int .i64 i] Try.func43 ⟨by kernel_rfl, trivial⟩ ?_
        refine hR _ _ ?_
        exact ⟨by rw [tup_one, indexF_some 0 i.toNat (by have := hI.len_eq; omega) hq fk2, Int.toNat_of_nonneg h0], S2.nil⟩
      · skip
        refine J.head (.bool false) (congrArg Value.bool fk2) ?_
        refine J.run 5 K43_5 [(18, .int .i64 (IntKind.wrap .i64 (i + 1))), (7, .int .i64 (len : Int)), (0, .slice la len cap), (1, .func (.func g) #[] #[c1])] w2 (by kernel_rfl) ?_
        refine J.head (.int .i64 (i + 1)) (congrArg (Value.int .i64) (IntWalk.i64_in _ (by omega))) ?_
        refine J.run 3 K43_0 [(8, .int .i64 (i + 1)), (7, .int .i64 (len : Int)), (0, .slice la len cap), (1, .func (.func g) #[] #[c1])] w2 (by kernel_rfl) ?_
        refine J.run 0 K43_0 [(8, .int .i64 (i + 1)), (7, .int .i64 (len : Int)), (0, .slice la len cap), (1, .func (.func g) #[] #[c1])] w2 (by kernel_rfl) ?_
        exact ih1 _ (show ((len : Int) - (i + 1)).toNat < m from by omega) (i + 1) w2 (by omega) (by omega) (by intro j hj; by_cases e : j = i.toNat; (subst e; exact fk2); exact hq j (by omega)) S2 rfl
    · skip
      refine J.head (.bool false) (congrArg Value.bool (decide_eq_false fk1)) ?_
      refine J.run 6 K43_6 [(4, .int .i64 (-1))] w1 (by kernel_rfl) ?_
      refine J.ret Try.f43 [.int .i64 (-1)] Try.func43 ⟨by kernel_rfl, trivial⟩ ?_
      refine hR _ _ ?_
      exact ⟨by rw [tup_one, indexF_none 0 fun j hj => hq j (by have := hI.len_eq; omega)], S1.nil⟩
  exact L43_1 _ 0 w (by omega) (by omega) (by intro j hj; simp at hj) S0 rfl

theorem hb25 : HasBody Try.prog 25 := fun _ _ => by kernel_rfl
noncomputable def K25_0 : List Item := adv 8 [] (bodyOf Try.f25)
noncomputable def K25_1 : List Item := adv 3 [] (popK K25_0)
set_option maxRecDepth 20000 in
set_option maxHeartbeats 20000000 in
theorem containsI1 (la : Option Addr) (len cap : Nat) (l : List Int) (g : FuncId) (c1 : Value) (q : Int → Bool) (w : World) (hI : Ones (Value.int .i64) w la len l) (hlen : len ≤ 9223372036854775807) (hbg : HasBody Try.prog g) (hcall : ∀ (i : Nat) (w2 : World), i < l.length → Sep w [] w2 → Ret Try.prog g #[.int .i64 (l.getD i 0), c1] w2 (fun v w3 => v = .bool (q (l.getD i 0)) ∧ Sep w2 [] w3)) : Ret Try.prog 25 #[.slice la len cap, .func (.func g) #[] #[c1]] w (fun v w' => v = .bool (l.any q) ∧ Sep w [] w') := by
  have S0 := Sep.refl w
  refine Ret.named fun R hR => ?_
  refine Ret.of_J (N := 9) [(0, .slice la len cap), (1, .func (.func g) #[] #[c1])] Try.func25 rfl rfl (Nat.le_of_ble_eq_true (by kernel_rfl)) (by kernel_rfl) ?_
  refine J.run 8 K25_0 [(6, .func (.func g) #[] #[c1]), (5, .slice la len cap)] w (by kernel_rfl) ?_
  refine J.callF 7 43 #[.slice la len cap, .func (.func g) #[] #[c1]] hb43 (by kernel_rfl) (indexI1 la len cap l g c1 q _ (hI.sep S0) (by first | omega | (simp; omega)) hbg (hcall)) ?_
  rintro _ w1 ⟨rfl, T1⟩
  have S1 : Sep w [] w1 := S0.trans T1
  clear T1
  refine J.run 3 K25_1 [(4, .bool (decide ((indexF q l) ≥ 0)))] w1 (by kernel_rfl) ?_
  refine J.ret Try.f25 [.bool (decide ((indexF q l) ≥ 0))] Try.func25 ⟨by kernel_rfl, trivial⟩ ?_
  refine hR _ _ ?_
  exact ⟨congrArg Value.bool (by first | exact indexF_nonneg), S1.nil⟩

theorem step_at {c : Cht} {s a x i : Int} (h0 : 0 ≤ i) (hi : i < (c.gMoves_l.length : Int)) (hq : ∀ j, j < i.toNat → fitB s a x (c.gMoves_l.getD j (⟨0, 0, 0, 0, 0⟩ : Mv)) = false) (h : fitB s a x (c.gMoves_l.getD i.toNat (⟨0, 0, 0, 0, 0⟩ : Mv)) = true) : stepI c s a x = i ∧ stepS c s a x = (c.gMoves_l.getD i.toNat (⟨0, 0, 0, 0, 0⟩ : Mv)).gTo ∧ stepA c s a x = 0 := by
  have e : stepI c s a x = i := by unfold stepI; rw [indexF_some (⟨0, 0, 0, 0, 0⟩ : Mv) i.toNat (by omega) hq h, Int.toNat_of_nonneg h0]
  refine ⟨e, ?_, ?_⟩
  · unfold stepS; rw [e, if_neg (by omega)]
  · unfold stepA; rw [e, if_neg (by omega)]
theorem step_none {c : Cht} {s a x : Int} (hq : ∀ j, j < c.gMoves_l.length → fitB s a x (c.gMoves_l.getD j (⟨0, 0, 0, 0, 0⟩ : Mv)) = false) : stepI c s a x = -1 ∧ stepS c s a x = s ∧ stepA c s a x = min (a + 1) 1000 := by
  have e : stepI c s a x = -1 := by unfold stepI; rw [indexF_none (⟨0, 0, 0, 0, 0⟩ : Mv) hq]
  refine ⟨e, ?_, ?_⟩
  · unfold stepS; rw [e, if_pos (by omega)]
  · unfold stepA; rw [e, if_pos (by omega)]
theorem stepI_bounds (c : Cht) (s a x : Int) : -1 ≤ stepI c s a x ∧ stepI c s a x < (c.gMoves_l.length : Int) ∨ stepI c s a x = -1 := indexF_bounds _ _
theorem fit_no {s a x : Int} {m : Mv} (h : m.gFrom ≠ s ∨ a < m.gAfter ∨ andF x m.gOn ≠ m.gOn ∨ andF x m.gOff ≠ 0) : fitB s a x m = false := by
  cases hf : fitB s a x m with
  | false => rfl
  | true =>
    simp only [fitB, Bool.and_eq_true, decide_eq_true_eq, beq_iff_eq] at hf
    omega
theorem fit_yes {s a x : Int} {m : Mv} (h : m.gFrom = s ∧ m.gAfter ≤ a ∧ andF x m.gOn = m.gOn ∧ andF x m.gOff = 0) : fitB s a x m = true := by
  simp only [fitB, Bool.and_eq_true, decide_eq_true_eq, beq_iff_eq]; omega
theorem hb35 : HasBody Try.prog 35 := fun _ _ => by kernel_rfl
noncomputable def K35_0 : List Item := adv 2 [] (bodyOf Try.f35)
noncomputable def K35_1 : List Item := adv 6 [] (popK (popK (popK K35_0)))
noncomputable def K35_2 : List Item := adv 5 [] (popK K35_1)
noncomputable def K35_3 : List Item := adv 5 [] K35_2
noncomputable def K35_4 : List Item := adv 7 [true] K35_3
noncomputable def K35_5 : List Item := adv 1 [] (popK (popK (popK K35_4)))
noncomputable def K35_6 : List Item := adv 4 [] (popK K35_5)
noncomputable def K35_7 : List Item := adv 1 [] (popK K35_6)
noncomputable def K35_8 : List Item := adv 2 [] (popK K35_7)
noncomputable def K35_9 : List Item := adv 1 [] K35_8
noncomputable def K35_10 : List Item := adv 1 [] (popK K35_9)
noncomputable def K35_11 : List Item := adv 3 [] (popK K35_10)
noncomputable def K35_12 : List Item := adv 2 [] K35_11
noncomputable def K35_13 : List Item := adv 1 [] (popK K35_12)
noncomputable def K35_14 : List Item := adv 1 [] K35_13
noncomputable def K35_15 : List Item := adv 3 [] (popK K35_14)
noncomputable def K35_16 : List Item := adv 2 [] K35_15
noncomputable def K35_17 : List Item := adv 1 [] (popK K35_16)
noncomputable def K35_18 : List Item := adv 3 [] K35_17
noncomputable def K35_19 : List Item := adv 4 [true] K35_18
noncomputable def K35_20 : List Item := adv 2 [] (popK K35_19)
noncomputable def K35_21 : List Item := adv 2 [] (popK K35_20)
noncomputable def K35_22 : List Item := adv 5 [false] K35_18
noncomputable def K35_23 : List Item := adv 12 [false] K35_15
noncomputable def K35_24 : List Item := adv 21 [false] K35_11
noncomputable def K35_25 : List Item := adv 28 [false] K35_8
noncomputable def K35_26 : List Item := adv 5 [false] K35_3
noncomputable def K35_27 : List Item := adv 1 [] (popK K35_26)
noncomputable def K35_28 : List Item := adv 1 [] K35_27
noncomputable def K35_29 : List Item := adv 1 [] K35_28
noncomputable def K35_30 : List Item := adv 3 [] (popK K35_29)
noncomputable def K35_31 : List Item := adv 2 [] (popK (popK K35_30))
set_option maxRecDepth 20000 in
set_option maxHeartbeats 20000000 in
theorem step_any (c : Cht) (s a x : Int) (w : World) (hc : chtQ w c) (ha : 0 ≤ a ∧ a ≤ 1000) : Ret Try.prog 35 #[.agg #[.slice c.gStates_a c.gStates_n c.gStates_c, .slice c.gInputs_a c.gInputs_n c.gInputs_c, .int .i64 c.gStart, .slice c.gMoves_a c.gMoves_n c.gMoves_c], .agg #[.int .i64 s, .int .i64 a], .int .i64 x] w (fun v w' => v = .tuple #[.agg #[.int .i64 (stepS c s a x), .int .i64 (stepA c s a x)], .int .i64 (stepI c s a x)] ∧ Sep w [] w') := by
  have S0 := Sep.refl w
  refine Ret.named fun R hR => ?_
  refine Ret.of_J (N := 57) [(0, .agg #[.slice c.gStates_a c.gStates_n c.gStates_c, .slice c.gInputs_a c.gInputs_n c.gInputs_c, .int .i64 c.gStart, .slice c.gMoves_a c.gMoves_n c.gMoves_c]), (1, .agg #[.int .i64 s, .int .i64 a]), (2, .int .i64 x)] Try.func35 rfl rfl (Nat.le_of_ble_eq_true (by kernel_rfl)) (by kernel_rfl) ?_
  obtain ⟨q1, q2, q3, q4, q5, q6, q7, q8, q9, q10, _⟩ := id hc
  have ql1 := q2.len_eq
  have ql2 := q5.len_eq
  have ql3 := q9.len_eq
  refine J.run 2 K35_0 [(0, .agg #[.slice c.gStates_a c.gStates_n c.gStates_c, .slice c.gInputs_a c.gInputs_n c.gInputs_c, .int .i64 c.gStart, .slice c.gMoves_a c.gMoves_n c.gMoves_c]), (1, .agg #[.int .i64 s, .int .i64 a]), (2, .int .i64 x)] w (by kernel_rfl) ?_
  refine J.new S0 3 [.slice c.gStates_a c.gStates_n c.gStates_c, .slice c.gInputs_a c.gInputs_n c.gInputs_c, .int .i64 c.gStart, .slice c.gMoves_a c.gMoves_n c.gMoves_c] 25 (by kernel_rfl) ?_
  intro b1 w1 S1
  refine J.new S1 4 [.int .i64 s, .int .i64 a] 37 (by kernel_rfl) ?_
  intro b2 w2 S2
  refine J.new S2 6 [.int .i64 0, .int .i64 0] 37 (by kernel_rfl) ?_
  intro b3 w3 S3
  refine J.run 6 K35_1 [(10, .pointer (some ⟨b1, 3, none⟩)), (6, .pointer (some ⟨b3, 0, none⟩)), (4, .pointer (some ⟨b2, 0, none⟩)), (2, .int .i64 x)] w3 (by kernel_rfl) ?_
  refine J.ok (OK.ldBox S3 2 11 23 3 (.slice c.gMoves_a c.gMoves_n c.gMoves_c) (by kernel_rfl) rfl (by kernel_rfl)) ?_
  refine J.run 5 K35_2 [(13, .int .i64 0), (12, .int .i64 (c.gMoves_n : Int)), (11, .slice c.gMoves_a c.gMoves_n c.gMoves_c), (6, .pointer (some ⟨b3, 0, none⟩)), (4, .pointer (some ⟨b2, 0, none⟩)), (2, .int .i64 x)] w3 (by kernel_rfl) ?_
  have L35_1 : ∀ (m : Nat) (i : Int) (w4 : World), (0 ≤ i) → (i ≤ (c.gMoves_n : Int)) → (∀ j, j < (i).toNat → fitB s a x (c.gMoves_l.getD j (⟨0, 0, 0, 0, 0⟩ : Mv)) = false) → Sep w [box b3 [.int .i64 0, .int .i64 0] 37, box b2 [.int .i64 s, .int .i64 a] 37, box b1 [.slice c.gStates_a c.gStates_n c.gStates_c, .slice c.gInputs_a c.gInputs_n c.gInputs_c, .int .i64 c.gStart, .slice c.gMoves_a c.gMoves_n c.gMoves_c] 25] w4 → ((c.gMoves_n : Int) - i).toNat = m → J Try.prog 35 57 R K35_2 [(13, .int .i64 i), (12, .int .i64 (c.gMoves_n : Int)), (11, .slice c.gMoves_a c.gMoves_n c.gMoves_c), (6, .pointer (some ⟨b3, 0, none⟩)), (4, .pointer (some ⟨b2, 0, none⟩)), (2, .int .i64 x)] w4 := by
    intro m
    induction m using Nat.strongRecOn with
    | _ m ih1 =>
    intro i w4 h0 h1 hq S4 hm1
    refine J.run 5 K35_3 [(14, .bool (decide (i < (c.gMoves_n : Int)))), (13, .int .i64 i), (12, .int .i64 (c.gMoves_n : Int)), (11, .slice c.gMoves_a c.gMoves_n c.gMoves_c), (6, .pointer (some ⟨b3, 0, none⟩)), (4, .pointer (some ⟨b2, 0, none⟩)), (2, .int .i64 x)] w4 (by kernel_rfl) ?_
    by_cases fk1 : i < (c.gMoves_n : Int)
    · skip
      refine J.head (.bool true) (congrArg Value.bool (decide_eq_true fk1)) ?_
      refine J.run 7 K35_4 [(15, .int .i64 i), (13, .int .i64 i), (12, .int .i64 (c.gMoves_n : Int)), (11, .slice c.gMoves_a c.gMoves_n c.gMoves_c), (6, .pointer (some ⟨b3, 0, none⟩)), (4, .pointer (some ⟨b2, 0, none⟩)), (2, .int .i64 x)] w4 (by kernel_rfl) ?_
      obtain ⟨p1, hp1, hc1⟩ := q9.at (⟨0, 0, 0, 0, 0⟩ : Mv) (i).toNat (by omega)
      have hq1 := getD_Q q10 (⟨0, 0, 0, 0, 0⟩ : Mv) (n := (i).toNat) (by have := q9.len_eq; omega)
      obtain ⟨q11, q12, q13, q14, q15, _⟩ := id hq1
      refine J.ok (OK.index 16 23 5 c.gMoves_a p1 c.gMoves_n (i).toNat i (p1.add ((i).toNat * 5)) (by kernel_rfl) (by kernel_rfl) hp1 (by omega) (by omega) rfl) ?_
      refine J.ok (OK.ldCells 17 42 (p1.add ((i).toNat * 5)) [.int .i64 ((c.gMoves_l.getD (i).toNat (⟨0, 0, 0, 0, 0⟩ : Mv)).gFrom), .int .i64 ((c.gMoves_l.getD (i).toNat (⟨0, 0, 0, 0, 0⟩ : Mv)).gTo), .int .i64 ((c.gMoves_l.getD (i).toNat (⟨0, 0, 0, 0, 0⟩ : Mv)).gOn), .int .i64 ((c.gMoves_l.getD (i).toNat (⟨0, 0, 0, 0, 0⟩ : Mv)).gOff), .int .i64 ((c.gMoves_l.getD (i).toNat (⟨0, 0, 0, 0, 0⟩ : Mv)).gAfter)] (by kernel_rfl) (by kernel_rfl) (by kernel_rfl) (fun j_ v_ hj_ => S4.cell (hc1 j_ v_ hj_))) ?_
      refine J.new S4 9 [.int .i64 0, .int .i64 0, .int .i64 0, .int .i64 0, .int .i64 0] 42 (by kernel_rfl) ?_
      intro b4 w5 S5
      refine J.run 1 K35_5 [(8, .int .i64 i), (9, .pointer (some ⟨b4, 0, none⟩)), (17, .agg #[.int .i64 ((c.gMoves_l.getD (i).toNat (⟨0, 0, 0, 0, 0⟩ : Mv)).gFrom), .int .i64 ((c.gMoves_l.getD (i).toNat (⟨0, 0, 0, 0, 0⟩ : Mv)).gTo), .int .i64 ((c.gMoves_l.getD (i).toNat (⟨0, 0, 0, 0, 0⟩ : Mv)).gOn), .int .i64 ((c.gMoves_l.getD (i).toNat (⟨0, 0, 0, 0, 0⟩ : Mv)).gOff), .int .i64 ((c.gMoves_l.getD (i).toNat (⟨0, 0, 0, 0, 0⟩ : Mv)).gAfter)]), (13, .int .i64 i), (12, .int .i64 (c.gMoves_n : Int)), (11, .slice c.gMoves_a c.gMoves_n c.gMoves_c), (6, .pointer (some ⟨b3, 0, none⟩)), (4, .pointer (some ⟨b2, 0, none⟩)), (2, .int .i64 x)] w5 (by kernel_rfl) ?_
      refine J.stBox S5 0 42 0 (.agg #[.int .i64 ((c.gMoves_l.getD (i).toNat (⟨0, 0, 0, 0, 0⟩ : Mv)).gFrom), .int .i64 ((c.gMoves_l.getD (i).toNat (⟨0, 0, 0, 0, 0⟩ : Mv)).gTo), .int .i64 ((c.gMoves_l.getD (i).toNat (⟨0, 0, 0, 0, 0⟩ : Mv)).gOn), .int .i64 ((c.gMoves_l.getD (i).toNat (⟨0, 0, 0, 0, 0⟩ : Mv)).gOff), .int .i64 ((c.gMoves_l.getD (i).toNat (⟨0, 0, 0, 0, 0⟩ : Mv)).gAfter)]) [.int .i64 ((c.gMoves_l.getD (i).toNat (⟨0, 0, 0, 0, 0⟩ : Mv)).gFrom), .int .i64 ((c.gMoves_l.getD (i).toNat (⟨0, 0, 0, 0, 0⟩ : Mv)).gTo), .int .i64 ((c.gMoves_l.getD (i).toNat (⟨0, 0, 0, 0, 0⟩ : Mv)).gOn), .int .i64 ((c.gMoves_l.getD (i).toNat (⟨0, 0, 0, 0, 0⟩ : Mv)).gOff), .int .i64 ((c.gMoves_l.getD (i).toNat (⟨0, 0, 0, 0, 0⟩ : Mv)).gAfter)] [box b4 [.int .i64 ((c.gMoves_l.getD (i).toNat (⟨0, 0, 0, 0, 0⟩ : Mv)).gFrom), .int .i64 ((c.gMoves_l.getD (i).toNat (⟨0, 0, 0, 0, 0⟩ : Mv)).gTo), .int .i64 ((c.gMoves_l.getD (i).toNat (⟨0, 0, 0, 0, 0⟩ : Mv)).gOn), .int .i64 ((c.gMoves_l.getD (i).toNat (⟨0, 0, 0, 0, 0⟩ : Mv)).gOff), .int .i64 ((c.gMoves_l.getD (i).toNat (⟨0, 0, 0, 0, 0⟩ : Mv)).gAfter)] 42, box b3 [.int .i64 0, .int .i64 0] 37, box b2 [.int .i64 s, .int .i64 a] 37, box b1 [.slice c.gStates_a c.gStates_n c.gStates_c, .slice c.gInputs_a c.gInputs_n c.gInputs_c, .int .i64 c.gStart, .slice c.gMoves_a c.gMoves_n c.gMoves_c] 25] (by kernel_rfl) rfl (by kernel_rfl) (by kernel_rfl) rfl ?_
      intro w6 S6
      refine J.run 4 K35_6 [(18, .pointer (some ⟨b4, 0, none⟩)), (8, .int .i64 i), (9, .pointer (some ⟨b4, 0, none⟩)), (13, .int .i64 i), (12, .int .i64 (c.gMoves_n : Int)), (11, .slice c.gMoves_a c.gMoves_n c.gMoves_c), (6, .pointer (some ⟨b3, 0, none⟩)), (4, .pointer (some ⟨b2, 0, none⟩)), (2, .int .i64 x)] w6 (by kernel_rfl) ?_
      refine J.ok (OK.ldBox S6 0 19 3 0 (.int .i64 ((c.gMoves_l.getD (i).toNat (⟨0, 0, 0, 0, 0⟩ : Mv)).gFrom)) (by kernel_rfl) rfl (by kernel_rfl)) ?_
      refine J.run 1 K35_7 [(20, .pointer (some ⟨b2, 0, none⟩)), (19, .int .i64 ((c.gMoves_l.getD (i).toNat (⟨0, 0, 0, 0, 0⟩ : Mv)).gFrom)), (8, .int .i64 i), (9, .pointer (some ⟨b4, 0, none⟩)), (13, .int .i64 i), (12, .int .i64 (c.gMoves_n : Int)), (11, .slice c.gMoves_a c.gMoves_n c.gMoves_c), (6, .pointer (some ⟨b3, 0, none⟩)), (4, .pointer (some ⟨b2, 0, none⟩)), (2, .int .i64 x)] w6 (by kernel_rfl) ?_
      refine J.ok (OK.ldBox S6 2 21 3 0 (.int .i64 s) (by kernel_rfl) rfl (by kernel_rfl)) ?_
      refine J.run 2 K35_8 [(23, .bool (((c.gMoves_l.getD (i).toNat (⟨0, 0, 0, 0, 0⟩ : Mv)).gFrom) == s)), (8, .int .i64 i), (9, .pointer (some ⟨b4, 0, none⟩)), (13, .int .i64 i), (12, .int .i64 (c.gMoves_n : Int)), (11, .slice c.gMoves_a c.gMoves_n c.gMoves_c), (6, .pointer (some ⟨b3, 0, none⟩)), (4, .pointer (some ⟨b2, 0, none⟩)), (2, .int .i64 x)] w6 (by kernel_rfl) ?_
      by_cases fk2 : ((c.gMoves_l.getD (i).toNat (⟨0, 0, 0, 0, 0⟩ : Mv)).gFrom) = s
      · skip
        refine J.head (.bool true) (congrArg Value.bool (beq_iff_eq.2 fk2)) ?_
        refine J.run 1 K35_9 [(24, .pointer (some ⟨b4, 4, none⟩)), (23, .bool true), (8, .int .i64 i), (9, .pointer (some ⟨b4, 0, none⟩)), (13, .int .i64 i), (12, .int .i64 (c.gMoves_n : Int)), (11, .slice c.gMoves_a c.gMoves_n c.gMoves_c), (6, .pointer (some ⟨b3, 0, none⟩)), (4, .pointer (some ⟨b2, 0, none⟩)), (2, .int .i64 x)] w6 (by kernel_rfl) ?_
        refine J.ok (OK.ldBox S6 0 25 3 4 (.int .i64 ((c.gMoves_l.getD (i).toNat (⟨0, 0, 0, 0, 0⟩ : Mv)).gAfter)) (by kernel_rfl) rfl (by kernel_rfl)) ?_
        refine J.run 1 K35_10 [(26, .pointer (some ⟨b2, 1, none⟩)), (25, .int .i64 ((c.gMoves_l.getD (i).toNat (⟨0, 0, 0, 0, 0⟩ : Mv)).gAfter)), (23, .bool true), (8, .int .i64 i), (9, .pointer (some ⟨b4, 0, none⟩)), (13, .int .i64 i), (12, .int .i64 (c.gMoves_n : Int)), (11, .slice c.gMoves_a c.gMoves_n c.gMoves_c), (6, .pointer (some ⟨b3, 0, none⟩)), (4, .pointer (some ⟨b2, 0, none⟩)), (2, .int .i64 x)] w6 (by kernel_rfl) ?_
        refine J.ok (OK.ldBox S6 2 27 3 1 (.int .i64 a) (by kernel_rfl) rfl (by kernel_rfl)) ?_
        refine J.run 3 K35_11 [(30, .bool (decide (((c.gMoves_l.getD (i).toNat (⟨0, 0, 0, 0, 0⟩ : Mv)).gAfter) ≤ a))), (8, .int .i64 i), (9, .pointer (some ⟨b4, 0, none⟩)), (13, .int .i64 i), (12, .int .i64 (c.gMoves_n : Int)), (11, .slice c.gMoves_a c.gMoves_n c.gMoves_c), (6, .pointer (some ⟨b3, 0, none⟩)), (4, .pointer (some ⟨b2, 0, none⟩)), (2, .int .i64 x)] w6 (by kernel_rfl) ?_
        by_cases fk3 : ((c.gMoves_l.getD (i).toNat (⟨0, 0, 0, 0, 0⟩ : Mv)).gAfter) ≤ a
        · skip
          refine J.head (.bool true) (congrArg Value.bool (decide_eq_true fk3)) ?_
          refine J.run 2 K35_12 [(32, .pointer (some ⟨b4, 2, none⟩)), (31, .int .i64 x), (30, .bool true), (8, .int .i64 i), (9, .pointer (some ⟨b4, 0, none⟩)), (13, .int .i64 i), (12, .int .i64 (c.gMoves_n : Int)), (11, .slice c.gMoves_a c.gMoves_n c.gMoves_c), (6, .pointer (some ⟨b3, 0, none⟩)), (4, .pointer (some ⟨b2, 0, none⟩)), (2, .int .i64 x)] w6 (by kernel_rfl) ?_
          refine J.ok (OK.ldBox S6 0 33 3 2 (.int .i64 ((c.gMoves_l.getD (i).toNat (⟨0, 0, 0, 0, 0⟩ : Mv)).gOn)) (by kernel_rfl) rfl (by kernel_rfl)) ?_
          refine J.run 1 K35_13 [(34, .int .i64 (IntKind.wrap .i64 ((BitVec.ofInt 64 x &&& (BitVec.ofInt 64 ((c.gMoves_l.getD (i).toNat (⟨0, 0, 0, 0, 0⟩ : Mv)).gOn))).toNat : Int))), (30, .bool true), (8, .int .i64 i), (9, .pointer (some ⟨b4, 0, none⟩)), (13, .int .i64 i), (12, .int .i64 (c.gMoves_n : Int)), (11, .slice c.gMoves_a c.gMoves_n c.gMoves_c), (6, .pointer (some ⟨b3, 0, none⟩)), (4, .pointer (some ⟨b2, 0, none⟩)), (2, .int .i64 x)] w6 (by kernel_rfl) ?_
          refine J.head (.int .i64 (andF x ((c.gMoves_l.getD (i).toNat (⟨0, 0, 0, 0, 0⟩ : Mv)).gOn))) (congrArg (Value.int .i64) rfl) ?_
          refine J.run 1 K35_14 [(35, .pointer (some ⟨b4, 2, none⟩)), (34, .int .i64 (andF x ((c.gMoves_l.getD (i).toNat (⟨0, 0, 0, 0, 0⟩ : Mv)).gOn))), (30, .bool true), (8, .int .i64 i), (9, .pointer (some ⟨b4, 0, none⟩)), (13, .int .i64 i), (12, .int .i64 (c.gMoves_n : Int)), (11, .slice c.gMoves_a c.gMoves_n c.gMoves_c), (6, .pointer (some ⟨b3, 0, none⟩)), (4, .pointer (some ⟨b2, 0, none⟩)), (2, .int .i64 x)] w6 (by kernel_rfl) ?_
          refine J.ok (OK.ldBox S6 0 36 3 2 (.int .i64 ((c.gMoves_l.getD (i).toNat (⟨0, 0, 0, 0, 0⟩ : Mv)).gOn)) (by kernel_rfl) rfl (by kernel_rfl)) ?_
          refine J.run 3 K35_15 [(39, .bool ((andF x ((c.gMoves_l.getD (i).toNat (⟨0, 0, 0, 0, 0⟩ : Mv)).gOn)) == ((c.gMoves_l.getD (i).toNat (⟨0, 0, 0, 0, 0⟩ : Mv)).gOn))), (8, .int .i64 i), (9, .pointer (some ⟨b4, 0, none⟩)), (13, .int .i64 i), (12, .int .i64 (c.gMoves_n : Int)), (11, .slice c.gMoves_a c.gMoves_n c.gMoves_c), (6, .pointer (some ⟨b3, 0, none⟩)), (4, .pointer (some ⟨b2, 0, none⟩)), (2, .int .i64 x)] w6 (by kernel_rfl) ?_
          by_cases fk4 : (andF x ((c.gMoves_l.getD (i).toNat (⟨0, 0, 0, 0, 0⟩ : Mv)).gOn)) = ((c.gMoves_l.getD (i).toNat (⟨0, 0, 0, 0, 0⟩ : Mv)).gOn)
          · skip
            refine J.head (.bool true) (congrArg Value.bool (beq_iff_eq.2 fk4)) ?_
            refine J.run 2 K35_16 [(41, .pointer (some ⟨b4, 3, none⟩)), (40, .int .i64 x), (39, .bool true), (8, .int .i64 i), (9, .pointer (some ⟨b4, 0, none⟩)), (13, .int .i64 i), (12, .int .i64 (c.gMoves_n : Int)), (11, .slice c.gMoves_a c.gMoves_n c.gMoves_c), (6, .pointer (some ⟨b3, 0, none⟩)), (4, .pointer (some ⟨b2, 0, none⟩)), (2, .int .i64 x)] w6 (by kernel_rfl) ?_
            refine J.ok (OK.ldBox S6 0 42 3 3 (.int .i64 ((c.gMoves_l.getD (i).toNat (⟨0, 0, 0, 0, 0⟩ : Mv)).gOff)) (by kernel_rfl) rfl (by kernel_rfl)) ?_
            refine J.run 1 K35_17 [(43, .int .i64 (IntKind.wrap .i64 ((BitVec.ofInt 64 x &&& (BitVec.ofInt 64 ((c.gMoves_l.getD (i).toNat (⟨0, 0, 0, 0, 0⟩ : Mv)).gOff))).toNat : Int))), (39, .bool true), (8, .int .i64 i), (9, .pointer (some ⟨b4, 0, none⟩)), (13, .int .i64 i), (12, .int .i64 (c.gMoves_n : Int)), (11, .slice c.gMoves_a c.gMoves_n c.gMoves_c), (6, .pointer (some ⟨b3, 0, none⟩)), (4, .pointer (some ⟨b2, 0, none⟩)), (2, .int .i64 x)] w6 (by kernel_rfl) ?_
            refine J.head (.int .i64 (andF x ((c.gMoves_l.getD (i).toNat (⟨0, 0, 0, 0, 0⟩ : Mv)).gOff))) (congrArg (Value.int .i64) rfl) ?_
            refine J.run 3 K35_18 [(45, .bool ((andF x ((c.gMoves_l.getD (i).toNat (⟨0, 0, 0, 0, 0⟩ : Mv)).gOff)) == 0)), (8, .int .i64 i), (9, .pointer (some ⟨b4, 0, none⟩)), (13, .int .i64 i), (12, .int .i64 (c.gMoves_n : Int)), (11, .slice c.gMoves_a c.gMoves_n c.gMoves_c), (6, .pointer (some ⟨b3, 0, none⟩)), (4, .pointer (some ⟨b2, 0, none⟩)), (2, .int .i64 x)] w6 (by kernel_rfl) ?_
            by_cases fk5 : (andF x ((c.gMoves_l.getD (i).toNat (⟨0, 0, 0, 0, 0⟩ : Mv)).gOff)) = 0
            · skip
              refine J.head (.bool true) (congrArg Value.bool (beq_iff_eq.2 fk5)) ?_
              refine J.run 4 K35_19 [(46, .pointer (some ⟨b4, 1, none⟩)), (8, .int .i64 i), (6, .pointer (some ⟨b3, 0, none⟩))] w6 (by kernel_rfl) ?_
              refine J.ok (OK.ldBox S6 0 47 3 1 (.int .i64 ((c.gMoves_l.getD (i).toNat (⟨0, 0, 0, 0, 0⟩ : Mv)).gTo)) (by kernel_rfl) rfl (by kernel_rfl)) ?_
              refine J.run 2 K35_20 [(49, .int .i64 i), (48, .agg #[.int .i64 ((c.gMoves_l.getD (i).toNat (⟨0, 0, 0, 0, 0⟩ : Mv)).gTo), .int .i64 0]), (6, .pointer (some ⟨b3, 0, none⟩))] w6 (by kernel_rfl) ?_
              refine J.stBox S6 1 37 0 (.agg #[.int .i64 ((c.gMoves_l.getD (i).toNat (⟨0, 0, 0, 0, 0⟩ : Mv)).gTo), .int .i64 0]) [.int .i64 ((c.gMoves_l.getD (i).toNat (⟨0, 0, 0, 0, 0⟩ : Mv)).gTo), .int .i64 0] [box b4 [.int .i64 ((c.gMoves_l.getD (i).toNat (⟨0, 0, 0, 0, 0⟩ : Mv)).gFrom), .int .i64 ((c.gMoves_l.getD (i).toNat (⟨0, 0, 0, 0, 0⟩ : Mv)).gTo), .int .i64 ((c.gMoves_l.getD (i).toNat (⟨0, 0, 0, 0, 0⟩ : Mv)).gOn), .int .i64 ((c.gMoves_l.getD (i).toNat (⟨0, 0, 0, 0, 0⟩ : Mv)).gOff), .int .i64 ((c.gMoves_l.getD (i).toNat (⟨0, 0, 0, 0, 0⟩ : Mv)).gAfter)] 42, box b3 [.int .i64 ((c.gMoves_l.getD (i).toNat (⟨0, 0, 0, 0, 0⟩ : Mv)).gTo), .int .i64 0] 37, box b2 [.int .i64 s, .int .i64 a] 37, box b1 [.slice c.gStates_a c.gStates_n c.gStates_c, .slice c.gInputs_a c.gInputs_n c.gInputs_c, .int .i64 c.gStart, .slice c.gMoves_a c.gMoves_n c.gMoves_c] 25] (by kernel_rfl) rfl (by kernel_rfl) (by kernel_rfl) rfl ?_
              intro w7 S7
              refine J.run 2 K35_21 [(7, .int .i64 i), (6, .pointer (some ⟨b3, 0, none⟩))] w7 (by kernel_rfl) ?_
              refine J.ret Try.f35 [.agg #[.int .i64 ((c.gMoves_l.getD (i).toNat (⟨0, 0, 0, 0, 0⟩ : Mv)).gTo), .int .i64 0], .int .i64 i] Try.func35 ⟨⟨⟨b3, 0, none⟩, by kernel_rfl, ldV_run (S7.nth 1 rfl) (by kernel_rfl)⟩, by kernel_rfl, trivial⟩ ?_
              refine hR _ _ ?_
              obtain ⟨e1, e2, e3⟩ := step_at h0 (by omega) hq (fit_yes (by omega))
              exact ⟨by rw [tup_two, e1, e2, e3], S7.nil⟩
            · skip
              refine J.head (.bool false) (congrArg Value.bool (beq_eq_false_iff_ne.2 fk5)) ?_
              refine J.run 5 K35_22 [(50, .int .i64 (IntKind.wrap .i64 (i + 1))), (12, .int .i64 (c.gMoves_n : Int)), (11, .slice c.gMoves_a c.gMoves_n c.gMoves_c), (6, .pointer (some ⟨b3, 0, none⟩)), (4, .pointer (some ⟨b2, 0, none⟩)), (2, .int .i64 x)] w6 (by kernel_rfl) ?_
              refine J.head (.int .i64 (i + 1)) (congrArg (Value.int .i64) (IntWalk.i64_in _ (by omega))) ?_
              refine J.run 3 K35_2 [(13, .int .i64 (i + 1)), (12, .int .i64 (c.gMoves_n : Int)), (11, .slice c.gMoves_a c.gMoves_n c.gMoves_c), (6, .pointer (some ⟨b3, 0, none⟩)), (4, .pointer (some ⟨b2, 0, none⟩)), (2, .int .i64 x)] w6 (by kernel_rfl) ?_
              have S8 : Sep w [box b3 [.int .i64 0, .int .i64 0] 37, box b2 [.int .i64 s, .int .i64 a] 37, box b1 [.slice c.gStates_a c.gStates_n c.gStates_c, .slice c.gInputs_a c.gInputs_n c.gInputs_c, .int .i64 c.gStart, .slice c.gMoves_a c.gMoves_n c.gMoves_c] 25] w6 := S6.erase 0
              clear S6
              refine J.run 0 K35_2 [(13, .int .i64 (i + 1)), (12, .int .i64 (c.gMoves_n : Int)), (11, .slice c.gMoves_a c.gMoves_n c.gMoves_c), (6, .pointer (some ⟨b3, 0, none⟩)), (4, .pointer (some ⟨b2, 0, none⟩)), (2, .int .i64 x)] w6 (by kernel_rfl) ?_
              exact ih1 _ (show ((c.gMoves_n : Int) - (i + 1)).toNat < m from by omega) (i + 1) w6 (by omega) (by omega) (by intro j hj; by_cases e : j = i.toNat; (subst e; exact fit_no (by omega)); exact hq j (by omega)) S8 rfl
          · skip
            refine J.head (.bool false) (congrArg Value.bool (beq_eq_false_iff_ne.2 fk4)) ?_
            refine J.run 12 K35_23 [(50, .int .i64 (IntKind.wrap .i64 (i + 1))), (12, .int .i64 (c.gMoves_n : Int)), (11, .slice c.gMoves_a c.gMoves_n c.gMoves_c), (6, .pointer (some ⟨b3, 0, none⟩)), (4, .pointer (some ⟨b2, 0, none⟩)), (2, .int .i64 x)] w6 (by kernel_rfl) ?_
            refine J.head (.int .i64 (i + 1)) (congrArg (Value.int .i64) (IntWalk.i64_in _ (by omega))) ?_
            refine J.run 3 K35_2 [(13, .int .i64 (i + 1)), (12, .int .i64 (c.gMoves_n : Int)), (11, .slice c.gMoves_a c.gMoves_n c.gMoves_c), (6, .pointer (some ⟨b3, 0, none⟩)), (4, .pointer (some ⟨b2, 0, none⟩)), (2, .int .i64 x)] w6 (by kernel_rfl) ?_
            have S9 : Sep w [box b3 [.int .i64 0, .int .i64 0] 37, box b2 [.int .i64 s, .int .i64 a] 37, box b1 [.slice c.gStates_a c.gStates_n c.gStates_c, .slice c.gInputs_a c.gInputs_n c.gInputs_c, .int .i64 c.gStart, .slice c.gMoves_a c.gMoves_n c.gMoves_c] 25] w6 := S6.erase 0
            clear S6
            refine J.run 0 K35_2 [(13, .int .i64 (i + 1)), (12, .int .i64 (c.gMoves_n : Int)), (11, .slice c.gMoves_a c.gMoves_n c.gMoves_c), (6, .pointer (some ⟨b3, 0, none⟩)), (4, .pointer (some ⟨b2, 0, none⟩)), (2, .int .i64 x)] w6 (by kernel_rfl) ?_
            exact ih1 _ (show ((c.gMoves_n : Int) - (i + 1)).toNat < m from by omega) (i + 1) w6 (by omega) (by omega) (by intro j hj; by_cases e : j = i.toNat; (subst e; exact fit_no (by omega)); exact hq j (by omega)) S9 rfl
        · skip
          refine J.head (.bool false) (congrArg Value.bool (decide_eq_false fk3)) ?_
          refine J.run 21 K35_24 [(50, .int .i64 (IntKind.wrap .i64 (i + 1))), (12, .int .i64 (c.gMoves_n : Int)), (11, .slice c.gMoves_a c.gMoves_n c.gMoves_c), (6, .pointer (some ⟨b3, 0, none⟩)), (4, .pointer (some ⟨b2, 0, none⟩)), (2, .int .i64 x)] w6 (by kernel_rfl) ?_
          refine J.head (.int .i64 (i + 1)) (congrArg (Value.int .i64) (IntWalk.i64_in _ (by omega))) ?_
          refine J.run 3 K35_2 [(13, .int .i64 (i + 1)), (12, .int .i64 (c.gMoves_n : Int)), (11, .slice c.gMoves_a c.gMoves_n c.gMoves_c), (6, .pointer (some ⟨b3, 0, none⟩)), (4, .pointer (some ⟨b2, 0, none⟩)), (2, .int .i64 x)] w6 (by kernel_rfl) ?_
          have S10 : Sep w [box b3 [.int .i64 0, .int .i64 0] 37, box b2 [.int .i64 s, .int .i64 a] 37, box b1 [.slice c.gStates_a c.gStates_n c.gStates_c, .slice c.gInputs_a c.gInputs_n c.gInputs_c, .int .i64 c.gStart, .slice c.gMoves_a c.gMoves_n c.gMoves_c] 25] w6 := S6.erase 0
          clear S6
          refine J.run 0 K35_2 [(13, .int .i64 (i + 1)), (12, .int .i64 (c.gMoves_n : Int)), (11, .slice c.gMoves_a c.gMoves_n c.gMoves_c), (6, .pointer (some ⟨b3, 0, none⟩)), (4, .pointer (some ⟨b2, 0, none⟩)), (2, .int .i64 x)] w6 (by kernel_rfl) ?_
          exact ih1 _ (show ((c.gMoves_n : Int) - (i + 1)).toNat < m from by omega) (i + 1) w6 (by omega) (by omega) (by intro j hj; by_cases e : j = i.toNat; (subst e; exact fit_no (by omega)); exact hq j (by omega)) S10 rfl
      · skip
        refine J.head (.bool false) (congrArg Value.bool (beq_eq_false_iff_ne.2 fk2)) ?_
        refine J.run 28 K35_25 [(50, .int .i64 (IntKind.wrap .i64 (i + 1))), (12, .int .i64 (c.gMoves_n : Int)), (11, .slice c.gMoves_a c.gMoves_n c.gMoves_c), (6, .pointer (some ⟨b3, 0, none⟩)), (4, .pointer (some ⟨b2, 0, none⟩)), (2, .int .i64 x)] w6 (by kernel_rfl) ?_
        refine J.head (.int .i64 (i + 1)) (congrArg (Value.int .i64) (IntWalk.i64_in _ (by omega))) ?_
        refine J.run 3 K35_2 [(13, .int .i64 (i + 1)), (12, .int .i64 (c.gMoves_n : Int)), (11, .slice c.gMoves_a c.gMoves_n c.gMoves_c), (6, .pointer (some ⟨b3, 0, none⟩)), (4, .pointer (some ⟨b2, 0, none⟩)), (2, .int .i64 x)] w6 (by kernel_rfl) ?_
        have S11 : Sep w [box b3 [.int .i64 0, .int .i64 0] 37, box b2 [.int .i64 s, .int .i64 a] 37, box b1 [.slice c.gStates_a c.gStates_n c.gStates_c, .slice c.gInputs_a c.gInputs_n c.gInputs_c, .int .i64 c.gStart, .slice c.gMoves_a c.gMoves_n c.gMoves_c] 25] w6 := S6.erase 0
        clear S6
        refine J.run 0 K35_2 [(13, .int .i64 (i + 1)), (12, .int .i64 (c.gMoves_n : Int)), (11, .slice c.gMoves_a c.gMoves_n c.gMoves_c), (6, .pointer (some ⟨b3, 0, none⟩)), (4, .pointer (some ⟨b2, 0, none⟩)), (2, .int .i64 x)] w6 (by kernel_rfl) ?_
        exact ih1 _ (show ((c.gMoves_n : Int) - (i + 1)).toNat < m from by omega) (i + 1) w6 (by omega) (by omega) (by intro j hj; by_cases e : j = i.toNat; (subst e; exact fit_no (by omega)); exact hq j (by omega)) S11 rfl
    · skip
      refine J.head (.bool false) (congrArg Value.bool (decide_eq_false fk1)) ?_
      refine J.run 5 K35_26 [(51, .pointer (some ⟨b2, 1, none⟩)), (6, .pointer (some ⟨b3, 0, none⟩)), (4, .pointer (some ⟨b2, 0, none⟩))] w4 (by kernel_rfl) ?_
      refine J.ok (OK.ldBox S4 1 52 3 1 (.int .i64 a) (by kernel_rfl) rfl (by kernel_rfl)) ?_
      refine J.run 1 K35_27 [(53, .int .i64 (IntKind.wrap .i64 (a + 1))), (6, .pointer (some ⟨b3, 0, none⟩)), (4, .pointer (some ⟨b2, 0, none⟩))] w4 (by kernel_rfl) ?_
      refine J.head (.int .i64 (a + 1)) (congrArg (Value.int .i64) (IntWalk.i64_in _ (by omega))) ?_
      refine J.run 1 K35_28 [(54, .int .i64 (if 1000 < (a + 1) then 1000 else (a + 1))), (6, .pointer (some ⟨b3, 0, none⟩)), (4, .pointer (some ⟨b2, 0, none⟩))] w4 (by kernel_rfl) ?_
      refine J.head (.int .i64 (min (a + 1) 1000)) (congrArg (Value.int .i64) (by omega)) ?_
      refine J.run 1 K35_29 [(55, .pointer (some ⟨b2, 1, none⟩)), (54, .int .i64 (min (a + 1) 1000)), (6, .pointer (some ⟨b3, 0, none⟩)), (4, .pointer (some ⟨b2, 0, none⟩))] w4 (by kernel_rfl) ?_
      refine J.stBox S4 1 3 1 (.int .i64 (min (a + 1) 1000)) [.int .i64 s, .int .i64 (min (a + 1) 1000)] [box b3 [.int .i64 0, .int .i64 0] 37, box b2 [.int .i64 s, .int .i64 (min (a + 1) 1000)] 37, box b1 [.slice c.gStates_a c.gStates_n c.gStates_c, .slice c.gInputs_a c.gInputs_n c.gInputs_c, .int .i64 c.gStart, .slice c.gMoves_a c.gMoves_n c.gMoves_c] 25] (by kernel_rfl) rfl (by kernel_rfl) (by kernel_rfl) rfl ?_
      intro w8 S12
      refine J.run 3 K35_30 [(6, .pointer (some ⟨b3, 0, none⟩)), (4, .pointer (some ⟨b2, 0, none⟩))] w8 (by kernel_rfl) ?_
      refine J.ok (OK.ldBox S12 1 56 37 0 (.agg #[.int .i64 s, .int .i64 (min (a + 1) 1000)]) (by kernel_rfl) rfl (by kernel_rfl)) ?_
      refine J.stBox S12 0 37 0 (.agg #[.int .i64 s, .int .i64 (min (a + 1) 1000)]) [.int .i64 s, .int .i64 (min (a + 1) 1000)] [box b3 [.int .i64 s, .int .i64 (min (a + 1) 1000)] 37, box b2 [.int .i64 s, .int .i64 (min (a + 1) 1000)] 37, box b1 [.slice c.gStates_a c.gStates_n c.gStates_c, .slice c.gInputs_a c.gInputs_n c.gInputs_c, .int .i64 c.gStart, .slice c.gMoves_a c.gMoves_n c.gMoves_c] 25] (by kernel_rfl) rfl (by kernel_rfl) (by kernel_rfl) rfl ?_
      intro w9 S13
      refine J.run 2 K35_31 [(7, .int .i64 (-1)), (6, .pointer (some ⟨b3, 0, none⟩))] w9 (by kernel_rfl) ?_
      refine J.ret Try.f35 [.agg #[.int .i64 s, .int .i64 (min (a + 1) 1000)], .int .i64 (-1)] Try.func35 ⟨⟨⟨b3, 0, none⟩, by kernel_rfl, ldV_run (S13.nth 0 rfl) (by kernel_rfl)⟩, by kernel_rfl, trivial⟩ ?_
      refine hR _ _ ?_
      obtain ⟨e1, e2, e3⟩ := step_none (c := c) (s := s) (a := a) (x := x) fun j hj => hq j (by omega)
      exact ⟨by rw [tup_two, e1, e2, e3], S13.nil⟩
  exact L35_1 _ 0 w3 (by omega) (by omega) (by intro j hj; simp at hj) S3 rfl

theorem hb36 : HasBody Try.prog 36 := fun _ _ => by kernel_rfl
noncomputable def K36_0 : List Item := adv 2 [] (bodyOf Try.f36)
noncomputable def K36_1 : List Item := adv 5 [] (popK (popK K36_0))
noncomputable def K36_2 : List Item := adv 1 [] (popK K36_1)
noncomputable def K36_3 : List Item := adv 2 [] (popK K36_2)
noncomputable def K36_4 : List Item := adv 1 [] K36_3
noncomputable def K36_5 : List Item := adv 1 [] (popK K36_4)
noncomputable def K36_6 : List Item := adv 3 [] (popK K36_5)
noncomputable def K36_7 : List Item := adv 2 [] K36_6
noncomputable def K36_8 : List Item := adv 1 [] (popK K36_7)
noncomputable def K36_9 : List Item := adv 1 [] K36_8
noncomputable def K36_10 : List Item := adv 3 [] (popK K36_9)
noncomputable def K36_11 : List Item := adv 2 [] K36_10
noncomputable def K36_12 : List Item := adv 1 [] (popK K36_11)
noncomputable def K36_13 : List Item := adv 4 [] K36_12
noncomputable def K36_14 : List Item := adv 8 [] K36_10
noncomputable def K36_15 : List Item := adv 17 [] K36_6
noncomputable def K36_16 : List Item := adv 24 [] K36_3
set_option maxRecDepth 20000 in
set_option maxHeartbeats 20000000 in
theorem fits_any (m : Mv) (s a x : Int) (w : World) : Ret Try.prog 36 #[.agg #[.int .i64 m.gFrom, .int .i64 m.gTo, .int .i64 m.gOn, .int .i64 m.gOff, .int .i64 m.gAfter], .agg #[.int .i64 s, .int .i64 a], .int .i64 x] w (fun v w' => v = .bool (fitB s a x m) ∧ Sep w [] w') := by
  have S0 := Sep.refl w
  refine Ret.named fun R hR => ?_
  refine Ret.of_J (N := 35) [(0, .agg #[.int .i64 m.gFrom, .int .i64 m.gTo, .int .i64 m.gOn, .int .i64 m.gOff, .int .i64 m.gAfter]), (1, .agg #[.int .i64 s, .int .i64 a]), (2, .int .i64 x)] Try.func36 rfl rfl (Nat.le_of_ble_eq_true (by kernel_rfl)) (by kernel_rfl) ?_
  refine J.run 2 K36_0 [(0, .agg #[.int .i64 m.gFrom, .int .i64 m.gTo, .int .i64 m.gOn, .int .i64 m.gOff, .int .i64 m.gAfter]), (1, .agg #[.int .i64 s, .int .i64 a]), (2, .int .i64 x)] w (by kernel_rfl) ?_
  refine J.new S0 3 [.int .i64 m.gFrom, .int .i64 m.gTo, .int .i64 m.gOn, .int .i64 m.gOff, .int .i64 m.gAfter] 42 (by kernel_rfl) ?_
  intro b1 w1 S1
  refine J.new S1 4 [.int .i64 s, .int .i64 a] 37 (by kernel_rfl) ?_
  intro b2 w2 S2
  refine J.run 5 K36_1 [(7, .pointer (some ⟨b1, 0, none⟩)), (4, .pointer (some ⟨b2, 0, none⟩)), (3, .pointer (some ⟨b1, 0, none⟩)), (2, .int .i64 x)] w2 (by kernel_rfl) ?_
  refine J.ok (OK.ldBox S2 1 8 3 0 (.int .i64 m.gFrom) (by kernel_rfl) rfl (by kernel_rfl)) ?_
  refine J.run 1 K36_2 [(9, .pointer (some ⟨b2, 0, none⟩)), (8, .int .i64 m.gFrom), (4, .pointer (some ⟨b2, 0, none⟩)), (3, .pointer (some ⟨b1, 0, none⟩)), (2, .int .i64 x)] w2 (by kernel_rfl) ?_
  refine J.ok (OK.ldBox S2 0 10 3 0 (.int .i64 s) (by kernel_rfl) rfl (by kernel_rfl)) ?_
  refine J.run 2 K36_3 [(12, .bool (m.gFrom == s)), (4, .pointer (some ⟨b2, 0, none⟩)), (3, .pointer (some ⟨b1, 0, none⟩)), (2, .int .i64 x)] w2 (by kernel_rfl) ?_
  by_cases fk1 : m.gFrom = s
  · skip
    refine J.head (.bool true) (congrArg Value.bool (beq_iff_eq.2 fk1)) ?_
    refine J.run 1 K36_4 [(13, .pointer (some ⟨b1, 4, none⟩)), (12, .bool true), (4, .pointer (some ⟨b2, 0, none⟩)), (3, .pointer (some ⟨b1, 0, none⟩)), (2, .int .i64 x)] w2 (by kernel_rfl) ?_
    refine J.ok (OK.ldBox S2 1 14 3 4 (.int .i64 m.gAfter) (by kernel_rfl) rfl (by kernel_rfl)) ?_
    refine J.run 1 K36_5 [(15, .pointer (some ⟨b2, 1, none⟩)), (14, .int .i64 m.gAfter), (12, .bool true), (3, .pointer (some ⟨b1, 0, none⟩)), (2, .int .i64 x)] w2 (by kernel_rfl) ?_
    refine J.ok (OK.ldBox S2 0 16 3 1 (.int .i64 a) (by kernel_rfl) rfl (by kernel_rfl)) ?_
    refine J.run 3 K36_6 [(19, .bool (decide (m.gAfter ≤ a))), (3, .pointer (some ⟨b1, 0, none⟩)), (2, .int .i64 x)] w2 (by kernel_rfl) ?_
    by_cases fk2 : m.gAfter ≤ a
    · skip
      refine J.head (.bool true) (congrArg Value.bool (decide_eq_true fk2)) ?_
      refine J.run 2 K36_7 [(21, .pointer (some ⟨b1, 2, none⟩)), (20, .int .i64 x), (19, .bool true), (3, .pointer (some ⟨b1, 0, none⟩)), (2, .int .i64 x)] w2 (by kernel_rfl) ?_
      refine J.ok (OK.ldBox S2 1 22 3 2 (.int .i64 m.gOn) (by kernel_rfl) rfl (by kernel_rfl)) ?_
      refine J.run 1 K36_8 [(23, .int .i64 (IntKind.wrap .i64 ((BitVec.ofInt 64 x &&& (BitVec.ofInt 64 m.gOn)).toNat : Int))), (19, .bool true), (3, .pointer (some ⟨b1, 0, none⟩)), (2, .int .i64 x)] w2 (by kernel_rfl) ?_
      refine J.head (.int .i64 (andF x m.gOn)) (congrArg (Value.int .i64) rfl) ?_
      refine J.run 1 K36_9 [(24, .pointer (some ⟨b1, 2, none⟩)), (23, .int .i64 (andF x m.gOn)), (19, .bool true), (3, .pointer (some ⟨b1, 0, none⟩)), (2, .int .i64 x)] w2 (by kernel_rfl) ?_
      refine J.ok (OK.ldBox S2 1 25 3 2 (.int .i64 m.gOn) (by kernel_rfl) rfl (by kernel_rfl)) ?_
      refine J.run 3 K36_10 [(28, .bool ((andF x m.gOn) == m.gOn)), (3, .pointer (some ⟨b1, 0, none⟩)), (2, .int .i64 x)] w2 (by kernel_rfl) ?_
      by_cases fk3 : (andF x m.gOn) = m.gOn
      · skip
        refine J.head (.bool true) (congrArg Value.bool (beq_iff_eq.2 fk3)) ?_
        refine J.run 2 K36_11 [(30, .pointer (some ⟨b1, 3, none⟩)), (29, .int .i64 x), (28, .bool true)] w2 (by kernel_rfl) ?_
        refine J.ok (OK.ldBox S2 1 31 3 3 (.int .i64 m.gOff) (by kernel_rfl) rfl (by kernel_rfl)) ?_
        refine J.run 1 K36_12 [(32, .int .i64 (IntKind.wrap .i64 ((BitVec.ofInt 64 x &&& (BitVec.ofInt 64 m.gOff)).toNat : Int))), (28, .bool true)] w2 (by kernel_rfl) ?_
        refine J.head (.int .i64 (andF x m.gOff)) (congrArg (Value.int .i64) rfl) ?_
        refine J.run 4 K36_13 [(6, .bool ((andF x m.gOff) == 0))] w2 (by kernel_rfl) ?_
        refine J.ret Try.f36 [.bool ((andF x m.gOff) == 0)] Try.func36 ⟨by kernel_rfl, trivial⟩ ?_
        refine hR _ _ ?_
        exact ⟨by simp [fitB, tup_one, tup_two, tup_three, (beq_iff_eq.2 fk1), (beq_iff_eq.2 (Eq.symm fk1)), fk1, fk2, (decide_eq_true fk2), (beq_iff_eq.2 fk3), (beq_iff_eq.2 (Eq.symm fk3)), fk3], S2.nil⟩
      · skip
        refine J.head (.bool false) (congrArg Value.bool (beq_eq_false_iff_ne.2 fk3)) ?_
        refine J.run 8 K36_14 [(6, .bool false)] w2 (by kernel_rfl) ?_
        refine J.ret Try.f36 [.bool false] Try.func36 ⟨by kernel_rfl, trivial⟩ ?_
        refine hR _ _ ?_
        exact ⟨by simp [fitB, tup_one, tup_two, tup_three, (beq_iff_eq.2 fk1), (beq_iff_eq.2 (Eq.symm fk1)), fk1, fk2, (decide_eq_true fk2), fk3, (beq_eq_false_iff_ne.2 fk3), (beq_eq_false_iff_ne.2 (Ne.symm fk3))], S2.nil⟩
    · skip
      refine J.head (.bool false) (congrArg Value.bool (decide_eq_false fk2)) ?_
      refine J.run 17 K36_15 [(6, .bool false)] w2 (by kernel_rfl) ?_
      refine J.ret Try.f36 [.bool false] Try.func36 ⟨by kernel_rfl, trivial⟩ ?_
      refine hR _ _ ?_
      exact ⟨by simp [fitB, tup_one, tup_two, tup_three, (beq_iff_eq.2 fk1), (beq_iff_eq.2 (Eq.symm fk1)), fk1, fk2, (decide_eq_false fk2)], S2.nil⟩
  · skip
    refine J.head (.bool false) (congrArg Value.bool (beq_eq_false_iff_ne.2 fk1)) ?_
    refine J.run 24 K36_16 [(6, .bool false)] w2 (by kernel_rfl) ?_
    refine J.ret Try.f36 [.bool false] Try.func36 ⟨by kernel_rfl, trivial⟩ ?_
    refine hR _ _ ?_
    exact ⟨by simp [fitB, tup_one, tup_two, tup_three, fk1, (beq_eq_false_iff_ne.2 fk1), (beq_eq_false_iff_ne.2 (Ne.symm fk1))], S2.nil⟩

def okS (c : Cht) (s a : Int) : Bool := decide (0 ≤ s) && decide (s < (c.gStates_n : Int)) && decide (0 ≤ a) && decide (a ≤ 1000)
def stepV (c : Cht) (s a x : Int) : Value :=
  if validC c = false then .tuple #[.agg #[.int .i64 0, .int .i64 0], .int .i64 0, .int .i64 1] else if okS c s a = false then .tuple #[.agg #[.int .i64 0, .int .i64 0], .int .i64 0, .int .i64 1] else
  if insideB c x = false then .tuple #[.agg #[.int .i64 0, .int .i64 0], .int .i64 0, .int .i64 2] else .tuple #[.agg #[.int .i64 (stepS c s a x), .int .i64 (stepA c s a x)], .int .i64 (stepI c s a x), .int .i64 0]
theorem okS_iff {c : Cht} {s a : Int} : okS c s a = true ↔ (0 ≤ s ∧ s < (c.gStates_n : Int)) ∧ 0 ≤ a ∧ a ≤ 1000 := by simp [okS]; omega
theorem okS_not {c : Cht} {s a : Int} (h : ¬ ((0 ≤ s ∧ s < (c.gStates_n : Int)) ∧ 0 ≤ a ∧ a ≤ 1000)) : okS c s a = false := by
  cases ho : okS c s a with
  | false => rfl
  | true => exact absurd (okS_iff.1 ho) h
theorem inside_not {c : Cht} {x : Int} (h : x < 0 ∨ 2 ^ c.gInputs_n ≤ x) : insideB c x = false := by
  cases ho : insideB c x with
  | false => rfl
  | true => simp only [insideB, Bool.and_eq_true, decide_eq_true_eq] at ho; omega
theorem hb14 : HasBody Try.prog 14 := fun _ _ => by kernel_rfl
noncomputable def K14_0 : List Item := adv 2 [] (bodyOf Try.f14)
noncomputable def K14_1 : List Item := adv 6 [] (popK (popK (popK K14_0)))
noncomputable def K14_2 : List Item := adv 2 [] (popK (popK K14_1))
noncomputable def K14_3 : List Item := adv 1 [] K14_2
noncomputable def K14_4 : List Item := adv 3 [] (popK K14_3)
noncomputable def K14_5 : List Item := adv 22 [true] K14_4
noncomputable def K14_6 : List Item := adv 3 [] (popK K14_5)
noncomputable def K14_7 : List Item := adv 1 [] K14_4
noncomputable def K14_8 : List Item := adv 1 [] (popK K14_7)
noncomputable def K14_9 : List Item := adv 4 [] (popK K14_8)
noncomputable def K14_10 : List Item := adv 14 [true] K14_9
noncomputable def K14_11 : List Item := adv 3 [] (popK K14_10)
noncomputable def K14_12 : List Item := adv 1 [] K14_9
noncomputable def K14_13 : List Item := adv 3 [] (popK K14_12)
noncomputable def K14_14 : List Item := adv 9 [true] K14_13
noncomputable def K14_15 : List Item := adv 3 [] (popK K14_14)
noncomputable def K14_16 : List Item := adv 1 [] K14_13
noncomputable def K14_17 : List Item := adv 3 [] (popK K14_16)
noncomputable def K14_18 : List Item := adv 4 [true] K14_17
noncomputable def K14_19 : List Item := adv 3 [] (popK K14_18)
noncomputable def K14_20 : List Item := adv 5 [false] K14_17
noncomputable def K14_21 : List Item := adv 1 [] (popK K14_20)
noncomputable def K14_22 : List Item := adv 2 [] (popK K14_21)
noncomputable def K14_23 : List Item := adv 4 [false] K14_22
noncomputable def K14_24 : List Item := adv 1 [] (popK (popK K14_23))
noncomputable def K14_25 : List Item := adv 3 [] (popK K14_24)
noncomputable def K14_26 : List Item := adv 4 [] (popK (popK K14_25))
noncomputable def K14_27 : List Item := adv 1 [] (popK K14_26)
noncomputable def K14_28 : List Item := adv 3 [] (popK K14_27)
noncomputable def K14_29 : List Item := adv 4 [true] K14_22
noncomputable def K14_30 : List Item := adv 3 [] (popK K14_29)
noncomputable def K14_31 : List Item := adv 27 [true] K14_2
noncomputable def K14_32 : List Item := adv 3 [] (popK K14_31)
set_option maxRecDepth 20000 in
set_option maxHeartbeats 20000000 in
theorem step3_any (c : Cht) (s a x : Int) (w : World) (hc : chtQ w c) : Ret Try.prog 14 #[.agg #[.slice c.gStates_a c.gStates_n c.gStates_c, .slice c.gInputs_a c.gInputs_n c.gInputs_c, .int .i64 c.gStart, .slice c.gMoves_a c.gMoves_n c.gMoves_c], .agg #[.int .i64 s, .int .i64 a], .int .i64 x] w (fun v w' => v = stepV c s a x ∧ Sep w [] w') := by
  have S0 := Sep.refl w
  refine Ret.named fun R hR => ?_
  refine Ret.of_J (N := 52) [(0, .agg #[.slice c.gStates_a c.gStates_n c.gStates_c, .slice c.gInputs_a c.gInputs_n c.gInputs_c, .int .i64 c.gStart, .slice c.gMoves_a c.gMoves_n c.gMoves_c]), (1, .agg #[.int .i64 s, .int .i64 a]), (2, .int .i64 x)] Try.func14 rfl rfl (Nat.le_of_ble_eq_true (by kernel_rfl)) (by kernel_rfl) ?_
  obtain ⟨q1, q2, q3, q4, q5, q6, q7, q8, q9, q10, _⟩ := id hc
  have ql1 := q2.len_eq
  have ql2 := q5.len_eq
  have ql3 := q9.len_eq
  refine J.run 2 K14_0 [(0, .agg #[.slice c.gStates_a c.gStates_n c.gStates_c, .slice c.gInputs_a c.gInputs_n c.gInputs_c, .int .i64 c.gStart, .slice c.gMoves_a c.gMoves_n c.gMoves_c]), (1, .agg #[.int .i64 s, .int .i64 a]), (2, .int .i64 x)] w (by kernel_rfl) ?_
  refine J.new S0 3 [.slice c.gStates_a c.gStates_n c.gStates_c, .slice c.gInputs_a c.gInputs_n c.gInputs_c, .int .i64 c.gStart, .slice c.gMoves_a c.gMoves_n c.gMoves_c] 25 (by kernel_rfl) ?_
  intro b1 w1 S1
  refine J.new S1 4 [.int .i64 s, .int .i64 a] 37 (by kernel_rfl) ?_
  intro b2 w2 S2
  refine J.new S2 6 [.int .i64 0, .int .i64 0] 37 (by kernel_rfl) ?_
  intro b3 w3 S3
  refine J.run 6 K14_1 [(6, .pointer (some ⟨b3, 0, none⟩)), (4, .pointer (some ⟨b2, 0, none⟩)), (3, .pointer (some ⟨b1, 0, none⟩)), (2, .int .i64 x)] w3 (by kernel_rfl) ?_
  refine J.ok (OK.ldBox S3 2 11 25 0 (.agg #[.slice c.gStates_a c.gStates_n c.gStates_c, .slice c.gInputs_a c.gInputs_n c.gInputs_c, .int .i64 c.gStart, .slice c.gMoves_a c.gMoves_n c.gMoves_c]) (by kernel_rfl) rfl (by kernel_rfl)) ?_
  refine J.callF 12 19 #[.agg #[.slice c.gStates_a c.gStates_n c.gStates_c, .slice c.gInputs_a c.gInputs_n c.gInputs_c, .int .i64 c.gStart, .slice c.gMoves_a c.gMoves_n c.gMoves_c]] hb19 (by kernel_rfl) (valid_any c _ (chtQ_sep hc S3)) ?_
  rintro _ w4 ⟨rfl, T1⟩
  have S4 : Sep w [box b3 [.int .i64 0, .int .i64 0] 37, box b2 [.int .i64 s, .int .i64 a] 37, box b1 [.slice c.gStates_a c.gStates_n c.gStates_c, .slice c.gInputs_a c.gInputs_n c.gInputs_c, .int .i64 c.gStart, .slice c.gMoves_a c.gMoves_n c.gMoves_c] 25] w4 := S3.trans T1
  clear T1 S3
  refine J.run 2 K14_2 [(14, .bool (!(validC c))), (6, .pointer (some ⟨b3, 0, none⟩)), (4, .pointer (some ⟨b2, 0, none⟩)), (3, .pointer (some ⟨b1, 0, none⟩)), (2, .int .i64 x)] w4 (by kernel_rfl) ?_
  rcases Bool.eq_false_or_eq_true (validC c) with fk1 | fk1
  · skip
    refine J.head (.bool false) (congrArg Value.bool (by rw [fk1]; rfl)) ?_
    have hvf := validC_facts fk1
    refine J.run 1 K14_3 [(15, .pointer (some ⟨b2, 0, none⟩)), (14, .bool false), (6, .pointer (some ⟨b3, 0, none⟩)), (4, .pointer (some ⟨b2, 0, none⟩)), (3, .pointer (some ⟨b1, 0, none⟩)), (2, .int .i64 x)] w4 (by kernel_rfl) ?_
    refine J.ok (OK.ldBox S4 1 16 3 0 (.int .i64 s) (by kernel_rfl) rfl (by kernel_rfl)) ?_
    refine J.run 3 K14_4 [(19, .bool (decide (s < 0))), (6, .pointer (some ⟨b3, 0, none⟩)), (4, .pointer (some ⟨b2, 0, none⟩)), (3, .pointer (some ⟨b1, 0, none⟩)), (2, .int .i64 x)] w4 (by kernel_rfl) ?_
    by_cases fk2 : s < 0
    · skip
      refine J.head (.bool true) (congrArg Value.bool (decide_eq_true fk2)) ?_
      refine J.run 22 K14_5 [(37, .agg #[.int .i64 0, .int .i64 0]), (6, .pointer (some ⟨b3, 0, none⟩))] w4 (by kernel_rfl) ?_
      refine J.stBox S4 0 37 0 (.agg #[.int .i64 0, .int .i64 0]) [.int .i64 0, .int .i64 0] [box b3 [.int .i64 0, .int .i64 0] 37, box b2 [.int .i64 s, .int .i64 a] 37, box b1 [.slice c.gStates_a c.gStates_n c.gStates_c, .slice c.gInputs_a c.gInputs_n c.gInputs_c, .int .i64 c.gStart, .slice c.gMoves_a c.gMoves_n c.gMoves_c] 25] (by kernel_rfl) rfl (by kernel_rfl) (by kernel_rfl) rfl ?_
      intro w5 S5
      refine J.run 3 K14_6 [(8, .int .i64 1), (7, .int .i64 0), (6, .pointer (some ⟨b3, 0, none⟩))] w5 (by kernel_rfl) ?_
      refine J.ret Try.f14 [.agg #[.int .i64 0, .int .i64 0], .int .i64 0, .int .i64 1] Try.func14 ⟨⟨⟨b3, 0, none⟩, by kernel_rfl, ldV_run (S5.nth 0 rfl) (by kernel_rfl)⟩, by kernel_rfl, by kernel_rfl, trivial⟩ ?_
      refine hR _ _ ?_
      exact ⟨by rw [tup_three, stepV, if_neg (by rw [fk1]; decide), if_pos (okS_not (by omega))], S5.nil⟩
    · skip
      refine J.head (.bool false) (congrArg Value.bool (decide_eq_false fk2)) ?_
      refine J.run 1 K14_7 [(20, .pointer (some ⟨b2, 0, none⟩)), (19, .bool false), (6, .pointer (some ⟨b3, 0, none⟩)), (4, .pointer (some ⟨b2, 0, none⟩)), (3, .pointer (some ⟨b1, 0, none⟩)), (2, .int .i64 x)] w4 (by kernel_rfl) ?_
      refine J.ok (OK.ldBox S4 1 21 3 0 (.int .i64 s) (by kernel_rfl) rfl (by kernel_rfl)) ?_
      refine J.run 1 K14_8 [(22, .pointer (some ⟨b1, 0, none⟩)), (21, .int .i64 s), (19, .bool false), (6, .pointer (some ⟨b3, 0, none⟩)), (4, .pointer (some ⟨b2, 0, none⟩)), (3, .pointer (some ⟨b1, 0, none⟩)), (2, .int .i64 x)] w4 (by kernel_rfl) ?_
      refine J.ok (OK.ldBox S4 2 23 22 0 (.slice c.gStates_a c.gStates_n c.gStates_c) (by kernel_rfl) rfl (by kernel_rfl)) ?_
      refine J.run 4 K14_9 [(27, .bool (decide (s ≥ (c.gStates_n : Int)))), (6, .pointer (some ⟨b3, 0, none⟩)), (4, .pointer (some ⟨b2, 0, none⟩)), (3, .pointer (some ⟨b1, 0, none⟩)), (2, .int .i64 x)] w4 (by kernel_rfl) ?_
      by_cases fk3 : s ≥ (c.gStates_n : Int)
      · skip
        refine J.head (.bool true) (congrArg Value.bool (decide_eq_true fk3)) ?_
        refine J.run 14 K14_10 [(37, .agg #[.int .i64 0, .int .i64 0]), (6, .pointer (some ⟨b3, 0, none⟩))] w4 (by kernel_rfl) ?_
        refine J.stBox S4 0 37 0 (.agg #[.int .i64 0, .int .i64 0]) [.int .i64 0, .int .i64 0] [box b3 [.int .i64 0, .int .i64 0] 37, box b2 [.int .i64 s, .int .i64 a] 37, box b1 [.slice c.gStates_a c.gStates_n c.gStates_c, .slice c.gInputs_a c.gInputs_n c.gInputs_c, .int .i64 c.gStart, .slice c.gMoves_a c.gMoves_n c.gMoves_c] 25] (by kernel_rfl) rfl (by kernel_rfl) (by kernel_rfl) rfl ?_
        intro w6 S6
        refine J.run 3 K14_11 [(8, .int .i64 1), (7, .int .i64 0), (6, .pointer (some ⟨b3, 0, none⟩))] w6 (by kernel_rfl) ?_
        refine J.ret Try.f14 [.agg #[.int .i64 0, .int .i64 0], .int .i64 0, .int .i64 1] Try.func14 ⟨⟨⟨b3, 0, none⟩, by kernel_rfl, ldV_run (S6.nth 0 rfl) (by kernel_rfl)⟩, by kernel_rfl, by kernel_rfl, trivial⟩ ?_
        refine hR _ _ ?_
        exact ⟨by rw [tup_three, stepV, if_neg (by rw [fk1]; decide), if_pos (okS_not (by omega))], S6.nil⟩
      · skip
        refine J.head (.bool false) (congrArg Value.bool (decide_eq_false fk3)) ?_
        refine J.run 1 K14_12 [(28, .pointer (some ⟨b2, 1, none⟩)), (27, .bool false), (6, .pointer (some ⟨b3, 0, none⟩)), (4, .pointer (some ⟨b2, 0, none⟩)), (3, .pointer (some ⟨b1, 0, none⟩)), (2, .int .i64 x)] w4 (by kernel_rfl) ?_
        refine J.ok (OK.ldBox S4 1 29 3 1 (.int .i64 a) (by kernel_rfl) rfl (by kernel_rfl)) ?_
        refine J.run 3 K14_13 [(32, .bool (decide (a < 0))), (6, .pointer (some ⟨b3, 0, none⟩)), (4, .pointer (some ⟨b2, 0, none⟩)), (3, .pointer (some ⟨b1, 0, none⟩)), (2, .int .i64 x)] w4 (by kernel_rfl) ?_
        by_cases fk4 : a < 0
        · skip
          refine J.head (.bool true) (congrArg Value.bool (decide_eq_true fk4)) ?_
          refine J.run 9 K14_14 [(37, .agg #[.int .i64 0, .int .i64 0]), (6, .pointer (some ⟨b3, 0, none⟩))] w4 (by kernel_rfl) ?_
          refine J.stBox S4 0 37 0 (.agg #[.int .i64 0, .int .i64 0]) [.int .i64 0, .int .i64 0] [box b3 [.int .i64 0, .int .i64 0] 37, box b2 [.int .i64 s, .int .i64 a] 37, box b1 [.slice c.gStates_a c.gStates_n c.gStates_c, .slice c.gInputs_a c.gInputs_n c.gInputs_c, .int .i64 c.gStart, .slice c.gMoves_a c.gMoves_n c.gMoves_c] 25] (by kernel_rfl) rfl (by kernel_rfl) (by kernel_rfl) rfl ?_
          intro w7 S7
          refine J.run 3 K14_15 [(8, .int .i64 1), (7, .int .i64 0), (6, .pointer (some ⟨b3, 0, none⟩))] w7 (by kernel_rfl) ?_
          refine J.ret Try.f14 [.agg #[.int .i64 0, .int .i64 0], .int .i64 0, .int .i64 1] Try.func14 ⟨⟨⟨b3, 0, none⟩, by kernel_rfl, ldV_run (S7.nth 0 rfl) (by kernel_rfl)⟩, by kernel_rfl, by kernel_rfl, trivial⟩ ?_
          refine hR _ _ ?_
          exact ⟨by rw [tup_three, stepV, if_neg (by rw [fk1]; decide), if_pos (okS_not (by omega))], S7.nil⟩
        · skip
          refine J.head (.bool false) (congrArg Value.bool (decide_eq_false fk4)) ?_
          refine J.run 1 K14_16 [(33, .pointer (some ⟨b2, 1, none⟩)), (32, .bool false), (6, .pointer (some ⟨b3, 0, none⟩)), (4, .pointer (some ⟨b2, 0, none⟩)), (3, .pointer (some ⟨b1, 0, none⟩)), (2, .int .i64 x)] w4 (by kernel_rfl) ?_
          refine J.ok (OK.ldBox S4 1 34 3 1 (.int .i64 a) (by kernel_rfl) rfl (by kernel_rfl)) ?_
          refine J.run 3 K14_17 [(36, .bool (decide (a > 1000))), (6, .pointer (some ⟨b3, 0, none⟩)), (4, .pointer (some ⟨b2, 0, none⟩)), (3, .pointer (some ⟨b1, 0, none⟩)), (2, .int .i64 x)] w4 (by kernel_rfl) ?_
          by_cases fk5 : a > 1000
          · skip
            refine J.head (.bool true) (congrArg Value.bool (decide_eq_true fk5)) ?_
            refine J.run 4 K14_18 [(37, .agg #[.int .i64 0, .int .i64 0]), (6, .pointer (some ⟨b3, 0, none⟩))] w4 (by kernel_rfl) ?_
            refine J.stBox S4 0 37 0 (.agg #[.int .i64 0, .int .i64 0]) [.int .i64 0, .int .i64 0] [box b3 [.int .i64 0, .int .i64 0] 37, box b2 [.int .i64 s, .int .i64 a] 37, box b1 [.slice c.gStates_a c.gStates_n c.gStates_c, .slice c.gInputs_a c.gInputs_n c.gInputs_c, .int .i64 c.gStart, .slice c.gMoves_a c.gMoves_n c.gMoves_c] 25] (by kernel_rfl) rfl (by kernel_rfl) (by kernel_rfl) rfl ?_
            intro w8 S8
            refine J.run 3 K14_19 [(8, .int .i64 1), (7, .int .i64 0), (6, .pointer (some ⟨b3, 0, none⟩))] w8 (by kernel_rfl) ?_
            refine J.ret Try.f14 [.agg #[.int .i64 0, .int .i64 0], .int .i64 0, .int .i64 1] Try.func14 ⟨⟨⟨b3, 0, none⟩, by kernel_rfl, ldV_run (S8.nth 0 rfl) (by kernel_rfl)⟩, by kernel_rfl, by kernel_rfl, trivial⟩ ?_
            refine hR _ _ ?_
            exact ⟨by rw [tup_three, stepV, if_neg (by rw [fk1]; decide), if_pos (okS_not (by omega))], S8.nil⟩
          · skip
            refine J.head (.bool false) (congrArg Value.bool (decide_eq_false fk5)) ?_
            refine J.run 5 K14_20 [(6, .pointer (some ⟨b3, 0, none⟩)), (4, .pointer (some ⟨b2, 0, none⟩)), (3, .pointer (some ⟨b1, 0, none⟩)), (2, .int .i64 x)] w4 (by kernel_rfl) ?_
            refine J.ok (OK.ldBox S4 2 38 25 0 (.agg #[.slice c.gStates_a c.gStates_n c.gStates_c, .slice c.gInputs_a c.gInputs_n c.gInputs_c, .int .i64 c.gStart, .slice c.gMoves_a c.gMoves_n c.gMoves_c]) (by kernel_rfl) rfl (by kernel_rfl)) ?_
            refine J.run 1 K14_21 [(39, .int .i64 x), (38, .agg #[.slice c.gStates_a c.gStates_n c.gStates_c, .slice c.gInputs_a c.gInputs_n c.gInputs_c, .int .i64 c.gStart, .slice c.gMoves_a c.gMoves_n c.gMoves_c]), (6, .pointer (some ⟨b3, 0, none⟩)), (4, .pointer (some ⟨b2, 0, none⟩)), (3, .pointer (some ⟨b1, 0, none⟩)), (2, .int .i64 x)] w4 (by kernel_rfl) ?_
            refine J.callF 40 34 #[.agg #[.slice c.gStates_a c.gStates_n c.gStates_c, .slice c.gInputs_a c.gInputs_n c.gInputs_c, .int .i64 c.gStart, .slice c.gMoves_a c.gMoves_n c.gMoves_c], .int .i64 x] hb34 (by kernel_rfl) (inside_any c x _ (chtQ_sep hc S4) (by omega)) ?_
            rintro _ w9 ⟨rfl, T2⟩
            have S9 : Sep w [box b3 [.int .i64 0, .int .i64 0] 37, box b2 [.int .i64 s, .int .i64 a] 37, box b1 [.slice c.gStates_a c.gStates_n c.gStates_c, .slice c.gInputs_a c.gInputs_n c.gInputs_c, .int .i64 c.gStart, .slice c.gMoves_a c.gMoves_n c.gMoves_c] 25] w9 := S4.trans T2
            clear T2 S4
            refine J.run 2 K14_22 [(41, .bool (!(insideB c x))), (6, .pointer (some ⟨b3, 0, none⟩)), (4, .pointer (some ⟨b2, 0, none⟩)), (3, .pointer (some ⟨b1, 0, none⟩)), (2, .int .i64 x)] w9 (by kernel_rfl) ?_
            rcases Bool.eq_false_or_eq_true (insideB c x) with fk6 | fk6
            · skip
              refine J.head (.bool false) (congrArg Value.bool (by rw [fk6]; rfl)) ?_
              refine J.run 4 K14_23 [(6, .pointer (some ⟨b3, 0, none⟩)), (4, .pointer (some ⟨b2, 0, none⟩)), (3, .pointer (some ⟨b1, 0, none⟩)), (2, .int .i64 x)] w9 (by kernel_rfl) ?_
              refine J.ok (OK.ldBox S9 2 44 25 0 (.agg #[.slice c.gStates_a c.gStates_n c.gStates_c, .slice c.gInputs_a c.gInputs_n c.gInputs_c, .int .i64 c.gStart, .slice c.gMoves_a c.gMoves_n c.gMoves_c]) (by kernel_rfl) rfl (by kernel_rfl)) ?_
              refine J.ok (OK.ldBox S9 1 45 37 0 (.agg #[.int .i64 s, .int .i64 a]) (by kernel_rfl) rfl (by kernel_rfl)) ?_
              refine J.run 1 K14_24 [(46, .int .i64 x), (45, .agg #[.int .i64 s, .int .i64 a]), (44, .agg #[.slice c.gStates_a c.gStates_n c.gStates_c, .slice c.gInputs_a c.gInputs_n c.gInputs_c, .int .i64 c.gStart, .slice c.gMoves_a c.gMoves_n c.gMoves_c]), (6, .pointer (some ⟨b3, 0, none⟩))] w9 (by kernel_rfl) ?_
              refine J.callF 47 35 #[.agg #[.slice c.gStates_a c.gStates_n c.gStates_c, .slice c.gInputs_a c.gInputs_n c.gInputs_c, .int .i64 c.gStart, .slice c.gMoves_a c.gMoves_n c.gMoves_c], .agg #[.int .i64 s, .int .i64 a], .int .i64 x] hb35 (by kernel_rfl) (step_any c s a x _ (chtQ_sep hc S9) (by omega)) ?_
              rintro _ w10 ⟨rfl, T3⟩
              have S10 : Sep w [box b3 [.int .i64 0, .int .i64 0] 37, box b2 [.int .i64 s, .int .i64 a] 37, box b1 [.slice c.gStates_a c.gStates_n c.gStates_c, .slice c.gInputs_a c.gInputs_n c.gInputs_c, .int .i64 c.gStart, .slice c.gMoves_a c.gMoves_n c.gMoves_c] 25] w10 := S9.trans T3
              clear T3 S9
              have := stepI_bounds c s a x
              refine J.run 3 K14_25 [(49, .int .i64 (stepI c s a x)), (48, .agg #[.int .i64 (stepS c s a x), .int .i64 (stepA c s a x)]), (6, .pointer (some ⟨b3, 0, none⟩))] w10 (by kernel_rfl) ?_
              refine J.new S10 9 [.int .i64 0, .int .i64 0] 37 (by kernel_rfl) ?_
              intro b4 w11 S11
              refine J.stBox S11 0 37 0 (.agg #[.int .i64 (stepS c s a x), .int .i64 (stepA c s a x)]) [.int .i64 (stepS c s a x), .int .i64 (stepA c s a x)] [box b4 [.int .i64 (stepS c s a x), .int .i64 (stepA c s a x)] 37, box b3 [.int .i64 0, .int .i64 0] 37, box b2 [.int .i64 s, .int .i64 a] 37, box b1 [.slice c.gStates_a c.gStates_n c.gStates_c, .slice c.gInputs_a c.gInputs_n c.gInputs_c, .int .i64 c.gStart, .slice c.gMoves_a c.gMoves_n c.gMoves_c] 25] (by kernel_rfl) rfl (by kernel_rfl) (by kernel_rfl) rfl ?_
              intro w12 S12
              refine J.run 4 K14_26 [(10, .int .i64 (stepI c s a x)), (9, .pointer (some ⟨b4, 0, none⟩)), (6, .pointer (some ⟨b3, 0, none⟩))] w12 (by kernel_rfl) ?_
              refine J.ok (OK.ldBox S12 0 50 37 0 (.agg #[.int .i64 (stepS c s a x), .int .i64 (stepA c s a x)]) (by kernel_rfl) rfl (by kernel_rfl)) ?_
              refine J.run 1 K14_27 [(51, .int .i64 (stepI c s a x)), (50, .agg #[.int .i64 (stepS c s a x), .int .i64 (stepA c s a x)]), (6, .pointer (some ⟨b3, 0, none⟩))] w12 (by kernel_rfl) ?_
              refine J.stBox S12 1 37 0 (.agg #[.int .i64 (stepS c s a x), .int .i64 (stepA c s a x)]) [.int .i64 (stepS c s a x), .int .i64 (stepA c s a x)] [box b4 [.int .i64 (stepS c s a x), .int .i64 (stepA c s a x)] 37, box b3 [.int .i64 (stepS c s a x), .int .i64 (stepA c s a x)] 37, box b2 [.int .i64 s, .int .i64 a] 37, box b1 [.slice c.gStates_a c.gStates_n c.gStates_c, .slice c.gInputs_a c.gInputs_n c.gInputs_c, .int .i64 c.gStart, .slice c.gMoves_a c.gMoves_n c.gMoves_c] 25] (by kernel_rfl) rfl (by kernel_rfl) (by kernel_rfl) rfl ?_
              intro w13 S13
              refine J.run 3 K14_28 [(8, .int .i64 0), (7, .int .i64 (stepI c s a x)), (6, .pointer (some ⟨b3, 0, none⟩))] w13 (by kernel_rfl) ?_
              refine J.ret Try.f14 [.agg #[.int .i64 (stepS c s a x), .int .i64 (stepA c s a x)], .int .i64 (stepI c s a x), .int .i64 0] Try.func14 ⟨⟨⟨b3, 0, none⟩, by kernel_rfl, ldV_run (S13.nth 1 rfl) (by kernel_rfl)⟩, by kernel_rfl, by kernel_rfl, trivial⟩ ?_
              refine hR _ _ ?_
              exact ⟨by rw [tup_three, stepV, if_neg (by rw [fk1]; decide), if_neg (by rw [okS_iff.2 (by omega)]; decide), if_neg (by rw [fk6]; decide)], S13.nil⟩
            · skip
              refine J.head (.bool true) (congrArg Value.bool (by rw [fk6]; rfl)) ?_
              refine J.run 4 K14_29 [(42, .agg #[.int .i64 0, .int .i64 0]), (6, .pointer (some ⟨b3, 0, none⟩))] w9 (by kernel_rfl) ?_
              refine J.stBox S9 0 37 0 (.agg #[.int .i64 0, .int .i64 0]) [.int .i64 0, .int .i64 0] [box b3 [.int .i64 0, .int .i64 0] 37, box b2 [.int .i64 s, .int .i64 a] 37, box b1 [.slice c.gStates_a c.gStates_n c.gStates_c, .slice c.gInputs_a c.gInputs_n c.gInputs_c, .int .i64 c.gStart, .slice c.gMoves_a c.gMoves_n c.gMoves_c] 25] (by kernel_rfl) rfl (by kernel_rfl) (by kernel_rfl) rfl ?_
              intro w14 S14
              refine J.run 3 K14_30 [(8, .int .i64 2), (7, .int .i64 0), (6, .pointer (some ⟨b3, 0, none⟩))] w14 (by kernel_rfl) ?_
              refine J.ret Try.f14 [.agg #[.int .i64 0, .int .i64 0], .int .i64 0, .int .i64 2] Try.func14 ⟨⟨⟨b3, 0, none⟩, by kernel_rfl, ldV_run (S14.nth 0 rfl) (by kernel_rfl)⟩, by kernel_rfl, by kernel_rfl, trivial⟩ ?_
              refine hR _ _ ?_
              exact ⟨by rw [tup_three, stepV, if_neg (by rw [fk1]; decide), if_neg (by rw [okS_iff.2 (by omega)]; decide), if_pos fk6], S14.nil⟩
  · skip
    refine J.head (.bool true) (congrArg Value.bool (by rw [fk1]; rfl)) ?_
    refine J.run 27 K14_31 [(37, .agg #[.int .i64 0, .int .i64 0]), (6, .pointer (some ⟨b3, 0, none⟩))] w4 (by kernel_rfl) ?_
    refine J.stBox S4 0 37 0 (.agg #[.int .i64 0, .int .i64 0]) [.int .i64 0, .int .i64 0] [box b3 [.int .i64 0, .int .i64 0] 37, box b2 [.int .i64 s, .int .i64 a] 37, box b1 [.slice c.gStates_a c.gStates_n c.gStates_c, .slice c.gInputs_a c.gInputs_n c.gInputs_c, .int .i64 c.gStart, .slice c.gMoves_a c.gMoves_n c.gMoves_c] 25] (by kernel_rfl) rfl (by kernel_rfl) (by kernel_rfl) rfl ?_
    intro w15 S15
    refine J.run 3 K14_32 [(8, .int .i64 1), (7, .int .i64 0), (6, .pointer (some ⟨b3, 0, none⟩))] w15 (by kernel_rfl) ?_
    refine J.ret Try.f14 [.agg #[.int .i64 0, .int .i64 0], .int .i64 0, .int .i64 1] Try.func14 ⟨⟨⟨b3, 0, none⟩, by kernel_rfl, ldV_run (S15.nth 0 rfl) (by kernel_rfl)⟩, by kernel_rfl, by kernel_rfl, trivial⟩ ?_
    refine hR _ _ ?_
    exact ⟨by rw [tup_three, stepV, if_pos fk1], S15.nil⟩

theorem hb18 : HasBody Try.prog 18 := fun _ _ => by kernel_rfl
noncomputable def K18_0 : List Item := adv 2 [] (bodyOf Try.f18)
noncomputable def K18_1 : List Item := adv 6 [] (popK (popK (popK K18_0)))
noncomputable def K18_2 : List Item := adv 2 [] (popK (popK K18_1))
noncomputable def K18_3 : List Item := adv 1 [] K18_2
noncomputable def K18_4 : List Item := adv 3 [] (popK K18_3)
noncomputable def K18_5 : List Item := adv 22 [true] K18_4
noncomputable def K18_6 : List Item := adv 3 [] (popK K18_5)
noncomputable def K18_7 : List Item := adv 1 [] K18_4
noncomputable def K18_8 : List Item := adv 1 [] (popK K18_7)
noncomputable def K18_9 : List Item := adv 4 [] (popK K18_8)
noncomputable def K18_10 : List Item := adv 14 [true] K18_9
noncomputable def K18_11 : List Item := adv 3 [] (popK K18_10)
noncomputable def K18_12 : List Item := adv 1 [] K18_9
noncomputable def K18_13 : List Item := adv 3 [] (popK K18_12)
noncomputable def K18_14 : List Item := adv 9 [true] K18_13
noncomputable def K18_15 : List Item := adv 3 [] (popK K18_14)
noncomputable def K18_16 : List Item := adv 1 [] K18_13
noncomputable def K18_17 : List Item := adv 3 [] (popK K18_16)
noncomputable def K18_18 : List Item := adv 4 [true] K18_17
noncomputable def K18_19 : List Item := adv 3 [] (popK K18_18)
noncomputable def K18_20 : List Item := adv 8 [false] K18_17
noncomputable def K18_21 : List Item := adv 12 [true] K18_20
noncomputable def K18_22 : List Item := adv 3 [] (popK K18_21)
noncomputable def K18_23 : List Item := adv 2 [] K18_20
noncomputable def K18_24 : List Item := adv 1 [] (popK K18_23)
noncomputable def K18_25 : List Item := adv 3 [] (popK K18_24)
noncomputable def K18_26 : List Item := adv 4 [true] K18_25
noncomputable def K18_27 : List Item := adv 3 [] (popK K18_26)
noncomputable def K18_28 : List Item := adv 9 [false] K18_25
noncomputable def K18_29 : List Item := adv 5 [] K18_28
noncomputable def K18_30 : List Item := adv 3 [] (popK K18_29)
noncomputable def K18_31 : List Item := adv 5 [true] K18_30
noncomputable def K18_32 : List Item := adv 4 [true] (rRest K18_31)
noncomputable def K18_33 : List Item := adv 1 [] (popK K18_32)
noncomputable def K18_34 : List Item := adv 1 [] (popK K18_33)
noncomputable def K18_35 : List Item := adv 2 [] (popK K18_34)
noncomputable def K18_36 : List Item := adv 3 [] (popK K18_35)
noncomputable def K18_37 : List Item := adv 6 [false] (rRest K18_31)
noncomputable def K18_38 : List Item := adv 5 [false] K18_30
noncomputable def K18_39 : List Item := adv 1 [] (popK K18_38)
noncomputable def K18_40 : List Item := adv 1 [] (popK K18_39)
noncomputable def K18_41 : List Item := adv 1 [] K18_40
noncomputable def K18_42 : List Item := adv 1 [] K18_41
noncomputable def K18_43 : List Item := adv 3 [] (popK K18_42)
noncomputable def K18_44 : List Item := adv 27 [true] K18_2
noncomputable def K18_45 : List Item := adv 3 [] (popK K18_44)
set_option maxRecDepth 20000 in
set_option maxHeartbeats 20000000 in
theorem rstep3_any (c : Cht) (s a x : Int) (w : World) (hc : chtQ w c) : Ret Try.prog 18 #[.agg #[.slice c.gStates_a c.gStates_n c.gStates_c, .slice c.gInputs_a c.gInputs_n c.gInputs_c, .int .i64 c.gStart, .slice c.gMoves_a c.gMoves_n c.gMoves_c], .agg #[.int .i64 s, .int .i64 a], .int .i64 x] w (fun v w' => v = stepV c s a x ∧ Sep w [] w') := by
  have S0 := Sep.refl w
  refine Ret.named fun R hR => ?_
  refine Ret.of_J (N := 78) [(0, .agg #[.slice c.gStates_a c.gStates_n c.gStates_c, .slice c.gInputs_a c.gInputs_n c.gInputs_c, .int .i64 c.gStart, .slice c.gMoves_a c.gMoves_n c.gMoves_c]), (1, .agg #[.int .i64 s, .int .i64 a]), (2, .int .i64 x)] Try.func18 rfl rfl (Nat.le_of_ble_eq_true (by kernel_rfl)) (by kernel_rfl) ?_
  obtain ⟨q1, q2, q3, q4, q5, q6, q7, q8, q9, q10, _⟩ := id hc
  have ql1 := q2.len_eq
  have ql2 := q5.len_eq
  have ql3 := q9.len_eq
  refine J.run 2 K18_0 [(0, .agg #[.slice c.gStates_a c.gStates_n c.gStates_c, .slice c.gInputs_a c.gInputs_n c.gInputs_c, .int .i64 c.gStart, .slice c.gMoves_a c.gMoves_n c.gMoves_c]), (1, .agg #[.int .i64 s, .int .i64 a]), (2, .int .i64 x)] w (by kernel_rfl) ?_
  refine J.new S0 3 [.slice c.gStates_a c.gStates_n c.gStates_c, .slice c.gInputs_a c.gInputs_n c.gInputs_c, .int .i64 c.gStart, .slice c.gMoves_a c.gMoves_n c.gMoves_c] 25 (by kernel_rfl) ?_
  intro b1 w1 S1
  refine J.new S1 4 [.int .i64 s, .int .i64 a] 37 (by kernel_rfl) ?_
  intro b2 w2 S2
  refine J.new S2 6 [.int .i64 0, .int .i64 0] 37 (by kernel_rfl) ?_
  intro b3 w3 S3
  refine J.run 6 K18_1 [(6, .pointer (some ⟨b3, 0, none⟩)), (4, .pointer (some ⟨b2, 0, none⟩)), (3, .pointer (some ⟨b1, 0, none⟩)), (2, .int .i64 x)] w3 (by kernel_rfl) ?_
  refine J.ok (OK.ldBox S3 2 10 25 0 (.agg #[.slice c.gStates_a c.gStates_n c.gStates_c, .slice c.gInputs_a c.gInputs_n c.gInputs_c, .int .i64 c.gStart, .slice c.gMoves_a c.gMoves_n c.gMoves_c]) (by kernel_rfl) rfl (by kernel_rfl)) ?_
  refine J.callF 11 20 #[.agg #[.slice c.gStates_a c.gStates_n c.gStates_c, .slice c.gInputs_a c.gInputs_n c.gInputs_c, .int .i64 c.gStart, .slice c.gMoves_a c.gMoves_n c.gMoves_c]] hb20 (by kernel_rfl) (rvalid_any c _ (chtQ_sep hc S3)) ?_
  rintro _ w4 ⟨rfl, T1⟩
  have S4 : Sep w [box b3 [.int .i64 0, .int .i64 0] 37, box b2 [.int .i64 s, .int .i64 a] 37, box b1 [.slice c.gStates_a c.gStates_n c.gStates_c, .slice c.gInputs_a c.gInputs_n c.gInputs_c, .int .i64 c.gStart, .slice c.gMoves_a c.gMoves_n c.gMoves_c] 25] w4 := S3.trans T1
  clear T1 S3
  refine J.run 2 K18_2 [(13, .bool (!(validC c))), (6, .pointer (some ⟨b3, 0, none⟩)), (4, .pointer (some ⟨b2, 0, none⟩)), (3, .pointer (some ⟨b1, 0, none⟩)), (2, .int .i64 x)] w4 (by kernel_rfl) ?_
  rcases Bool.eq_false_or_eq_true (validC c) with fk1 | fk1
  · skip
    refine J.head (.bool false) (congrArg Value.bool (by rw [fk1]; rfl)) ?_
    have hvf := validC_facts fk1
    refine J.run 1 K18_3 [(14, .pointer (some ⟨b2, 0, none⟩)), (13, .bool false), (6, .pointer (some ⟨b3, 0, none⟩)), (4, .pointer (some ⟨b2, 0, none⟩)), (3, .pointer (some ⟨b1, 0, none⟩)), (2, .int .i64 x)] w4 (by kernel_rfl) ?_
    refine J.ok (OK.ldBox S4 1 15 3 0 (.int .i64 s) (by kernel_rfl) rfl (by kernel_rfl)) ?_
    refine J.run 3 K18_4 [(18, .bool (decide (s < 0))), (6, .pointer (some ⟨b3, 0, none⟩)), (4, .pointer (some ⟨b2, 0, none⟩)), (3, .pointer (some ⟨b1, 0, none⟩)), (2, .int .i64 x)] w4 (by kernel_rfl) ?_
    by_cases fk2 : s < 0
    · skip
      refine J.head (.bool true) (congrArg Value.bool (decide_eq_true fk2)) ?_
      refine J.run 22 K18_5 [(36, .agg #[.int .i64 0, .int .i64 0]), (6, .pointer (some ⟨b3, 0, none⟩))] w4 (by kernel_rfl) ?_
      refine J.stBox S4 0 37 0 (.agg #[.int .i64 0, .int .i64 0]) [.int .i64 0, .int .i64 0] [box b3 [.int .i64 0, .int .i64 0] 37, box b2 [.int .i64 s, .int .i64 a] 37, box b1 [.slice c.gStates_a c.gStates_n c.gStates_c, .slice c.gInputs_a c.gInputs_n c.gInputs_c, .int .i64 c.gStart, .slice c.gMoves_a c.gMoves_n c.gMoves_c] 25] (by kernel_rfl) rfl (by kernel_rfl) (by kernel_rfl) rfl ?_
      intro w5 S5
      refine J.run 3 K18_6 [(8, .int .i64 1), (7, .int .i64 0), (6, .pointer (some ⟨b3, 0, none⟩))] w5 (by kernel_rfl) ?_
      refine J.ret Try.f18 [.agg #[.int .i64 0, .int .i64 0], .int .i64 0, .int .i64 1] Try.func18 ⟨⟨⟨b3, 0, none⟩, by kernel_rfl, ldV_run (S5.nth 0 rfl) (by kernel_rfl)⟩, by kernel_rfl, by kernel_rfl, trivial⟩ ?_
      refine hR _ _ ?_
      exact ⟨by rw [tup_three, stepV, if_neg (by rw [fk1]; decide), if_pos (okS_not (by omega))], S5.nil⟩
    · skip
      refine J.head (.bool false) (congrArg Value.bool (decide_eq_false fk2)) ?_
      refine J.run 1 K18_7 [(19, .pointer (some ⟨b2, 0, none⟩)), (18, .bool false), (6, .pointer (some ⟨b3, 0, none⟩)), (4, .pointer (some ⟨b2, 0, none⟩)), (3, .pointer (some ⟨b1, 0, none⟩)), (2, .int .i64 x)] w4 (by kernel_rfl) ?_
      refine J.ok (OK.ldBox S4 1 20 3 0 (.int .i64 s) (by kernel_rfl) rfl (by kernel_rfl)) ?_
      refine J.run 1 K18_8 [(21, .pointer (some ⟨b1, 0, none⟩)), (20, .int .i64 s), (18, .bool false), (6, .pointer (some ⟨b3, 0, none⟩)), (4, .pointer (some ⟨b2, 0, none⟩)), (3, .pointer (some ⟨b1, 0, none⟩)), (2, .int .i64 x)] w4 (by kernel_rfl) ?_
      refine J.ok (OK.ldBox S4 2 22 22 0 (.slice c.gStates_a c.gStates_n c.gStates_c) (by kernel_rfl) rfl (by kernel_rfl)) ?_
      refine J.run 4 K18_9 [(26, .bool (decide (s ≥ (c.gStates_n : Int)))), (6, .pointer (some ⟨b3, 0, none⟩)), (4, .pointer (some ⟨b2, 0, none⟩)), (3, .pointer (some ⟨b1, 0, none⟩)), (2, .int .i64 x)] w4 (by kernel_rfl) ?_
      by_cases fk3 : s ≥ (c.gStates_n : Int)
      · skip
        refine J.head (.bool true) (congrArg Value.bool (decide_eq_true fk3)) ?_
        refine J.run 14 K18_10 [(36, .agg #[.int .i64 0, .int .i64 0]), (6, .pointer (some ⟨b3, 0, none⟩))] w4 (by kernel_rfl) ?_
        refine J.stBox S4 0 37 0 (.agg #[.int .i64 0, .int .i64 0]) [.int .i64 0, .int .i64 0] [box b3 [.int .i64 0, .int .i64 0] 37, box b2 [.int .i64 s, .int .i64 a] 37, box b1 [.slice c.gStates_a c.gStates_n c.gStates_c, .slice c.gInputs_a c.gInputs_n c.gInputs_c, .int .i64 c.gStart, .slice c.gMoves_a c.gMoves_n c.gMoves_c] 25] (by kernel_rfl) rfl (by kernel_rfl) (by kernel_rfl) rfl ?_
        intro w6 S6
        refine J.run 3 K18_11 [(8, .int .i64 1), (7, .int .i64 0), (6, .pointer (some ⟨b3, 0, none⟩))] w6 (by kernel_rfl) ?_
        refine J.ret Try.f18 [.agg #[.int .i64 0, .int .i64 0], .int .i64 0, .int .i64 1] Try.func18 ⟨⟨⟨b3, 0, none⟩, by kernel_rfl, ldV_run (S6.nth 0 rfl) (by kernel_rfl)⟩, by kernel_rfl, by kernel_rfl, trivial⟩ ?_
        refine hR _ _ ?_
        exact ⟨by rw [tup_three, stepV, if_neg (by rw [fk1]; decide), if_pos (okS_not (by omega))], S6.nil⟩
      · skip
        refine J.head (.bool false) (congrArg Value.bool (decide_eq_false fk3)) ?_
        refine J.run 1 K18_12 [(27, .pointer (some ⟨b2, 1, none⟩)), (26, .bool false), (6, .pointer (some ⟨b3, 0, none⟩)), (4, .pointer (some ⟨b2, 0, none⟩)), (3, .pointer (some ⟨b1, 0, none⟩)), (2, .int .i64 x)] w4 (by kernel_rfl) ?_
        refine J.ok (OK.ldBox S4 1 28 3 1 (.int .i64 a) (by kernel_rfl) rfl (by kernel_rfl)) ?_
        refine J.run 3 K18_13 [(31, .bool (decide (a < 0))), (6, .pointer (some ⟨b3, 0, none⟩)), (4, .pointer (some ⟨b2, 0, none⟩)), (3, .pointer (some ⟨b1, 0, none⟩)), (2, .int .i64 x)] w4 (by kernel_rfl) ?_
        by_cases fk4 : a < 0
        · skip
          refine J.head (.bool true) (congrArg Value.bool (decide_eq_true fk4)) ?_
          refine J.run 9 K18_14 [(36, .agg #[.int .i64 0, .int .i64 0]), (6, .pointer (some ⟨b3, 0, none⟩))] w4 (by kernel_rfl) ?_
          refine J.stBox S4 0 37 0 (.agg #[.int .i64 0, .int .i64 0]) [.int .i64 0, .int .i64 0] [box b3 [.int .i64 0, .int .i64 0] 37, box b2 [.int .i64 s, .int .i64 a] 37, box b1 [.slice c.gStates_a c.gStates_n c.gStates_c, .slice c.gInputs_a c.gInputs_n c.gInputs_c, .int .i64 c.gStart, .slice c.gMoves_a c.gMoves_n c.gMoves_c] 25] (by kernel_rfl) rfl (by kernel_rfl) (by kernel_rfl) rfl ?_
          intro w7 S7
          refine J.run 3 K18_15 [(8, .int .i64 1), (7, .int .i64 0), (6, .pointer (some ⟨b3, 0, none⟩))] w7 (by kernel_rfl) ?_
          refine J.ret Try.f18 [.agg #[.int .i64 0, .int .i64 0], .int .i64 0, .int .i64 1] Try.func18 ⟨⟨⟨b3, 0, none⟩, by kernel_rfl, ldV_run (S7.nth 0 rfl) (by kernel_rfl)⟩, by kernel_rfl, by kernel_rfl, trivial⟩ ?_
          refine hR _ _ ?_
          exact ⟨by rw [tup_three, stepV, if_neg (by rw [fk1]; decide), if_pos (okS_not (by omega))], S7.nil⟩
        · skip
          refine J.head (.bool false) (congrArg Value.bool (decide_eq_false fk4)) ?_
          refine J.run 1 K18_16 [(32, .pointer (some ⟨b2, 1, none⟩)), (31, .bool false), (6, .pointer (some ⟨b3, 0, none⟩)), (4, .pointer (some ⟨b2, 0, none⟩)), (3, .pointer (some ⟨b1, 0, none⟩)), (2, .int .i64 x)] w4 (by kernel_rfl) ?_
          refine J.ok (OK.ldBox S4 1 33 3 1 (.int .i64 a) (by kernel_rfl) rfl (by kernel_rfl)) ?_
          refine J.run 3 K18_17 [(35, .bool (decide (a > 1000))), (6, .pointer (some ⟨b3, 0, none⟩)), (4, .pointer (some ⟨b2, 0, none⟩)), (3, .pointer (some ⟨b1, 0, none⟩)), (2, .int .i64 x)] w4 (by kernel_rfl) ?_
          by_cases fk5 : a > 1000
          · skip
            refine J.head (.bool true) (congrArg Value.bool (decide_eq_true fk5)) ?_
            refine J.run 4 K18_18 [(36, .agg #[.int .i64 0, .int .i64 0]), (6, .pointer (some ⟨b3, 0, none⟩))] w4 (by kernel_rfl) ?_
            refine J.stBox S4 0 37 0 (.agg #[.int .i64 0, .int .i64 0]) [.int .i64 0, .int .i64 0] [box b3 [.int .i64 0, .int .i64 0] 37, box b2 [.int .i64 s, .int .i64 a] 37, box b1 [.slice c.gStates_a c.gStates_n c.gStates_c, .slice c.gInputs_a c.gInputs_n c.gInputs_c, .int .i64 c.gStart, .slice c.gMoves_a c.gMoves_n c.gMoves_c] 25] (by kernel_rfl) rfl (by kernel_rfl) (by kernel_rfl) rfl ?_
            intro w8 S8
            refine J.run 3 K18_19 [(8, .int .i64 1), (7, .int .i64 0), (6, .pointer (some ⟨b3, 0, none⟩))] w8 (by kernel_rfl) ?_
            refine J.ret Try.f18 [.agg #[.int .i64 0, .int .i64 0], .int .i64 0, .int .i64 1] Try.func18 ⟨⟨⟨b3, 0, none⟩, by kernel_rfl, ldV_run (S8.nth 0 rfl) (by kernel_rfl)⟩, by kernel_rfl, by kernel_rfl, trivial⟩ ?_
            refine hR _ _ ?_
            exact ⟨by rw [tup_three, stepV, if_neg (by rw [fk1]; decide), if_pos (okS_not (by omega))], S8.nil⟩
          · skip
            refine J.head (.bool false) (congrArg Value.bool (decide_eq_false fk5)) ?_
            refine J.run 8 K18_20 [(39, .bool (decide (x < 0))), (6, .pointer (some ⟨b3, 0, none⟩)), (4, .pointer (some ⟨b2, 0, none⟩)), (3, .pointer (some ⟨b1, 0, none⟩)), (2, .int .i64 x)] w4 (by kernel_rfl) ?_
            by_cases fk6 : x < 0
            · skip
              refine J.head (.bool true) (congrArg Value.bool (decide_eq_true fk6)) ?_
              refine J.run 12 K18_21 [(47, .agg #[.int .i64 0, .int .i64 0]), (6, .pointer (some ⟨b3, 0, none⟩))] w4 (by kernel_rfl) ?_
              refine J.stBox S4 0 37 0 (.agg #[.int .i64 0, .int .i64 0]) [.int .i64 0, .int .i64 0] [box b3 [.int .i64 0, .int .i64 0] 37, box b2 [.int .i64 s, .int .i64 a] 37, box b1 [.slice c.gStates_a c.gStates_n c.gStates_c, .slice c.gInputs_a c.gInputs_n c.gInputs_c, .int .i64 c.gStart, .slice c.gMoves_a c.gMoves_n c.gMoves_c] 25] (by kernel_rfl) rfl (by kernel_rfl) (by kernel_rfl) rfl ?_
              intro w9 S9
              refine J.run 3 K18_22 [(8, .int .i64 2), (7, .int .i64 0), (6, .pointer (some ⟨b3, 0, none⟩))] w9 (by kernel_rfl) ?_
              refine J.ret Try.f18 [.agg #[.int .i64 0, .int .i64 0], .int .i64 0, .int .i64 2] Try.func18 ⟨⟨⟨b3, 0, none⟩, by kernel_rfl, ldV_run (S9.nth 0 rfl) (by kernel_rfl)⟩, by kernel_rfl, by kernel_rfl, trivial⟩ ?_
              refine hR _ _ ?_
              exact ⟨by rw [tup_three, stepV, if_neg (by rw [fk1]; decide), if_neg (by rw [okS_iff.2 (by omega)]; decide), if_pos (inside_not (by omega))], S9.nil⟩
            · skip
              refine J.head (.bool false) (congrArg Value.bool (decide_eq_false fk6)) ?_
              refine J.run 2 K18_23 [(41, .pointer (some ⟨b1, 1, none⟩)), (40, .int .i64 x), (39, .bool false), (6, .pointer (some ⟨b3, 0, none⟩)), (4, .pointer (some ⟨b2, 0, none⟩)), (3, .pointer (some ⟨b1, 0, none⟩)), (2, .int .i64 x)] w4 (by kernel_rfl) ?_
              refine J.ok (OK.ldBox S4 2 42 22 1 (.slice c.gInputs_a c.gInputs_n c.gInputs_c) (by kernel_rfl) rfl (by kernel_rfl)) ?_
              refine J.run 1 K18_24 [(43, .int .i64 (c.gInputs_n : Int)), (40, .int .i64 x), (39, .bool false), (6, .pointer (some ⟨b3, 0, none⟩)), (4, .pointer (some ⟨b2, 0, none⟩)), (3, .pointer (some ⟨b1, 0, none⟩)), (2, .int .i64 x)] w4 (by kernel_rfl) ?_
              have := pow10 (n := c.gInputs_n) (by omega)
              refine J.ok (OK.shl 44 .i64 1 (c.gInputs_n : Int) (2 ^ c.gInputs_n) (by kernel_rfl) (by omega) (shl_one rfl (by omega))) ?_
              refine J.run 3 K18_25 [(46, .bool (decide (x ≥ (2 ^ c.gInputs_n)))), (6, .pointer (some ⟨b3, 0, none⟩)), (4, .pointer (some ⟨b2, 0, none⟩)), (3, .pointer (some ⟨b1, 0, none⟩)), (2, .int .i64 x)] w4 (by kernel_rfl) ?_
              by_cases fk7 : x ≥ (2 ^ c.gInputs_n)
              · skip
                refine J.head (.bool true) (congrArg Value.bool (decide_eq_true fk7)) ?_
                refine J.run 4 K18_26 [(47, .agg #[.int .i64 0, .int .i64 0]), (6, .pointer (some ⟨b3, 0, none⟩))] w4 (by kernel_rfl) ?_
                refine J.stBox S4 0 37 0 (.agg #[.int .i64 0, .int .i64 0]) [.int .i64 0, .int .i64 0] [box b3 [.int .i64 0, .int .i64 0] 37, box b2 [.int .i64 s, .int .i64 a] 37, box b1 [.slice c.gStates_a c.gStates_n c.gStates_c, .slice c.gInputs_a c.gInputs_n c.gInputs_c, .int .i64 c.gStart, .slice c.gMoves_a c.gMoves_n c.gMoves_c] 25] (by kernel_rfl) rfl (by kernel_rfl) (by kernel_rfl) rfl ?_
                intro w10 S10
                refine J.run 3 K18_27 [(8, .int .i64 2), (7, .int .i64 0), (6, .pointer (some ⟨b3, 0, none⟩))] w10 (by kernel_rfl) ?_
                refine J.ret Try.f18 [.agg #[.int .i64 0, .int .i64 0], .int .i64 0, .int .i64 2] Try.func18 ⟨⟨⟨b3, 0, none⟩, by kernel_rfl, ldV_run (S10.nth 0 rfl) (by kernel_rfl)⟩, by kernel_rfl, by kernel_rfl, trivial⟩ ?_
                refine hR _ _ ?_
                exact ⟨by rw [tup_three, stepV, if_neg (by rw [fk1]; decide), if_neg (by rw [okS_iff.2 (by omega)]; decide), if_pos (inside_not (by omega))], S10.nil⟩
              · skip
                refine J.head (.bool false) (congrArg Value.bool (decide_eq_false fk7)) ?_
                refine J.run 9 K18_28 [(9, .int .i64 0), (6, .pointer (some ⟨b3, 0, none⟩)), (4, .pointer (some ⟨b2, 0, none⟩)), (3, .pointer (some ⟨b1, 0, none⟩)), (2, .int .i64 x)] w4 (by kernel_rfl) ?_
                have L18_1 : ∀ (m : Nat) (i : Int) (w11 : World), (0 ≤ i) → (i ≤ (c.gMoves_n : Int)) → (∀ j, j < (i).toNat → fitB s a x (c.gMoves_l.getD j (⟨0, 0, 0, 0, 0⟩ : Mv)) = false) → Sep w [box b3 [.int .i64 0, .int .i64 0] 37, box b2 [.int .i64 s, .int .i64 a] 37, box b1 [.slice c.gStates_a c.gStates_n c.gStates_c, .slice c.gInputs_a c.gInputs_n c.gInputs_c, .int .i64 c.gStart, .slice c.gMoves_a c.gMoves_n c.gMoves_c] 25] w11 → ((c.gMoves_n : Int) - i).toNat = m → J Try.prog 18 78 R K18_28 [(9, .int .i64 i), (6, .pointer (some ⟨b3, 0, none⟩)), (4, .pointer (some ⟨b2, 0, none⟩)), (3, .pointer (some ⟨b1, 0, none⟩)), (2, .int .i64 x)] w11 := by
                  intro m
                  induction m using Nat.strongRecOn with
                  | _ m ih1 =>
                  intro i w11 h0 h1 hq S11 hm1
                  refine J.run 5 K18_29 [(49, .pointer (some ⟨b1, 3, none⟩)), (48, .int .i64 i), (9, .int .i64 i), (6, .pointer (some ⟨b3, 0, none⟩)), (4, .pointer (some ⟨b2, 0, none⟩)), (3, .pointer (some ⟨b1, 0, none⟩)), (2, .int .i64 x)] w11 (by kernel_rfl) ?_
                  refine J.ok (OK.ldBox S11 2 50 23 3 (.slice c.gMoves_a c.gMoves_n c.gMoves_c) (by kernel_rfl) rfl (by kernel_rfl)) ?_
                  refine J.run 3 K18_30 [(52, .bool (decide (i < (c.gMoves_n : Int)))), (9, .int .i64 i), (6, .pointer (some ⟨b3, 0, none⟩)), (4, .pointer (some ⟨b2, 0, none⟩)), (3, .pointer (some ⟨b1, 0, none⟩)), (2, .int .i64 x)] w11 (by kernel_rfl) ?_
                  by_cases fk8 : i < (c.gMoves_n : Int)
                  · skip
                    refine J.head (.bool true) (congrArg Value.bool (decide_eq_true fk8)) ?_
                    refine J.run 5 K18_31 [(9, .int .i64 i), (6, .pointer (some ⟨b3, 0, none⟩)), (4, .pointer (some ⟨b2, 0, none⟩)), (3, .pointer (some ⟨b1, 0, none⟩)), (2, .int .i64 x)] w11 (by kernel_rfl) ?_
                    obtain ⟨p1, hp1, hc1⟩ := q9.at (⟨0, 0, 0, 0, 0⟩ : Mv) (i).toNat (by omega)
                    have hq1 := getD_Q q10 (⟨0, 0, 0, 0, 0⟩ : Mv) (n := (i).toNat) (by have := q9.len_eq; omega)
                    obtain ⟨q11, q12, q13, q14, q15, _⟩ := id hq1
                    refine J.drawTail S11 7 Try.mixed (by kernel_rfl) (by kernel_rfl) ?_
                    intro w12 S12
                    refine SL.ok (by decide) (OK.run 55 (.pointer (some ⟨b1, 3, none⟩)) (by kernel_rfl)) ?_
                    refine SL.ok (by decide) (OK.ldBox S12 2 56 23 3 (.slice c.gMoves_a c.gMoves_n c.gMoves_c) (by kernel_rfl) rfl (by kernel_rfl)) ?_
                    refine SL.ok (by decide) (OK.run 57 (.int .i64 i) (by kernel_rfl)) ?_
                    refine SL.ok (by decide) (OK.index 58 23 5 c.gMoves_a p1 c.gMoves_n (i).toNat i (p1.add ((i).toNat * 5)) (by kernel_rfl) (by kernel_rfl) hp1 (by omega) (by omega) rfl) ?_
                    refine SL.ok (by decide) (OK.ldCells 59 42 (p1.add ((i).toNat * 5)) [.int .i64 ((c.gMoves_l.getD (i).toNat (⟨0, 0, 0, 0, 0⟩ : Mv)).gFrom), .int .i64 ((c.gMoves_l.getD (i).toNat (⟨0, 0, 0, 0, 0⟩ : Mv)).gTo), .int .i64 ((c.gMoves_l.getD (i).toNat (⟨0, 0, 0, 0, 0⟩ : Mv)).gOn), .int .i64 ((c.gMoves_l.getD (i).toNat (⟨0, 0, 0, 0, 0⟩ : Mv)).gOff), .int .i64 ((c.gMoves_l.getD (i).toNat (⟨0, 0, 0, 0, 0⟩ : Mv)).gAfter)] (by kernel_rfl) (by kernel_rfl) (by kernel_rfl) (fun j_ v_ hj_ => S12.cell (hc1 j_ v_ hj_))) ?_
                    refine SL.ok (by decide) (OK.ldBox S12 1 60 37 0 (.agg #[.int .i64 s, .int .i64 a]) (by kernel_rfl) rfl (by kernel_rfl)) ?_
                    refine SL.ok (by decide) (OK.run 61 (.int .i64 x) (by kernel_rfl)) ?_
                    refine SL.done ?_
                    refine TL.callF 62 36 #[.agg #[.int .i64 ((c.gMoves_l.getD (i).toNat (⟨0, 0, 0, 0, 0⟩ : Mv)).gFrom), .int .i64 ((c.gMoves_l.getD (i).toNat (⟨0, 0, 0, 0, 0⟩ : Mv)).gTo), .int .i64 ((c.gMoves_l.getD (i).toNat (⟨0, 0, 0, 0, 0⟩ : Mv)).gOn), .int .i64 ((c.gMoves_l.getD (i).toNat (⟨0, 0, 0, 0, 0⟩ : Mv)).gOff), .int .i64 ((c.gMoves_l.getD (i).toNat (⟨0, 0, 0, 0, 0⟩ : Mv)).gAfter)], .agg #[.int .i64 s, .int .i64 a], .int .i64 x] hb36 (by kernel_rfl) (fits_any (c.gMoves_l.getD (i).toNat (⟨0, 0, 0, 0, 0⟩ : Mv)) s a x _) ?_
                    rintro _ w13 ⟨rfl, T2⟩
                    have S13 : Sep w [box b3 [.int .i64 0, .int .i64 0] 37, box b2 [.int .i64 s, .int .i64 a] 37, box b1 [.slice c.gStates_a c.gStates_n c.gStates_c, .slice c.gInputs_a c.gInputs_n c.gInputs_c, .int .i64 c.gStart, .slice c.gMoves_a c.gMoves_n c.gMoves_c] 25] w13 := S12.trans T2
                    clear T2 S12
                    refine TL.done (by kernel_rfl) ?_
                    refine J.run 0 (rRest K18_31) [(62, .bool (fitB s a x (c.gMoves_l.getD (i).toNat (⟨0, 0, 0, 0, 0⟩ : Mv)))), (9, .int .i64 i), (6, .pointer (some ⟨b3, 0, none⟩)), (4, .pointer (some ⟨b2, 0, none⟩)), (3, .pointer (some ⟨b1, 0, none⟩)), (2, .int .i64 x)] w13 (by kernel_rfl) ?_
                    rcases Bool.eq_false_or_eq_true (fitB s a x (c.gMoves_l.getD (i).toNat (⟨0, 0, 0, 0, 0⟩ : Mv))) with fk9 | fk9
                    · skip
                      refine J.head (.bool true) (congrArg Value.bool fk9) ?_
                      refine J.run 4 K18_32 [(63, .pointer (some ⟨b1, 3, none⟩)), (9, .int .i64 i), (6, .pointer (some ⟨b3, 0, none⟩))] w13 (by kernel_rfl) ?_
                      refine J.ok (OK.ldBox S13 2 64 23 3 (.slice c.gMoves_a c.gMoves_n c.gMoves_c) (by kernel_rfl) rfl (by kernel_rfl)) ?_
                      refine J.run 1 K18_33 [(65, .int .i64 i), (64, .slice c.gMoves_a c.gMoves_n c.gMoves_c), (9, .int .i64 i), (6, .pointer (some ⟨b3, 0, none⟩))] w13 (by kernel_rfl) ?_
                      refine J.ok (OK.index 66 23 5 c.gMoves_a p1 c.gMoves_n (i).toNat i (p1.add ((i).toNat * 5)) (by kernel_rfl) (by kernel_rfl) hp1 (by omega) (by omega) rfl) ?_
                      refine J.run 1 K18_34 [(67, .pointer (some ((p1.add ((i).toNat * 5)).add 1))), (9, .int .i64 i), (6, .pointer (some ⟨b3, 0, none⟩))] w13 (by kernel_rfl) ?_
                      refine J.ok (OK.ldCell 68 3 ((p1.add ((i).toNat * 5)).add 1) (.int .i64 ((c.gMoves_l.getD (i).toNat (⟨0, 0, 0, 0, 0⟩ : Mv)).gTo)) (by kernel_rfl) (by kernel_rfl) (S13.cell (hc1 1 _ rfl))) ?_
                      refine J.run 2 K18_35 [(70, .int .i64 i), (69, .agg #[.int .i64 ((c.gMoves_l.getD (i).toNat (⟨0, 0, 0, 0, 0⟩ : Mv)).gTo), .int .i64 0]), (6, .pointer (some ⟨b3, 0, none⟩))] w13 (by kernel_rfl) ?_
                      refine J.stBox S13 0 37 0 (.agg #[.int .i64 ((c.gMoves_l.getD (i).toNat (⟨0, 0, 0, 0, 0⟩ : Mv)).gTo), .int .i64 0]) [.int .i64 ((c.gMoves_l.getD (i).toNat (⟨0, 0, 0, 0, 0⟩ : Mv)).gTo), .int .i64 0] [box b3 [.int .i64 ((c.gMoves_l.getD (i).toNat (⟨0, 0, 0, 0, 0⟩ : Mv)).gTo), .int .i64 0] 37, box b2 [.int .i64 s, .int .i64 a] 37, box b1 [.slice c.gStates_a c.gStates_n c.gStates_c, .slice c.gInputs_a c.gInputs_n c.gInputs_c, .int .i64 c.gStart, .slice c.gMoves_a c.gMoves_n c.gMoves_c] 25] (by kernel_rfl) rfl (by kernel_rfl) (by kernel_rfl) rfl ?_
                      intro w14 S14
                      refine J.run 3 K18_36 [(8, .int .i64 0), (7, .int .i64 i), (6, .pointer (some ⟨b3, 0, none⟩))] w14 (by kernel_rfl) ?_
                      refine J.ret Try.f18 [.agg #[.int .i64 ((c.gMoves_l.getD (i).toNat (⟨0, 0, 0, 0, 0⟩ : Mv)).gTo), .int .i64 0], .int .i64 i, .int .i64 0] Try.func18 ⟨⟨⟨b3, 0, none⟩, by kernel_rfl, ldV_run (S14.nth 0 rfl) (by kernel_rfl)⟩, by kernel_rfl, by kernel_rfl, trivial⟩ ?_
                      refine hR _ _ ?_
                      obtain ⟨e1, e2, e3⟩ := step_at h0 (by omega) hq fk9
                      exact ⟨by rw [tup_three, stepV, if_neg (by rw [fk1]; decide), if_neg (by rw [okS_iff.2 (by omega)]; decide), if_neg (by rw [show insideB c x = true by (simp [insideB]; omega)]; decide), e1, e2, e3], S14.nil⟩
                    · skip
                      refine J.head (.bool false) (congrArg Value.bool fk9) ?_
                      refine J.run 6 K18_37 [(54, .int .i64 (IntKind.wrap .i64 (i + 1))), (6, .pointer (some ⟨b3, 0, none⟩)), (4, .pointer (some ⟨b2, 0, none⟩)), (3, .pointer (some ⟨b1, 0, none⟩)), (2, .int .i64 x)] w13 (by kernel_rfl) ?_
                      refine J.head (.int .i64 (i + 1)) (congrArg (Value.int .i64) (IntWalk.i64_in _ (by omega))) ?_
                      refine J.run 3 K18_28 [(9, .int .i64 (i + 1)), (6, .pointer (some ⟨b3, 0, none⟩)), (4, .pointer (some ⟨b2, 0, none⟩)), (3, .pointer (some ⟨b1, 0, none⟩)), (2, .int .i64 x)] w13 (by kernel_rfl) ?_
                      refine J.run 0 K18_28 [(9, .int .i64 (i + 1)), (6, .pointer (some ⟨b3, 0, none⟩)), (4, .pointer (some ⟨b2, 0, none⟩)), (3, .pointer (some ⟨b1, 0, none⟩)), (2, .int .i64 x)] w13 (by kernel_rfl) ?_
                      exact ih1 _ (show ((c.gMoves_n : Int) - (i + 1)).toNat < m from by omega) (i + 1) w13 (by omega) (by omega) (by intro j hj; by_cases e : j = i.toNat; (subst e; exact fk9); exact hq j (by omega)) S13 rfl
                  · skip
                    refine J.head (.bool false) (congrArg Value.bool (decide_eq_false fk8)) ?_
                    refine J.run 5 K18_38 [(71, .pointer (some ⟨b2, 0, none⟩)), (6, .pointer (some ⟨b3, 0, none⟩)), (4, .pointer (some ⟨b2, 0, none⟩))] w11 (by kernel_rfl) ?_
                    refine J.ok (OK.ldBox S11 1 72 3 0 (.int .i64 s) (by kernel_rfl) rfl (by kernel_rfl)) ?_
                    refine J.run 1 K18_39 [(73, .pointer (some ⟨b2, 1, none⟩)), (72, .int .i64 s), (6, .pointer (some ⟨b3, 0, none⟩))] w11 (by kernel_rfl) ?_
                    refine J.ok (OK.ldBox S11 1 74 3 1 (.int .i64 a) (by kernel_rfl) rfl (by kernel_rfl)) ?_
                    refine J.run 1 K18_40 [(75, .int .i64 (IntKind.wrap .i64 (a + 1))), (72, .int .i64 s), (6, .pointer (some ⟨b3, 0, none⟩))] w11 (by kernel_rfl) ?_
                    refine J.head (.int .i64 (a + 1)) (congrArg (Value.int .i64) (IntWalk.i64_in _ (by omega))) ?_
                    refine J.run 1 K18_41 [(76, .int .i64 (if 1000 < (a + 1) then 1000 else (a + 1))), (72, .int .i64 s), (6, .pointer (some ⟨b3, 0, none⟩))] w11 (by kernel_rfl) ?_
                    refine J.head (.int .i64 (min (a + 1) 1000)) (congrArg (Value.int .i64) (by omega)) ?_
                    refine J.run 1 K18_42 [(77, .agg #[.int .i64 s, .int .i64 (min (a + 1) 1000)]), (6, .pointer (some ⟨b3, 0, none⟩))] w11 (by kernel_rfl) ?_
                    refine J.stBox S11 0 37 0 (.agg #[.int .i64 s, .int .i64 (min (a + 1) 1000)]) [.int .i64 s, .int .i64 (min (a + 1) 1000)] [box b3 [.int .i64 s, .int .i64 (min (a + 1) 1000)] 37, box b2 [.int .i64 s, .int .i64 a] 37, box b1 [.slice c.gStates_a c.gStates_n c.gStates_c, .slice c.gInputs_a c.gInputs_n c.gInputs_c, .int .i64 c.gStart, .slice c.gMoves_a c.gMoves_n c.gMoves_c] 25] (by kernel_rfl) rfl (by kernel_rfl) (by kernel_rfl) rfl ?_
                    intro w15 S15
                    refine J.run 3 K18_43 [(8, .int .i64 0), (7, .int .i64 (-1)), (6, .pointer (some ⟨b3, 0, none⟩))] w15 (by kernel_rfl) ?_
                    refine J.ret Try.f18 [.agg #[.int .i64 s, .int .i64 (min (a + 1) 1000)], .int .i64 (-1), .int .i64 0] Try.func18 ⟨⟨⟨b3, 0, none⟩, by kernel_rfl, ldV_run (S15.nth 0 rfl) (by kernel_rfl)⟩, by kernel_rfl, by kernel_rfl, trivial⟩ ?_
                    refine hR _ _ ?_
                    obtain ⟨e1, e2, e3⟩ := step_none (c := c) (s := s) (a := a) (x := x) fun j hj => hq j (by omega)
                    exact ⟨by rw [tup_three, stepV, if_neg (by rw [fk1]; decide), if_neg (by rw [okS_iff.2 (by omega)]; decide), if_neg (by rw [show insideB c x = true by (simp [insideB]; omega)]; decide), e1, e2, e3], S15.nil⟩
                exact L18_1 _ 0 w4 (by omega) (by omega) (by intro j hj; simp at hj) S4 rfl
  · skip
    refine J.head (.bool true) (congrArg Value.bool (by rw [fk1]; rfl)) ?_
    refine J.run 27 K18_44 [(36, .agg #[.int .i64 0, .int .i64 0]), (6, .pointer (some ⟨b3, 0, none⟩))] w4 (by kernel_rfl) ?_
    refine J.stBox S4 0 37 0 (.agg #[.int .i64 0, .int .i64 0]) [.int .i64 0, .int .i64 0] [box b3 [.int .i64 0, .int .i64 0] 37, box b2 [.int .i64 s, .int .i64 a] 37, box b1 [.slice c.gStates_a c.gStates_n c.gStates_c, .slice c.gInputs_a c.gInputs_n c.gInputs_c, .int .i64 c.gStart, .slice c.gMoves_a c.gMoves_n c.gMoves_c] 25] (by kernel_rfl) rfl (by kernel_rfl) (by kernel_rfl) rfl ?_
    intro w16 S16
    refine J.run 3 K18_45 [(8, .int .i64 1), (7, .int .i64 0), (6, .pointer (some ⟨b3, 0, none⟩))] w16 (by kernel_rfl) ?_
    refine J.ret Try.f18 [.agg #[.int .i64 0, .int .i64 0], .int .i64 0, .int .i64 1] Try.func18 ⟨⟨⟨b3, 0, none⟩, by kernel_rfl, ldV_run (S16.nth 0 rfl) (by kernel_rfl)⟩, by kernel_rfl, by kernel_rfl, trivial⟩ ?_
    refine hR _ _ ?_
    exact ⟨by rw [tup_three, stepV, if_pos fk1], S16.nil⟩

def startV (c : Cht) : Value := if validC c = false then .tuple #[.agg #[.int .i64 0, .int .i64 0], .int .i64 1] else .tuple #[.agg #[.int .i64 c.gStart, .int .i64 0], .int .i64 0]
theorem hb17 : HasBody Try.prog 17 := fun _ _ => by kernel_rfl
noncomputable def K17_0 : List Item := adv 2 [] (bodyOf Try.f17)
noncomputable def K17_1 : List Item := adv 5 [] (popK (popK K17_0))
noncomputable def K17_2 : List Item := adv 2 [] (popK (popK K17_1))
noncomputable def K17_3 : List Item := adv 5 [false] K17_2
noncomputable def K17_4 : List Item := adv 1 [] (popK K17_3)
noncomputable def K17_5 : List Item := adv 2 [] (popK K17_4)
noncomputable def K17_6 : List Item := adv 4 [true] K17_2
noncomputable def K17_7 : List Item := adv 2 [] (popK K17_6)
set_option maxRecDepth 20000 in
set_option maxHeartbeats 20000000 in
theorem start_any (c : Cht) (w : World) (hc : chtQ w c) : Ret Try.prog 17 #[.agg #[.slice c.gStates_a c.gStates_n c.gStates_c, .slice c.gInputs_a c.gInputs_n c.gInputs_c, .int .i64 c.gStart, .slice c.gMoves_a c.gMoves_n c.gMoves_c]] w (fun v w' => v = startV c ∧ Sep w [] w') := by
  have S0 := Sep.refl w
  refine Ret.named fun R hR => ?_
  refine Ret.of_J (N := 11) [(0, .agg #[.slice c.gStates_a c.gStates_n c.gStates_c, .slice c.gInputs_a c.gInputs_n c.gInputs_c, .int .i64 c.gStart, .slice c.gMoves_a c.gMoves_n c.gMoves_c])] Try.func17 rfl rfl (Nat.le_of_ble_eq_true (by kernel_rfl)) (by kernel_rfl) ?_
  obtain ⟨q1, q2, q3, q4, q5, q6, q7, q8, q9, q10, _⟩ := id hc
  have ql1 := q2.len_eq
  have ql2 := q5.len_eq
  have ql3 := q9.len_eq
  refine J.run 2 K17_0 [(0, .agg #[.slice c.gStates_a c.gStates_n c.gStates_c, .slice c.gInputs_a c.gInputs_n c.gInputs_c, .int .i64 c.gStart, .slice c.gMoves_a c.gMoves_n c.gMoves_c])] w (by kernel_rfl) ?_
  refine J.new S0 1 [.slice c.gStates_a c.gStates_n c.gStates_c, .slice c.gInputs_a c.gInputs_n c.gInputs_c, .int .i64 c.gStart, .slice c.gMoves_a c.gMoves_n c.gMoves_c] 25 (by kernel_rfl) ?_
  intro b1 w1 S1
  refine J.new S1 2 [.int .i64 0, .int .i64 0] 37 (by kernel_rfl) ?_
  intro b2 w2 S2
  refine J.run 5 K17_1 [(2, .pointer (some ⟨b2, 0, none⟩)), (1, .pointer (some ⟨b1, 0, none⟩))] w2 (by kernel_rfl) ?_
  refine J.ok (OK.ldBox S2 1 4 25 0 (.agg #[.slice c.gStates_a c.gStates_n c.gStates_c, .slice c.gInputs_a c.gInputs_n c.gInputs_c, .int .i64 c.gStart, .slice c.gMoves_a c.gMoves_n c.gMoves_c]) (by kernel_rfl) rfl (by kernel_rfl)) ?_
  refine J.callF 5 19 #[.agg #[.slice c.gStates_a c.gStates_n c.gStates_c, .slice c.gInputs_a c.gInputs_n c.gInputs_c, .int .i64 c.gStart, .slice c.gMoves_a c.gMoves_n c.gMoves_c]] hb19 (by kernel_rfl) (valid_any c _ (chtQ_sep hc S2)) ?_
  rintro _ w3 ⟨rfl, T1⟩
  have S3 : Sep w [box b2 [.int .i64 0, .int .i64 0] 37, box b1 [.slice c.gStates_a c.gStates_n c.gStates_c, .slice c.gInputs_a c.gInputs_n c.gInputs_c, .int .i64 c.gStart, .slice c.gMoves_a c.gMoves_n c.gMoves_c] 25] w3 := S2.trans T1
  clear T1 S2
  refine J.run 2 K17_2 [(6, .bool (!(validC c))), (2, .pointer (some ⟨b2, 0, none⟩)), (1, .pointer (some ⟨b1, 0, none⟩))] w3 (by kernel_rfl) ?_
  rcases Bool.eq_false_or_eq_true (validC c) with fk1 | fk1
  · skip
    refine J.head (.bool false) (congrArg Value.bool (by rw [fk1]; rfl)) ?_
    refine J.run 5 K17_3 [(8, .pointer (some ⟨b1, 2, none⟩)), (2, .pointer (some ⟨b2, 0, none⟩))] w3 (by kernel_rfl) ?_
    refine J.ok (OK.ldBox S3 1 9 3 2 (.int .i64 c.gStart) (by kernel_rfl) rfl (by kernel_rfl)) ?_
    refine J.run 1 K17_4 [(10, .agg #[.int .i64 c.gStart, .int .i64 0]), (2, .pointer (some ⟨b2, 0, none⟩))] w3 (by kernel_rfl) ?_
    refine J.stBox S3 0 37 0 (.agg #[.int .i64 c.gStart, .int .i64 0]) [.int .i64 c.gStart, .int .i64 0] [box b2 [.int .i64 c.gStart, .int .i64 0] 37, box b1 [.slice c.gStates_a c.gStates_n c.gStates_c, .slice c.gInputs_a c.gInputs_n c.gInputs_c, .int .i64 c.gStart, .slice c.gMoves_a c.gMoves_n c.gMoves_c] 25] (by kernel_rfl) rfl (by kernel_rfl) (by kernel_rfl) rfl ?_
    intro w4 S4
    refine J.run 2 K17_5 [(3, .int .i64 0), (2, .pointer (some ⟨b2, 0, none⟩))] w4 (by kernel_rfl) ?_
    refine J.ret Try.f17 [.agg #[.int .i64 c.gStart, .int .i64 0], .int .i64 0] Try.func17 ⟨⟨⟨b2, 0, none⟩, by kernel_rfl, ldV_run (S4.nth 0 rfl) (by kernel_rfl)⟩, by kernel_rfl, trivial⟩ ?_
    refine hR _ _ ?_
    exact ⟨by simp [startV, tup_one, tup_two, tup_three, fk1], S4.nil⟩
  · skip
    refine J.head (.bool true) (congrArg Value.bool (by rw [fk1]; rfl)) ?_
    refine J.run 4 K17_6 [(7, .agg #[.int .i64 0, .int .i64 0]), (2, .pointer (some ⟨b2, 0, none⟩))] w3 (by kernel_rfl) ?_
    refine J.stBox S3 0 37 0 (.agg #[.int .i64 0, .int .i64 0]) [.int .i64 0, .int .i64 0] [box b2 [.int .i64 0, .int .i64 0] 37, box b1 [.slice c.gStates_a c.gStates_n c.gStates_c, .slice c.gInputs_a c.gInputs_n c.gInputs_c, .int .i64 c.gStart, .slice c.gMoves_a c.gMoves_n c.gMoves_c] 25] (by kernel_rfl) rfl (by kernel_rfl) (by kernel_rfl) rfl ?_
    intro w5 S5
    refine J.run 2 K17_7 [(3, .int .i64 1), (2, .pointer (some ⟨b2, 0, none⟩))] w5 (by kernel_rfl) ?_
    refine J.ret Try.f17 [.agg #[.int .i64 0, .int .i64 0], .int .i64 1] Try.func17 ⟨⟨⟨b2, 0, none⟩, by kernel_rfl, ldV_run (S5.nth 0 rfl) (by kernel_rfl)⟩, by kernel_rfl, trivial⟩ ?_
    refine hR _ _ ?_
    exact ⟨by simp [startV, tup_one, tup_two, tup_three, fk1], S5.nil⟩

end Go.Proofs.Ytbbpgidmadlgmaa
