/- Walks of functions of this seat, printed by a program over the engine. Conditions: as each theorem says. -/
import Derived.Test.YtbbpgidmadlgmaaC5
namespace Go.Proofs.Ytbbpgidmadlgmaa
open Go.Eng Go.RowKit
set_option linter.unusedSimpArgs false
set_option linter.unusedVariables false
theorem hb3 : HasBody Try.prog 3 := fun _ _ => by kernel_rfl
noncomputable def K3_0 : List Item := adv 2 [] (bodyOf Try.f3)
noncomputable def K3_1 : List Item := adv 5 [] (popK K3_0)
noncomputable def K3_2 : List Item := adv 2 [] (popK K3_1)
noncomputable def K3_3 : List Item := adv 3 [] (popK (popK K3_2))
noncomputable def K3_4 : List Item := adv 4 [] K3_3
noncomputable def K3_5 : List Item := adv 6 [] K3_4
noncomputable def K3_6 : List Item := adv 3 [true] K3_5
noncomputable def K3_7 : List Item := adv 2 [] (popK K3_6)
noncomputable def K3_8 : List Item := adv 4 [false] K3_5
noncomputable def K3_9 : List Item := adv 1 [] (popK K3_8)
noncomputable def K3_10 : List Item := adv 8 [] (popK K3_9)
noncomputable def K3_11 : List Item := adv 1 [] (popK K3_10)
noncomputable def K3_12 : List Item := adv 11 [] (popK K3_11)
noncomputable def K3_13 : List Item := adv 3 [] K3_12
noncomputable def K3_14 : List Item := adv 3 [] (popK K3_13)
noncomputable def K3_15 : List Item := adv 10 [false] K3_4
noncomputable def K3_16 : List Item := adv 1 [] (popK K3_15)
noncomputable def K3_17 : List Item := adv 8 [] (popK K3_16)
noncomputable def K3_18 : List Item := adv 1 [] (popK K3_17)
noncomputable def K3_19 : List Item := adv 11 [] (popK K3_18)
noncomputable def K3_20 : List Item := adv 3 [] K3_19
noncomputable def K3_21 : List Item := adv 3 [] (popK K3_20)
noncomputable def K3_22 : List Item := adv 13 [true] K3_3
noncomputable def K3_23 : List Item := adv 2 [] (popK K3_22)
set_option maxRecDepth 20000 in
set_option maxHeartbeats 20000000 in
theorem lawruns_any (c : Cht) (la : Option Addr) (len cap : Nat) (l : List Int) (w : World) (hc : chtQ w c) (hI : Ints w la len l) (hlen : len ≤ 9223372036854775807) : Ret Try.prog 3 #[.agg #[.slice c.gStates_a c.gStates_n c.gStates_c, .slice c.gInputs_a c.gInputs_n c.gInputs_c, .int .i64 c.gStart, .slice c.gMoves_a c.gMoves_n c.gMoves_c], .slice la len cap] w (fun v w' => v = .bool true ∧ Sep w [] w') := by
  have S0 := Sep.refl w
  refine Ret.named fun R hR => ?_
  refine Ret.of_J (N := 47) [(0, .agg #[.slice c.gStates_a c.gStates_n c.gStates_c, .slice c.gInputs_a c.gInputs_n c.gInputs_c, .int .i64 c.gStart, .slice c.gMoves_a c.gMoves_n c.gMoves_c]), (1, .slice la len cap)] Try.func3 rfl rfl (Nat.le_of_ble_eq_true (by kernel_rfl)) (by kernel_rfl) ?_
  obtain ⟨q1, q2, q3, q4, q5, q6, q7, q8, q9, q10, _⟩ := id hc
  have ql1 := q2.len_eq
  have ql2 := q5.len_eq
  have ql3 := q9.len_eq
  refine J.run 2 K3_0 [(0, .agg #[.slice c.gStates_a c.gStates_n c.gStates_c, .slice c.gInputs_a c.gInputs_n c.gInputs_c, .int .i64 c.gStart, .slice c.gMoves_a c.gMoves_n c.gMoves_c]), (1, .slice la len cap)] w (by kernel_rfl) ?_
  refine J.new S0 2 [.slice c.gStates_a c.gStates_n c.gStates_c, .slice c.gInputs_a c.gInputs_n c.gInputs_c, .int .i64 c.gStart, .slice c.gMoves_a c.gMoves_n c.gMoves_c] 25 (by kernel_rfl) ?_
  intro b1 w1 S1
  refine J.run 5 K3_1 [(2, .pointer (some ⟨b1, 0, none⟩)), (1, .slice la len cap)] w1 (by kernel_rfl) ?_
  refine J.callF 9 9 #[] hb9 (by kernel_rfl) (awake_any  _) ?_
  rintro _ w2 ⟨rfl, T1⟩
  have S2 : Sep w [box b1 [.slice c.gStates_a c.gStates_n c.gStates_c, .slice c.gInputs_a c.gInputs_n c.gInputs_c, .int .i64 c.gStart, .slice c.gMoves_a c.gMoves_n c.gMoves_c] 25] w2 := S1.trans T1
  clear T1 S1
  refine J.run 2 K3_2 [(11, .bool false), (2, .pointer (some ⟨b1, 0, none⟩)), (1, .slice la len cap)] w2 (by kernel_rfl) ?_
  refine J.ok (OK.ldBox S2 0 12 25 0 (.agg #[.slice c.gStates_a c.gStates_n c.gStates_c, .slice c.gInputs_a c.gInputs_n c.gInputs_c, .int .i64 c.gStart, .slice c.gMoves_a c.gMoves_n c.gMoves_c]) (by kernel_rfl) rfl (by kernel_rfl)) ?_
  refine J.callF 13 10 #[.agg #[.slice c.gStates_a c.gStates_n c.gStates_c, .slice c.gInputs_a c.gInputs_n c.gInputs_c, .int .i64 c.gStart, .slice c.gMoves_a c.gMoves_n c.gMoves_c]] hb10 (by kernel_rfl) (small_any c _ (chtQ_sep hc S2)) ?_
  rintro _ w3 ⟨rfl, T2⟩
  have S3 : Sep w [box b1 [.slice c.gStates_a c.gStates_n c.gStates_c, .slice c.gInputs_a c.gInputs_n c.gInputs_c, .int .i64 c.gStart, .slice c.gMoves_a c.gMoves_n c.gMoves_c] 25] w3 := S2.trans T2
  clear T2 S2
  refine J.run 3 K3_3 [(16, .bool (!(smallB c))), (2, .pointer (some ⟨b1, 0, none⟩)), (1, .slice la len cap)] w3 (by kernel_rfl) ?_
  rcases Bool.eq_false_or_eq_true (smallB c) with fk1 | fk1
  · skip
    refine J.head (.bool false) (congrArg Value.bool (by rw [fk1]; rfl)) ?_
    refine J.run 4 K3_4 [(20, .bool (decide ((len : Int) > 300))), (16, .bool false), (2, .pointer (some ⟨b1, 0, none⟩)), (1, .slice la len cap)] w3 (by kernel_rfl) ?_
    by_cases fk2 : (len : Int) > 300
    · skip
      refine J.head (.bool true) (congrArg Value.bool (decide_eq_true fk2)) ?_
      refine J.run 6 K3_5 [(25, .bool (decide ((len : Int) ≤ 1000))), (2, .pointer (some ⟨b1, 0, none⟩)), (1, .slice la len cap)] w3 (by kernel_rfl) ?_
      by_cases fk3 : (len : Int) ≤ 1000
      · skip
        refine J.head (.bool true) (congrArg Value.bool (decide_eq_true fk3)) ?_
        refine J.run 3 K3_6 [] w3 (by kernel_rfl) ?_
        refine J.callF 26 9 #[] hb9 (by kernel_rfl) (awake_any  _) ?_
        rintro _ w4 ⟨rfl, T3⟩
        have S4 : Sep w [box b1 [.slice c.gStates_a c.gStates_n c.gStates_c, .slice c.gInputs_a c.gInputs_n c.gInputs_c, .int .i64 c.gStart, .slice c.gMoves_a c.gMoves_n c.gMoves_c] 25] w4 := S3.trans T3
        clear T3 S3
        refine J.run 2 K3_7 [(4, .bool true)] w4 (by kernel_rfl) ?_
        refine J.ret Try.f3 [.bool true] Try.func3 ⟨by kernel_rfl, trivial⟩ ?_
        refine hR _ _ ?_
        exact ⟨rfl, S4.nil⟩
      · skip
        refine J.head (.bool false) (congrArg Value.bool (decide_eq_false fk3)) ?_
        refine J.run 4 K3_8 [(2, .pointer (some ⟨b1, 0, none⟩)), (1, .slice la len cap)] w3 (by kernel_rfl) ?_
        refine J.ok (OK.ldBox S3 0 28 25 0 (.agg #[.slice c.gStates_a c.gStates_n c.gStates_c, .slice c.gInputs_a c.gInputs_n c.gInputs_c, .int .i64 c.gStart, .slice c.gMoves_a c.gMoves_n c.gMoves_c]) (by kernel_rfl) rfl (by kernel_rfl)) ?_
        refine J.run 1 K3_9 [(29, .slice la len cap), (28, .agg #[.slice c.gStates_a c.gStates_n c.gStates_c, .slice c.gInputs_a c.gInputs_n c.gInputs_c, .int .i64 c.gStart, .slice c.gMoves_a c.gMoves_n c.gMoves_c]), (2, .pointer (some ⟨b1, 0, none⟩)), (1, .slice la len cap)] w3 (by kernel_rfl) ?_
        refine J.callF 30 11 #[.agg #[.slice c.gStates_a c.gStates_n c.gStates_c, .slice c.gInputs_a c.gInputs_n c.gInputs_c, .int .i64 c.gStart, .slice c.gMoves_a c.gMoves_n c.gMoves_c], .slice la len cap] hb11 (by kernel_rfl) (run_any c la len cap l _ (chtQ_sep hc S3) (hI.sep S3) (by first | omega | (simp; omega))) ?_
        rintro _ w5 ⟨ra1, rc1, rfl, T4⟩
        have S5 : Sep w [rowOf encI ra1 rc1 3 1 (runO c l), box b1 [.slice c.gStates_a c.gStates_n c.gStates_c, .slice c.gInputs_a c.gInputs_n c.gInputs_c, .int .i64 c.gStart, .slice c.gMoves_a c.gMoves_n c.gMoves_c] 25] w5 := S3.trans T4
        clear T4 S3
        have := runE_bounds c l
        refine J.run 8 K3_10 [(6, .int .i64 (runE c l)), (5, .slice ra1 ((runO c l).length) rc1), (2, .pointer (some ⟨b1, 0, none⟩)), (1, .slice la len cap)] w5 (by kernel_rfl) ?_
        refine J.ok (OK.ldBox S5 1 34 25 0 (.agg #[.slice c.gStates_a c.gStates_n c.gStates_c, .slice c.gInputs_a c.gInputs_n c.gInputs_c, .int .i64 c.gStart, .slice c.gMoves_a c.gMoves_n c.gMoves_c]) (by kernel_rfl) rfl (by kernel_rfl)) ?_
        refine J.run 1 K3_11 [(35, .slice la len cap), (34, .agg #[.slice c.gStates_a c.gStates_n c.gStates_c, .slice c.gInputs_a c.gInputs_n c.gInputs_c, .int .i64 c.gStart, .slice c.gMoves_a c.gMoves_n c.gMoves_c]), (6, .int .i64 (runE c l)), (5, .slice ra1 ((runO c l).length) rc1)] w5 (by kernel_rfl) ?_
        refine J.callF 36 12 #[.agg #[.slice c.gStates_a c.gStates_n c.gStates_c, .slice c.gInputs_a c.gInputs_n c.gInputs_c, .int .i64 c.gStart, .slice c.gMoves_a c.gMoves_n c.gMoves_c], .slice la len cap] hb12 (by kernel_rfl) (rrun_any c la len cap l _ (chtQ_sep hc S5) (hI.sep S5) (by first | omega | (simp; omega))) ?_
        rintro _ w6 ⟨ra2, rc2, rfl, T5⟩
        have S6 : Sep w [rowOf encI ra2 rc2 3 1 (runO c l), rowOf encI ra1 rc1 3 1 (runO c l), box b1 [.slice c.gStates_a c.gStates_n c.gStates_c, .slice c.gInputs_a c.gInputs_n c.gInputs_c, .int .i64 c.gStart, .slice c.gMoves_a c.gMoves_n c.gMoves_c] 25] w6 := S5.trans T5
        clear T5 S5
        have := runE_bounds c l
        refine J.run 11 K3_12 [(41, .bool ((runE c l) == (runE c l))), (7, .slice ra2 ((runO c l).length) rc2), (5, .slice ra1 ((runO c l).length) rc1)] w6 (by kernel_rfl) ?_
        refine J.head (.bool true) (congrArg Value.bool (by simp)) ?_
        refine J.run 3 K3_13 [(44, .slice ra2 ((runO c l).length) rc2), (43, .slice ra1 ((runO c l).length) rc1), (42, .bool true)] w6 (by kernel_rfl) ?_
        have := rowOf_len (S6.nth 1 rfl)
        have := rowOf_len (S6.nth 0 rfl)
        refine J.callF 45 13 #[.slice ra1 ((runO c l).length) rc1, .slice ra2 ((runO c l).length) rc2] hb13 (by kernel_rfl) (equal_any ra1 ((runO c l).length) rc1 (runO c l) ra2 ((runO c l).length) rc2 (runO c l) _ ((row1_ones (S6.nth 1 rfl) ((runO c l).length) (by first | rfl | omega | simp))) ((row1_ones (S6.nth 0 rfl) ((runO c l).length) (by first | rfl | omega | simp))) (by first | omega | (simp; omega))) ?_
        rintro _ w7 ⟨rfl, T6⟩
        have S7 : Sep w [rowOf encI ra2 rc2 3 1 (runO c l), rowOf encI ra1 rc1 3 1 (runO c l), box b1 [.slice c.gStates_a c.gStates_n c.gStates_c, .slice c.gInputs_a c.gInputs_n c.gInputs_c, .int .i64 c.gStart, .slice c.gMoves_a c.gMoves_n c.gMoves_c] 25] w7 := S6.trans T6
        clear T6 S6
        refine J.head (.bool true) (congrArg Value.bool (beq_self_eq_true _)) ?_
        refine J.run 3 K3_14 [(4, .bool true)] w7 (by kernel_rfl) ?_
        refine J.ret Try.f3 [.bool true] Try.func3 ⟨by kernel_rfl, trivial⟩ ?_
        refine hR _ _ ?_
        exact ⟨rfl, S7.nil⟩
    · skip
      refine J.head (.bool false) (congrArg Value.bool (decide_eq_false fk2)) ?_
      refine J.run 10 K3_15 [(2, .pointer (some ⟨b1, 0, none⟩)), (1, .slice la len cap)] w3 (by kernel_rfl) ?_
      refine J.ok (OK.ldBox S3 0 28 25 0 (.agg #[.slice c.gStates_a c.gStates_n c.gStates_c, .slice c.gInputs_a c.gInputs_n c.gInputs_c, .int .i64 c.gStart, .slice c.gMoves_a c.gMoves_n c.gMoves_c]) (by kernel_rfl) rfl (by kernel_rfl)) ?_
      refine J.run 1 K3_16 [(29, .slice la len cap), (28, .agg #[.slice c.gStates_a c.gStates_n c.gStates_c, .slice c.gInputs_a c.gInputs_n c.gInputs_c, .int .i64 c.gStart, .slice c.gMoves_a c.gMoves_n c.gMoves_c]), (2, .pointer (some ⟨b1, 0, none⟩)), (1, .slice la len cap)] w3 (by kernel_rfl) ?_
      refine J.callF 30 11 #[.agg #[.slice c.gStates_a c.gStates_n c.gStates_c, .slice c.gInputs_a c.gInputs_n c.gInputs_c, .int .i64 c.gStart, .slice c.gMoves_a c.gMoves_n c.gMoves_c], .slice la len cap] hb11 (by kernel_rfl) (run_any c la len cap l _ (chtQ_sep hc S3) (hI.sep S3) (by first | omega | (simp; omega))) ?_
      rintro _ w8 ⟨ra3, rc3, rfl, T7⟩
      have S8 : Sep w [rowOf encI ra3 rc3 3 1 (runO c l), box b1 [.slice c.gStates_a c.gStates_n c.gStates_c, .slice c.gInputs_a c.gInputs_n c.gInputs_c, .int .i64 c.gStart, .slice c.gMoves_a c.gMoves_n c.gMoves_c] 25] w8 := S3.trans T7
      clear T7 S3
      have := runE_bounds c l
      refine J.run 8 K3_17 [(6, .int .i64 (runE c l)), (5, .slice ra3 ((runO c l).length) rc3), (2, .pointer (some ⟨b1, 0, none⟩)), (1, .slice la len cap)] w8 (by kernel_rfl) ?_
      refine J.ok (OK.ldBox S8 1 34 25 0 (.agg #[.slice c.gStates_a c.gStates_n c.gStates_c, .slice c.gInputs_a c.gInputs_n c.gInputs_c, .int .i64 c.gStart, .slice c.gMoves_a c.gMoves_n c.gMoves_c]) (by kernel_rfl) rfl (by kernel_rfl)) ?_
      refine J.run 1 K3_18 [(35, .slice la len cap), (34, .agg #[.slice c.gStates_a c.gStates_n c.gStates_c, .slice c.gInputs_a c.gInputs_n c.gInputs_c, .int .i64 c.gStart, .slice c.gMoves_a c.gMoves_n c.gMoves_c]), (6, .int .i64 (runE c l)), (5, .slice ra3 ((runO c l).length) rc3)] w8 (by kernel_rfl) ?_
      refine J.callF 36 12 #[.agg #[.slice c.gStates_a c.gStates_n c.gStates_c, .slice c.gInputs_a c.gInputs_n c.gInputs_c, .int .i64 c.gStart, .slice c.gMoves_a c.gMoves_n c.gMoves_c], .slice la len cap] hb12 (by kernel_rfl) (rrun_any c la len cap l _ (chtQ_sep hc S8) (hI.sep S8) (by first | omega | (simp; omega))) ?_
      rintro _ w9 ⟨ra4, rc4, rfl, T8⟩
      have S9 : Sep w [rowOf encI ra4 rc4 3 1 (runO c l), rowOf encI ra3 rc3 3 1 (runO c l), box b1 [.slice c.gStates_a c.gStates_n c.gStates_c, .slice c.gInputs_a c.gInputs_n c.gInputs_c, .int .i64 c.gStart, .slice c.gMoves_a c.gMoves_n c.gMoves_c] 25] w9 := S8.trans T8
      clear T8 S8
      have := runE_bounds c l
      refine J.run 11 K3_19 [(41, .bool ((runE c l) == (runE c l))), (7, .slice ra4 ((runO c l).length) rc4), (5, .slice ra3 ((runO c l).length) rc3)] w9 (by kernel_rfl) ?_
      refine J.head (.bool true) (congrArg Value.bool (by simp)) ?_
      refine J.run 3 K3_20 [(44, .slice ra4 ((runO c l).length) rc4), (43, .slice ra3 ((runO c l).length) rc3), (42, .bool true)] w9 (by kernel_rfl) ?_
      have := rowOf_len (S9.nth 1 rfl)
      have := rowOf_len (S9.nth 0 rfl)
      refine J.callF 45 13 #[.slice ra3 ((runO c l).length) rc3, .slice ra4 ((runO c l).length) rc4] hb13 (by kernel_rfl) (equal_any ra3 ((runO c l).length) rc3 (runO c l) ra4 ((runO c l).length) rc4 (runO c l) _ ((row1_ones (S9.nth 1 rfl) ((runO c l).length) (by first | rfl | omega | simp))) ((row1_ones (S9.nth 0 rfl) ((runO c l).length) (by first | rfl | omega | simp))) (by first | omega | (simp; omega))) ?_
      rintro _ w10 ⟨rfl, T9⟩
      have S10 : Sep w [rowOf encI ra4 rc4 3 1 (runO c l), rowOf encI ra3 rc3 3 1 (runO c l), box b1 [.slice c.gStates_a c.gStates_n c.gStates_c, .slice c.gInputs_a c.gInputs_n c.gInputs_c, .int .i64 c.gStart, .slice c.gMoves_a c.gMoves_n c.gMoves_c] 25] w10 := S9.trans T9
      clear T9 S9
      refine J.head (.bool true) (congrArg Value.bool (beq_self_eq_true _)) ?_
      refine J.run 3 K3_21 [(4, .bool true)] w10 (by kernel_rfl) ?_
      refine J.ret Try.f3 [.bool true] Try.func3 ⟨by kernel_rfl, trivial⟩ ?_
      refine hR _ _ ?_
      exact ⟨rfl, S10.nil⟩
  · skip
    refine J.head (.bool true) (congrArg Value.bool (by rw [fk1]; rfl)) ?_
    refine J.run 13 K3_22 [] w3 (by kernel_rfl) ?_
    refine J.callF 26 9 #[] hb9 (by kernel_rfl) (awake_any  _) ?_
    rintro _ w11 ⟨rfl, T10⟩
    have S11 : Sep w [box b1 [.slice c.gStates_a c.gStates_n c.gStates_c, .slice c.gInputs_a c.gInputs_n c.gInputs_c, .int .i64 c.gStart, .slice c.gMoves_a c.gMoves_n c.gMoves_c] 25] w11 := S3.trans T10
    clear T10 S3
    refine J.run 2 K3_23 [(4, .bool true)] w11 (by kernel_rfl) ?_
    refine J.ret Try.f3 [.bool true] Try.func3 ⟨by kernel_rfl, trivial⟩ ?_
    refine hR _ _ ?_
    exact ⟨rfl, S11.nil⟩

end Go.Proofs.Ytbbpgidmadlgmaa
