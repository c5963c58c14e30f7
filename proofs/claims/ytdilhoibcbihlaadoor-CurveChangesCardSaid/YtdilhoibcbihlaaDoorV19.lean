/- Walks of functions of this seat, printed by a program over the engine. Conditions: as each theorem says. -/
import Derived.Test.YtdilhoibcbihlaaDoorV18
namespace Go.Proofs.YtdilhoibcbihlaaDoor
open Go.Eng Go.RowKit
set_option linter.unusedSimpArgs false
set_option linter.unusedVariables false
theorem hb8 : HasBody Tryd.prog 8 := fun _ _ => by kernel_rfl
noncomputable def K8_0 : List Item := adv 2 [] (bodyOf Tryd.f8)
noncomputable def K8_1 : List Item := adv 5 [] (popK K8_0)
noncomputable def K8_2 : List Item := adv 7 [false] (popK K8_1)
noncomputable def K8_3 : List Item := adv 1 [] (popK (popK (popK K8_2)))
noncomputable def K8_4 : List Item := adv 10 [true] K8_3
noncomputable def K8_5 : List Item := adv 5 [] K8_3
noncomputable def K8_6 : List Item := adv 5 [true] K8_5
noncomputable def K8_7 : List Item := adv 4 [false] K8_5
noncomputable def K8_8 : List Item := adv 2 [] (popK K8_7)
noncomputable def K8_9 : List Item := adv 3 [] (popK K8_8)
noncomputable def K8_10 : List Item := adv 4 [] (popK (popK K8_9))
noncomputable def K8_11 : List Item := adv 2 [] (popK K8_10)
noncomputable def K8_12 : List Item := adv 3 [] (popK K8_11)
noncomputable def K8_13 : List Item := adv 4 [] (popK (popK K8_12))
noncomputable def K8_14 : List Item := adv 1 [] (popK K8_13)
noncomputable def K8_15 : List Item := adv 3 [] (popK K8_14)
noncomputable def K8_16 : List Item := adv 4 [] (popK (popK K8_15))
noncomputable def K8_17 : List Item := adv 1 [] (popK K8_16)
noncomputable def K8_18 : List Item := adv 3 [] (popK K8_17)
noncomputable def K8_19 : List Item := adv 4 [] (popK (popK K8_18))
noncomputable def K8_20 : List Item := adv 4 [] (popK (popK (popK K8_19)))
noncomputable def K8_21 : List Item := adv 2 [] K8_20
noncomputable def K8_22 : List Item := adv 5 [] (popK (popK (popK K8_21)))
noncomputable def K8_23 : List Item := adv 3 [] K8_22
set_option maxRecDepth 20000 in
set_option maxHeartbeats 20000000 in
theorem lawchanges_any (c : Crv) (n d : Int) (la : Option Addr) (len cap : Nat) (l : List Int) (w : World) (hc : crvQ w c) (hW : TabW w) (hn : (-9223372036854775808) ≤ n ∧ n ≤ 9223372036854775807) (hd : (-9223372036854775808) ≤ d ∧ d ≤ 9223372036854775807) (hI : Ints w la len l) (hlen : len ≤ 9223372036854775807) : Ret Tryd.prog 8 #[.agg #[.slice c.gX_a c.gX_n c.gX_c, .slice c.gY_a c.gY_n c.gY_c], .int .i64 n, .int .i64 d, .slice la len cap] w (fun v w' => v = .bool true ∧ Sep w [] w') := by
  have S0 := Sep.refl w
  refine Ret.named fun R hR => ?_
  refine Ret.of_J (N := 71) [(0, .agg #[.slice c.gX_a c.gX_n c.gX_c, .slice c.gY_a c.gY_n c.gY_c]), (1, .int .i64 n), (2, .int .i64 d), (3, .slice la len cap)] Tryd.func8 rfl rfl (Nat.le_of_ble_eq_true (by kernel_rfl)) (by kernel_rfl) ?_
  obtain ⟨q1, q2, q3, q4, q5, q6, _⟩ := id hc
  have ql1 := q2.len_eq
  have ql2 := q5.len_eq
  have hll := hI.len_eq
  refine J.run 2 K8_0 [(0, .agg #[.slice c.gX_a c.gX_n c.gX_c, .slice c.gY_a c.gY_n c.gY_c]), (1, .int .i64 n), (2, .int .i64 d), (3, .slice la len cap)] w (by kernel_rfl) ?_
  refine J.new S0 4 [.slice c.gX_a c.gX_n c.gX_c, .slice c.gY_a c.gY_n c.gY_c] 24 (by kernel_rfl) ?_
  intro b1 w1 S1
  refine J.run 5 K8_1 [(4, .pointer (some ⟨b1, 0, none⟩)), (1, .int .i64 n), (2, .int .i64 d), (3, .slice la len cap)] w1 (by kernel_rfl) ?_
  refine J.callF 17 10 #[] hb10 (by kernel_rfl) (awake_any  _ (tabW_sep hW S1)) ?_
  rintro _ w2 ⟨rfl, T1⟩
  have S2 : Sep w [box b1 [.slice c.gX_a c.gX_n c.gX_c, .slice c.gY_a c.gY_n c.gY_c] 24] w2 := S1.trans T1
  clear T1 S1
  refine J.run 7 K8_2 [(4, .pointer (some ⟨b1, 0, none⟩)), (1, .int .i64 n), (2, .int .i64 d), (3, .slice la len cap)] w2 (by kernel_rfl) ?_
  refine J.ok (OK.ldBox S2 0 19 24 0 (.agg #[.slice c.gX_a c.gX_n c.gX_c, .slice c.gY_a c.gY_n c.gY_c]) (by kernel_rfl) rfl (by kernel_rfl)) ?_
  refine J.newSlice S2 20 1 [.slice c.gX_a c.gX_n c.gX_c, .slice c.gY_a c.gY_n c.gY_c] 24 (by kernel_rfl) ?_
  intro b2 w3 S3
  refine J.callF 21 11 #[.slice (some ⟨b2, 0, none⟩) 1 1] hb11 (by kernel_rfl) (great_any (some ⟨b2, 0, none⟩) 1 1 ([c]) _ ((show Recs crvE 2 w3 (some ⟨b2, 0, none⟩) 1 ([c] : List Crv) from ⟨rfl, fun _ => rfl, by decide, box_cells (S3.nth 0 rfl)⟩)) (by first | omega | (simp; omega))) ?_
  rintro _ w4 ⟨rfl, T2⟩
  have S4 : Sep w [box b2 [.slice c.gX_a c.gX_n c.gX_c, .slice c.gY_a c.gY_n c.gY_c] 24, box b1 [.slice c.gX_a c.gX_n c.gX_c, .slice c.gY_a c.gY_n c.gY_c] 24] w4 := S3.trans T2
  clear T2 S3
  refine J.head (.bool (greatC c)) (congrArg Value.bool (by simp)) ?_
  refine J.run 1 K8_3 [(22, .bool (greatC c)), (4, .pointer (some ⟨b1, 0, none⟩)), (1, .int .i64 n), (2, .int .i64 d), (3, .slice la len cap)] w4 (by kernel_rfl) ?_
  rcases Bool.eq_false_or_eq_true (greatC c) with fk1 | fk1
  · skip
    refine J.head (.bool true) (congrArg Value.bool fk1) ?_
    refine J.run 10 K8_4 [(8, .bool true)] w4 (by kernel_rfl) ?_
    refine J.ret Tryd.f8 [.bool true] Tryd.func8 ⟨by kernel_rfl, trivial⟩ ?_
    refine hR _ _ ?_
    exact ⟨rfl, S4.nil⟩
  · skip
    refine J.head (.bool false) (congrArg Value.bool fk1) ?_
    have hgr := great_no fk1
    refine J.run 5 K8_5 [(26, .bool (decide ((len : Int) > 100))), (4, .pointer (some ⟨b1, 0, none⟩)), (1, .int .i64 n), (2, .int .i64 d), (3, .slice la len cap)] w4 (by kernel_rfl) ?_
    by_cases fk2 : (len : Int) > 100
    · skip
      refine J.head (.bool true) (congrArg Value.bool (decide_eq_true fk2)) ?_
      refine J.run 5 K8_6 [(8, .bool true)] w4 (by kernel_rfl) ?_
      refine J.ret Tryd.f8 [.bool true] Tryd.func8 ⟨by kernel_rfl, trivial⟩ ?_
      refine hR _ _ ?_
      exact ⟨rfl, S4.nil⟩
    · skip
      refine J.head (.bool false) (congrArg Value.bool (decide_eq_false fk2)) ?_
      refine J.run 4 K8_7 [(4, .pointer (some ⟨b1, 0, none⟩)), (1, .int .i64 n), (2, .int .i64 d), (3, .slice la len cap)] w4 (by kernel_rfl) ?_
      refine J.ok (OK.ldBox S4 1 28 24 0 (.agg #[.slice c.gX_a c.gX_n c.gX_c, .slice c.gY_a c.gY_n c.gY_c]) (by kernel_rfl) rfl (by kernel_rfl)) ?_
      refine J.run 2 K8_8 [(30, .int .i64 d), (29, .int .i64 n), (28, .agg #[.slice c.gX_a c.gX_n c.gX_c, .slice c.gY_a c.gY_n c.gY_c]), (4, .pointer (some ⟨b1, 0, none⟩)), (1, .int .i64 n), (2, .int .i64 d), (3, .slice la len cap)] w4 (by kernel_rfl) ?_
      refine J.callF 31 25 #[.agg #[.slice c.gX_a c.gX_n c.gX_c, .slice c.gY_a c.gY_n c.gY_c], .int .i64 n, .int .i64 d] hb25 (by kernel_rfl) (cscale_any c n d _ (crvQ_sep hc S4) (by omega) (by omega)) ?_
      rintro _ w5 ⟨ra1, rc1, ra2, rc2, rfl, T3⟩
      have S5 : Sep w [rowOf encI ra2 rc2 3 1 (scY c n d), rowOf encI ra1 rc1 3 1 (scX c n d), box b2 [.slice c.gX_a c.gX_n c.gX_c, .slice c.gY_a c.gY_n c.gY_c] 24, box b1 [.slice c.gX_a c.gX_n c.gX_c, .slice c.gY_a c.gY_n c.gY_c] 24] w5 := S4.trans T3
      refine J.run 3 K8_9 [(33, .int .i64 (scE c n d)), (32, .agg #[.slice ra1 ((scX c n d).length) rc1, .slice ra2 ((scY c n d).length) rc2]), (4, .pointer (some ⟨b1, 0, none⟩)), (1, .int .i64 n), (2, .int .i64 d), (3, .slice la len cap)] w5 (by kernel_rfl) ?_
      refine J.new S5 9 [.slice none 0 0, .slice none 0 0] 24 (by kernel_rfl) ?_
      intro b3 w6 S6
      refine J.stBox S6 0 24 0 (.agg #[.slice ra1 ((scX c n d).length) rc1, .slice ra2 ((scY c n d).length) rc2]) [.slice ra1 ((scX c n d).length) rc1, .slice ra2 ((scY c n d).length) rc2] [box b3 [.slice ra1 ((scX c n d).length) rc1, .slice ra2 ((scY c n d).length) rc2] 24, rowOf encI ra2 rc2 3 1 (scY c n d), rowOf encI ra1 rc1 3 1 (scX c n d), box b2 [.slice c.gX_a c.gX_n c.gX_c, .slice c.gY_a c.gY_n c.gY_c] 24, box b1 [.slice c.gX_a c.gX_n c.gX_c, .slice c.gY_a c.gY_n c.gY_c] 24] (by kernel_rfl) rfl (by kernel_rfl) (by kernel_rfl) rfl ?_
      intro w7 S7
      refine J.run 4 K8_10 [(10, .int .i64 (scE c n d)), (9, .pointer (some ⟨b3, 0, none⟩)), (4, .pointer (some ⟨b1, 0, none⟩)), (1, .int .i64 n), (2, .int .i64 d), (3, .slice la len cap)] w7 (by kernel_rfl) ?_
      refine J.ok (OK.ldBox S7 4 35 24 0 (.agg #[.slice c.gX_a c.gX_n c.gX_c, .slice c.gY_a c.gY_n c.gY_c]) (by kernel_rfl) rfl (by kernel_rfl)) ?_
      refine J.run 2 K8_11 [(37, .int .i64 d), (36, .int .i64 n), (35, .agg #[.slice c.gX_a c.gX_n c.gX_c, .slice c.gY_a c.gY_n c.gY_c]), (10, .int .i64 (scE c n d)), (9, .pointer (some ⟨b3, 0, none⟩)), (4, .pointer (some ⟨b1, 0, none⟩)), (3, .slice la len cap)] w7 (by kernel_rfl) ?_
      refine J.callF 38 26 #[.agg #[.slice c.gX_a c.gX_n c.gX_c, .slice c.gY_a c.gY_n c.gY_c], .int .i64 n, .int .i64 d] hb26 (by kernel_rfl) (rcscale_any c n d _ (crvQ_sep hc S7) (by omega) (by omega)) ?_
      rintro _ w8 ⟨ra3, rc3, ra4, rc4, rfl, T4⟩
      have S8 : Sep w [rowOf encI ra4 rc4 3 1 (scY c n d), rowOf encI ra3 rc3 3 1 (scX c n d), box b3 [.slice ra1 ((scX c n d).length) rc1, .slice ra2 ((scY c n d).length) rc2] 24, rowOf encI ra2 rc2 3 1 (scY c n d), rowOf encI ra1 rc1 3 1 (scX c n d), box b2 [.slice c.gX_a c.gX_n c.gX_c, .slice c.gY_a c.gY_n c.gY_c] 24, box b1 [.slice c.gX_a c.gX_n c.gX_c, .slice c.gY_a c.gY_n c.gY_c] 24] w8 := S7.trans T4
      refine J.run 3 K8_12 [(40, .int .i64 (scE c n d)), (39, .agg #[.slice ra3 ((scX c n d).length) rc3, .slice ra4 ((scY c n d).length) rc4]), (10, .int .i64 (scE c n d)), (9, .pointer (some ⟨b3, 0, none⟩)), (4, .pointer (some ⟨b1, 0, none⟩)), (3, .slice la len cap)] w8 (by kernel_rfl) ?_
      refine J.new S8 11 [.slice none 0 0, .slice none 0 0] 24 (by kernel_rfl) ?_
      intro b4 w9 S9
      refine J.stBox S9 0 24 0 (.agg #[.slice ra3 ((scX c n d).length) rc3, .slice ra4 ((scY c n d).length) rc4]) [.slice ra3 ((scX c n d).length) rc3, .slice ra4 ((scY c n d).length) rc4] [box b4 [.slice ra3 ((scX c n d).length) rc3, .slice ra4 ((scY c n d).length) rc4] 24, rowOf encI ra4 rc4 3 1 (scY c n d), rowOf encI ra3 rc3 3 1 (scX c n d), box b3 [.slice ra1 ((scX c n d).length) rc1, .slice ra2 ((scY c n d).length) rc2] 24, rowOf encI ra2 rc2 3 1 (scY c n d), rowOf encI ra1 rc1 3 1 (scX c n d), box b2 [.slice c.gX_a c.gX_n c.gX_c, .slice c.gY_a c.gY_n c.gY_c] 24, box b1 [.slice c.gX_a c.gX_n c.gX_c, .slice c.gY_a c.gY_n c.gY_c] 24] (by kernel_rfl) rfl (by kernel_rfl) (by kernel_rfl) rfl ?_
      intro w10 S10
      refine J.run 4 K8_13 [(12, .int .i64 (scE c n d)), (11, .pointer (some ⟨b4, 0, none⟩)), (10, .int .i64 (scE c n d)), (9, .pointer (some ⟨b3, 0, none⟩)), (4, .pointer (some ⟨b1, 0, none⟩)), (3, .slice la len cap)] w10 (by kernel_rfl) ?_
      refine J.ok (OK.ldBox S10 7 42 24 0 (.agg #[.slice c.gX_a c.gX_n c.gX_c, .slice c.gY_a c.gY_n c.gY_c]) (by kernel_rfl) rfl (by kernel_rfl)) ?_
      refine J.run 1 K8_14 [(43, .slice la len cap), (42, .agg #[.slice c.gX_a c.gX_n c.gX_c, .slice c.gY_a c.gY_n c.gY_c]), (12, .int .i64 (scE c n d)), (11, .pointer (some ⟨b4, 0, none⟩)), (10, .int .i64 (scE c n d)), (9, .pointer (some ⟨b3, 0, none⟩)), (4, .pointer (some ⟨b1, 0, none⟩)), (3, .slice la len cap)] w10 (by kernel_rfl) ?_
      refine J.callF 44 27 #[.agg #[.slice c.gX_a c.gX_n c.gX_c, .slice c.gY_a c.gY_n c.gY_c], .slice la len cap] hb27 (by kernel_rfl) (csample_any c la len cap l _ (crvQ_sep hc S10) ((hI.sep S10)) (by omega)) ?_
      rintro _ w11 ⟨ra5, rc5, ra6, rc6, rfl, T5⟩
      have S11 : Sep w [rowOf encI ra6 rc6 3 1 (saY c l), rowOf encI ra5 rc5 3 1 (saX c l), box b4 [.slice ra3 ((scX c n d).length) rc3, .slice ra4 ((scY c n d).length) rc4] 24, rowOf encI ra4 rc4 3 1 (scY c n d), rowOf encI ra3 rc3 3 1 (scX c n d), box b3 [.slice ra1 ((scX c n d).length) rc1, .slice ra2 ((scY c n d).length) rc2] 24, rowOf encI ra2 rc2 3 1 (scY c n d), rowOf encI ra1 rc1 3 1 (scX c n d), box b2 [.slice c.gX_a c.gX_n c.gX_c, .slice c.gY_a c.gY_n c.gY_c] 24, box b1 [.slice c.gX_a c.gX_n c.gX_c, .slice c.gY_a c.gY_n c.gY_c] 24] w11 := S10.trans T5
      refine J.run 3 K8_15 [(46, .int .i64 (saE c l)), (45, .agg #[.slice ra5 ((saX c l).length) rc5, .slice ra6 ((saY c l).length) rc6]), (12, .int .i64 (scE c n d)), (11, .pointer (some ⟨b4, 0, none⟩)), (10, .int .i64 (scE c n d)), (9, .pointer (some ⟨b3, 0, none⟩)), (4, .pointer (some ⟨b1, 0, none⟩)), (3, .slice la len cap)] w11 (by kernel_rfl) ?_
      refine J.new S11 13 [.slice none 0 0, .slice none 0 0] 24 (by kernel_rfl) ?_
      intro b5 w12 S12
      refine J.stBox S12 0 24 0 (.agg #[.slice ra5 ((saX c l).length) rc5, .slice ra6 ((saY c l).length) rc6]) [.slice ra5 ((saX c l).length) rc5, .slice ra6 ((saY c l).length) rc6] [box b5 [.slice ra5 ((saX c l).length) rc5, .slice ra6 ((saY c l).length) rc6] 24, rowOf encI ra6 rc6 3 1 (saY c l), rowOf encI ra5 rc5 3 1 (saX c l), box b4 [.slice ra3 ((scX c n d).length) rc3, .slice ra4 ((scY c n d).length) rc4] 24, rowOf encI ra4 rc4 3 1 (scY c n d), rowOf encI ra3 rc3 3 1 (scX c n d), box b3 [.slice ra1 ((scX c n d).length) rc1, .slice ra2 ((scY c n d).length) rc2] 24, rowOf encI ra2 rc2 3 1 (scY c n d), rowOf encI ra1 rc1 3 1 (scX c n d), box b2 [.slice c.gX_a c.gX_n c.gX_c, .slice c.gY_a c.gY_n c.gY_c] 24, box b1 [.slice c.gX_a c.gX_n c.gX_c, .slice c.gY_a c.gY_n c.gY_c] 24] (by kernel_rfl) rfl (by kernel_rfl) (by kernel_rfl) rfl ?_
      intro w13 S13
      refine J.run 4 K8_16 [(14, .int .i64 (saE c l)), (13, .pointer (some ⟨b5, 0, none⟩)), (12, .int .i64 (scE c n d)), (11, .pointer (some ⟨b4, 0, none⟩)), (10, .int .i64 (scE c n d)), (9, .pointer (some ⟨b3, 0, none⟩)), (4, .pointer (some ⟨b1, 0, none⟩)), (3, .slice la len cap)] w13 (by kernel_rfl) ?_
      refine J.ok (OK.ldBox S13 10 48 24 0 (.agg #[.slice c.gX_a c.gX_n c.gX_c, .slice c.gY_a c.gY_n c.gY_c]) (by kernel_rfl) rfl (by kernel_rfl)) ?_
      refine J.run 1 K8_17 [(49, .slice la len cap), (48, .agg #[.slice c.gX_a c.gX_n c.gX_c, .slice c.gY_a c.gY_n c.gY_c]), (14, .int .i64 (saE c l)), (13, .pointer (some ⟨b5, 0, none⟩)), (12, .int .i64 (scE c n d)), (11, .pointer (some ⟨b4, 0, none⟩)), (10, .int .i64 (scE c n d)), (9, .pointer (some ⟨b3, 0, none⟩))] w13 (by kernel_rfl) ?_
      refine J.callF 50 28 #[.agg #[.slice c.gX_a c.gX_n c.gX_c, .slice c.gY_a c.gY_n c.gY_c], .slice la len cap] hb28 (by kernel_rfl) (rcsample_any c la len cap l _ (crvQ_sep hc S13) ((hI.sep S13)) (by omega)) ?_
      rintro _ w14 ⟨ra7, rc7, ra8, rc8, rfl, T6⟩
      have S14 : Sep w [rowOf encI ra8 rc8 3 1 (saY c l), rowOf encI ra7 rc7 3 1 (saX c l), box b5 [.slice ra5 ((saX c l).length) rc5, .slice ra6 ((saY c l).length) rc6] 24, rowOf encI ra6 rc6 3 1 (saY c l), rowOf encI ra5 rc5 3 1 (saX c l), box b4 [.slice ra3 ((scX c n d).length) rc3, .slice ra4 ((scY c n d).length) rc4] 24, rowOf encI ra4 rc4 3 1 (scY c n d), rowOf encI ra3 rc3 3 1 (scX c n d), box b3 [.slice ra1 ((scX c n d).length) rc1, .slice ra2 ((scY c n d).length) rc2] 24, rowOf encI ra2 rc2 3 1 (scY c n d), rowOf encI ra1 rc1 3 1 (scX c n d), box b2 [.slice c.gX_a c.gX_n c.gX_c, .slice c.gY_a c.gY_n c.gY_c] 24, box b1 [.slice c.gX_a c.gX_n c.gX_c, .slice c.gY_a c.gY_n c.gY_c] 24] w14 := S13.trans T6
      refine J.run 3 K8_18 [(52, .int .i64 (saE c l)), (51, .agg #[.slice ra7 ((saX c l).length) rc7, .slice ra8 ((saY c l).length) rc8]), (14, .int .i64 (saE c l)), (13, .pointer (some ⟨b5, 0, none⟩)), (12, .int .i64 (scE c n d)), (11, .pointer (some ⟨b4, 0, none⟩)), (10, .int .i64 (scE c n d)), (9, .pointer (some ⟨b3, 0, none⟩))] w14 (by kernel_rfl) ?_
      refine J.new S14 15 [.slice none 0 0, .slice none 0 0] 24 (by kernel_rfl) ?_
      intro b6 w15 S15
      refine J.stBox S15 0 24 0 (.agg #[.slice ra7 ((saX c l).length) rc7, .slice ra8 ((saY c l).length) rc8]) [.slice ra7 ((saX c l).length) rc7, .slice ra8 ((saY c l).length) rc8] [box b6 [.slice ra7 ((saX c l).length) rc7, .slice ra8 ((saY c l).length) rc8] 24, rowOf encI ra8 rc8 3 1 (saY c l), rowOf encI ra7 rc7 3 1 (saX c l), box b5 [.slice ra5 ((saX c l).length) rc5, .slice ra6 ((saY c l).length) rc6] 24, rowOf encI ra6 rc6 3 1 (saY c l), rowOf encI ra5 rc5 3 1 (saX c l), box b4 [.slice ra3 ((scX c n d).length) rc3, .slice ra4 ((scY c n d).length) rc4] 24, rowOf encI ra4 rc4 3 1 (scY c n d), rowOf encI ra3 rc3 3 1 (scX c n d), box b3 [.slice ra1 ((scX c n d).length) rc1, .slice ra2 ((scY c n d).length) rc2] 24, rowOf encI ra2 rc2 3 1 (scY c n d), rowOf encI ra1 rc1 3 1 (scX c n d), box b2 [.slice c.gX_a c.gX_n c.gX_c, .slice c.gY_a c.gY_n c.gY_c] 24, box b1 [.slice c.gX_a c.gX_n c.gX_c, .slice c.gY_a c.gY_n c.gY_c] 24] (by kernel_rfl) rfl (by kernel_rfl) (by kernel_rfl) rfl ?_
      intro w16 S16
      refine J.run 4 K8_19 [(16, .int .i64 (saE c l)), (15, .pointer (some ⟨b6, 0, none⟩)), (14, .int .i64 (saE c l)), (13, .pointer (some ⟨b5, 0, none⟩)), (12, .int .i64 (scE c n d)), (11, .pointer (some ⟨b4, 0, none⟩)), (10, .int .i64 (scE c n d)), (9, .pointer (some ⟨b3, 0, none⟩))] w16 (by kernel_rfl) ?_
      refine J.ok (OK.ldBox S16 9 53 24 0 (.agg #[.slice ra1 ((scX c n d).length) rc1, .slice ra2 ((scY c n d).length) rc2]) (by kernel_rfl) rfl (by kernel_rfl)) ?_
      refine J.ok (OK.ldBox S16 6 54 24 0 (.agg #[.slice ra3 ((scX c n d).length) rc3, .slice ra4 ((scY c n d).length) rc4]) (by kernel_rfl) rfl (by kernel_rfl)) ?_
      have := rowOf_len (S16.nth 11 rfl)
      have := rowOf_len (S16.nth 10 rfl)
      have := rowOf_len (S16.nth 8 rfl)
      have := rowOf_len (S16.nth 7 rfl)
      refine J.callF 55 29 #[.agg #[.slice ra1 ((scX c n d).length) rc1, .slice ra2 ((scY c n d).length) rc2], .agg #[.slice ra3 ((scX c n d).length) rc3, .slice ra4 ((scY c n d).length) rc4]] hb29 (by kernel_rfl) (same_any ra1 ((scX c n d).length) rc1 (scX c n d) ra2 ((scY c n d).length) rc2 (scY c n d) ra3 ((scX c n d).length) rc3 (scX c n d) ra4 ((scY c n d).length) rc4 (scY c n d) _ ((row1_ones (S16.nth 11 rfl) ((scX c n d).length) (by first | rfl | omega | simp))) ((row1_ones (S16.nth 10 rfl) ((scY c n d).length) (by first | rfl | omega | simp))) ((row1_ones (S16.nth 8 rfl) ((scX c n d).length) (by first | rfl | omega | simp))) ((row1_ones (S16.nth 7 rfl) ((scY c n d).length) (by first | rfl | omega | simp))) (by first | omega | (simp; omega)) (by first | omega | (simp; omega))) ?_
      rintro _ w17 ⟨rfl, T7⟩
      have S17 : Sep w [box b6 [.slice ra7 ((saX c l).length) rc7, .slice ra8 ((saY c l).length) rc8] 24, rowOf encI ra8 rc8 3 1 (saY c l), rowOf encI ra7 rc7 3 1 (saX c l), box b5 [.slice ra5 ((saX c l).length) rc5, .slice ra6 ((saY c l).length) rc6] 24, rowOf encI ra6 rc6 3 1 (saY c l), rowOf encI ra5 rc5 3 1 (saX c l), box b4 [.slice ra3 ((scX c n d).length) rc3, .slice ra4 ((scY c n d).length) rc4] 24, rowOf encI ra4 rc4 3 1 (scY c n d), rowOf encI ra3 rc3 3 1 (scX c n d), box b3 [.slice ra1 ((scX c n d).length) rc1, .slice ra2 ((scY c n d).length) rc2] 24, rowOf encI ra2 rc2 3 1 (scY c n d), rowOf encI ra1 rc1 3 1 (scX c n d), box b2 [.slice c.gX_a c.gX_n c.gX_c, .slice c.gY_a c.gY_n c.gY_c] 24, box b1 [.slice c.gX_a c.gX_n c.gX_c, .slice c.gY_a c.gY_n c.gY_c] 24] w17 := S16.trans T7
      clear T7 S16
      refine J.head (.bool true) (congrArg Value.bool (by simp)) ?_
      refine J.run 4 K8_20 [(59, .bool ((scE c n d) == (scE c n d))), (56, .bool true), (16, .int .i64 (saE c l)), (15, .pointer (some ⟨b6, 0, none⟩)), (14, .int .i64 (saE c l)), (13, .pointer (some ⟨b5, 0, none⟩))] w17 (by kernel_rfl) ?_
      refine J.head (.bool true) (congrArg Value.bool (by simp)) ?_
      refine J.run 2 K8_21 [(61, .bool true), (16, .int .i64 (saE c l)), (15, .pointer (some ⟨b6, 0, none⟩)), (14, .int .i64 (saE c l)), (13, .pointer (some ⟨b5, 0, none⟩))] w17 (by kernel_rfl) ?_
      refine J.ok (OK.ldBox S17 3 62 24 0 (.agg #[.slice ra5 ((saX c l).length) rc5, .slice ra6 ((saY c l).length) rc6]) (by kernel_rfl) rfl (by kernel_rfl)) ?_
      refine J.ok (OK.ldBox S17 0 63 24 0 (.agg #[.slice ra7 ((saX c l).length) rc7, .slice ra8 ((saY c l).length) rc8]) (by kernel_rfl) rfl (by kernel_rfl)) ?_
      have := rowOf_len (S17.nth 5 rfl)
      have := rowOf_len (S17.nth 4 rfl)
      have := rowOf_len (S17.nth 2 rfl)
      have := rowOf_len (S17.nth 1 rfl)
      refine J.callF 64 29 #[.agg #[.slice ra5 ((saX c l).length) rc5, .slice ra6 ((saY c l).length) rc6], .agg #[.slice ra7 ((saX c l).length) rc7, .slice ra8 ((saY c l).length) rc8]] hb29 (by kernel_rfl) (same_any ra5 ((saX c l).length) rc5 (saX c l) ra6 ((saY c l).length) rc6 (saY c l) ra7 ((saX c l).length) rc7 (saX c l) ra8 ((saY c l).length) rc8 (saY c l) _ ((row1_ones (S17.nth 5 rfl) ((saX c l).length) (by first | rfl | omega | simp))) ((row1_ones (S17.nth 4 rfl) ((saY c l).length) (by first | rfl | omega | simp))) ((row1_ones (S17.nth 2 rfl) ((saX c l).length) (by first | rfl | omega | simp))) ((row1_ones (S17.nth 1 rfl) ((saY c l).length) (by first | rfl | omega | simp))) (by first | omega | (simp; omega)) (by first | omega | (simp; omega))) ?_
      rintro _ w18 ⟨rfl, T8⟩
      have S18 : Sep w [box b6 [.slice ra7 ((saX c l).length) rc7, .slice ra8 ((saY c l).length) rc8] 24, rowOf encI ra8 rc8 3 1 (saY c l), rowOf encI ra7 rc7 3 1 (saX c l), box b5 [.slice ra5 ((saX c l).length) rc5, .slice ra6 ((saY c l).length) rc6] 24, rowOf encI ra6 rc6 3 1 (saY c l), rowOf encI ra5 rc5 3 1 (saX c l), box b4 [.slice ra3 ((scX c n d).length) rc3, .slice ra4 ((scY c n d).length) rc4] 24, rowOf encI ra4 rc4 3 1 (scY c n d), rowOf encI ra3 rc3 3 1 (scX c n d), box b3 [.slice ra1 ((scX c n d).length) rc1, .slice ra2 ((scY c n d).length) rc2] 24, rowOf encI ra2 rc2 3 1 (scY c n d), rowOf encI ra1 rc1 3 1 (scX c n d), box b2 [.slice c.gX_a c.gX_n c.gX_c, .slice c.gY_a c.gY_n c.gY_c] 24, box b1 [.slice c.gX_a c.gX_n c.gX_c, .slice c.gY_a c.gY_n c.gY_c] 24] w18 := S17.trans T8
      clear T8 S17
      refine J.head (.bool true) (congrArg Value.bool (by simp)) ?_
      refine J.run 5 K8_22 [(69, .bool ((saE c l) == (saE c l))), (66, .bool true)] w18 (by kernel_rfl) ?_
      refine J.head (.bool true) (congrArg Value.bool (by simp)) ?_
      refine J.run 3 K8_23 [(8, .bool true)] w18 (by kernel_rfl) ?_
      refine J.ret Tryd.f8 [.bool true] Tryd.func8 ⟨by kernel_rfl, trivial⟩ ?_
      refine hR _ _ ?_
      exact ⟨rfl, S18.nil⟩

end Go.Proofs.YtdilhoibcbihlaaDoor
