/- Walks of functions of this seat, printed by a program over the engine. Conditions: as each theorem says. -/
import Derived.Test.YthhdaackhfffiaaDoorZbD21
namespace Go.Proofs.YthhdaackhfffiaaDoor
open Go.Eng Go.RowKit
set_option linter.unusedSimpArgs false
set_option linter.unusedVariables false
theorem valid_of_texte {l : List Dr} (h : textE l = 0) : validD l = true := by
  cases hv : validD l with
  | true => rfl
  | false => rw [texte_no hv] at h; exact absurd h (by decide)
noncomputable def K6_0 : List Item := adv 7 [] (bodyOf Tryd.f6)
noncomputable def K6_1 : List Item := adv 7 [] (popK K6_0)
noncomputable def K6_2 : List Item := adv 8 [true] K6_1
noncomputable def K6_3 : List Item := adv 2 [] (popK K6_2)
noncomputable def K6_4 : List Item := adv 5 [] K6_1
noncomputable def K6_5 : List Item := adv 3 [true] K6_4
noncomputable def K6_6 : List Item := adv 2 [] (popK K6_5)
noncomputable def K6_7 : List Item := adv 6 [false] K6_4
noncomputable def K6_8 : List Item := adv 11 [] (popK K6_7)
noncomputable def K6_9 : List Item := adv 5 [] K6_8
noncomputable def K6_10 : List Item := adv 4 [true] K6_9
noncomputable def K6_11 : List Item := adv 4 [] (popK K6_10)
noncomputable def K6_12 : List Item := adv 1 [] (popK K6_11)
noncomputable def K6_13 : List Item := adv 7 [] (popK K6_12)
noncomputable def K6_14 : List Item := adv 1 [] (popK K6_13)
noncomputable def K6_15 : List Item := adv 2 [] (popK K6_14)
noncomputable def K6_16 : List Item := adv 2 [] K6_15
noncomputable def K6_17 : List Item := adv 3 [] (popK K6_16)
noncomputable def K6_18 : List Item := adv 5 [false] K6_17
noncomputable def K6_19 : List Item := adv 4 [] (popK K6_18)
noncomputable def K6_20 : List Item := adv 1 [] (popK K6_19)
noncomputable def K6_21 : List Item := adv 7 [] (popK K6_20)
noncomputable def K6_22 : List Item := adv 8 [] K6_21
noncomputable def K6_23 : List Item := adv 1 [] K6_22
noncomputable def K6_24 : List Item := adv 4 [] (popK K6_23)
noncomputable def K6_25 : List Item := adv 5 [] K6_21
noncomputable def K6_26 : List Item := adv 9 [] K6_25
noncomputable def K6_27 : List Item := adv 5 [false] K6_9
noncomputable def K6_28 : List Item := adv 4 [] (popK K6_27)
noncomputable def K6_29 : List Item := adv 1 [] (popK K6_28)
noncomputable def K6_30 : List Item := adv 7 [] (popK K6_29)
noncomputable def K6_31 : List Item := adv 8 [] K6_30
noncomputable def K6_32 : List Item := adv 1 [] K6_31
noncomputable def K6_33 : List Item := adv 4 [] (popK K6_32)
noncomputable def K6_34 : List Item := adv 5 [] K6_30
noncomputable def K6_35 : List Item := adv 9 [] K6_34
noncomputable def K6_36 : List Item := adv 10 [false] K6_8
noncomputable def K6_37 : List Item := adv 4 [] (popK K6_36)
noncomputable def K6_38 : List Item := adv 1 [] (popK K6_37)
noncomputable def K6_39 : List Item := adv 7 [] (popK K6_38)
noncomputable def K6_40 : List Item := adv 8 [] K6_39
noncomputable def K6_41 : List Item := adv 1 [] K6_40
noncomputable def K6_42 : List Item := adv 4 [] (popK K6_41)
noncomputable def K6_43 : List Item := adv 5 [] K6_39
noncomputable def K6_44 : List Item := adv 9 [] K6_43
set_option maxRecDepth 20000 in
set_option maxHeartbeats 20000000 in
theorem lawback_any (a : Option Addr) (n c : Nat) (l : List Dr) (s : ByteArray) (w : World) (hl : Recs drE 5 w a n l) (hs : s.size ≤ 9223372036854775807) (hW : TabW w) : Ret Tryd.prog 6 #[.slice a n c, .string s] w (fun v w' => v = .bool true ∧ Sep w [] w') := by
 have S0 := Sep.refl w
 refine Ret.named fun R hR => ?_
 refine Ret.of_J (N := 78) [(0, .slice a n c), (1, .string s)] Tryd.func6 rfl rfl (Nat.le_of_ble_eq_true (by kernel_rfl)) (by kernel_rfl) ?_
 have hll := hl.len_eq
 refine J.run 7 K6_0 [(0, .slice a n c), (1, .string s)] w (by kernel_rfl) ?_
 refine J.callF 13 8 #[] hb8 (by kernel_rfl) (awake_any  _ (tabW_sep hW S0)) ?_
 rintro _ w1 ⟨rfl, T1⟩
 have S1 : Sep w [] w1 := S0.trans T1
 clear T1
 refine J.run 7 K6_1 [(20, .bool (decide ((n : Int) > 200))), (0, .slice a n c), (1, .string s)] w1 (by kernel_rfl) ?_
 by_cases fk1 : (n : Int) > 200
 ·skip
  refine J.head (.bool true) (congrArg Value.bool (decide_eq_true fk1)) ?_
  refine J.run 8 K6_2 [] w1 (by kernel_rfl) ?_
  refine J.callF 25 8 #[] hb8 (by kernel_rfl) (awake_any  _ (tabW_sep hW S1)) ?_
  rintro _ w2 ⟨rfl, T2⟩
  have S2 : Sep w [] w2 := S1.trans T2
  clear T2 S1
  refine J.run 2 K6_3 [(4, .bool true)] w2 (by kernel_rfl) ?_
  refine J.ret Tryd.f6 [.bool true] Tryd.func6 ⟨by kernel_rfl, trivial⟩ ?_
  refine hR _ _ ?_
  exact ⟨rfl, S2.nil⟩
 ·skip
  refine J.head (.bool false) (congrArg Value.bool (decide_eq_false fk1)) ?_
  refine J.run 5 K6_4 [(24, .bool (decide ((s.size : Int) > 4000))), (0, .slice a n c), (1, .string s)] w1 (by kernel_rfl) ?_
  by_cases fk2 : (s.size : Int) > 4000
  ·skip
   refine J.head (.bool true) (congrArg Value.bool (decide_eq_true fk2)) ?_
   refine J.run 3 K6_5 [] w1 (by kernel_rfl) ?_
   refine J.callF 25 8 #[] hb8 (by kernel_rfl) (awake_any  _ (tabW_sep hW S1)) ?_
   rintro _ w3 ⟨rfl, T3⟩
   have S3 : Sep w [] w3 := S1.trans T3
   clear T3 S1
   refine J.run 2 K6_6 [(4, .bool true)] w3 (by kernel_rfl) ?_
   refine J.ret Tryd.f6 [.bool true] Tryd.func6 ⟨by kernel_rfl, trivial⟩ ?_
   refine hR _ _ ?_
   exact ⟨rfl, S3.nil⟩
  ·skip
   refine J.head (.bool false) (congrArg Value.bool (decide_eq_false fk2)) ?_
   refine J.run 6 K6_7 [(27, .slice a n c), (0, .slice a n c), (1, .string s)] w1 (by kernel_rfl) ?_
   refine J.callF 28 17 #[.slice a n c] hb17 (by kernel_rfl) (text_any a n c l _ (hl.sep S1) (tabW_sep hW S1)) ?_
   rintro _ w4 ⟨rfl, T4⟩
   have S4 : Sep w [] w4 := S1.trans T4
   clear T4 S1
   refine J.run 11 K6_8 [(33, .bool ((textE l) == 0)), (5, .string (textD l)), (0, .slice a n c), (1, .string s)] w4 (by kernel_rfl) ?_
   by_cases fk3 : (textE l) = 0
   ·skip
    refine J.head (.bool true) (congrArg Value.bool (beq_iff_eq.2 fk3)) ?_
    have hv := valid_of_texte fk3
    refine J.run 5 K6_9 [(37, .bool (decide (((textD l).size : Int) ≤ 16384))), (5, .string (textD l)), (0, .slice a n c), (1, .string s)] w4 (by kernel_rfl) ?_
    by_cases fk4 : ((textD l).size : Int) ≤ 16384
    ·skip
     refine J.head (.bool true) (congrArg Value.bool (decide_eq_true fk4)) ?_
     have hpt := par_own hv (by omega)
     refine J.run 4 K6_10 [(39, .string (textD l)), (0, .slice a n c), (1, .string s)] w4 (by kernel_rfl) ?_
     refine J.callF 40 18 #[.string (textD l)] hb18 (by kernel_rfl) (parse_any (textD l) _ (by omega) (tabW_sep hW S4)) ?_
     rintro _ w5 ⟨ra1, rc1, rfl, T5⟩
     have S5 : Sep w [rowOf drE ra1 rc1 27 5 ((parF (textD l)).l)] w5 := S4.trans T5
     clear T5 S4
     refine J.run 4 K6_11 [(43, iv ((parF (textD l)).e)), (42, .agg #[iv ((parF (textD l)).pl), iv ((parF (textD l)).pc)]), (41, .slice ra1 (((parF (textD l)).l).length) rc1), (0, .slice a n c), (1, .string s)] w5 (by kernel_rfl) ?_
     refine J.new S5 8 [iv 0, iv 0] 39 (by kernel_rfl) ?_
     intro b1 w6 S6
     refine J.run 1 K6_12 [(7, .slice ra1 (((parF (textD l)).l).length) rc1), (8, .pointer (some ⟨b1, 0, none⟩)), (43, iv ((parF (textD l)).e)), (42, .agg #[iv ((parF (textD l)).pl), iv ((parF (textD l)).pc)]), (0, .slice a n c), (1, .string s)] w6 (by kernel_rfl) ?_
     refine J.stBox S6 0 39 0 (.agg #[iv ((parF (textD l)).pl), iv ((parF (textD l)).pc)]) [iv ((parF (textD l)).pl), iv ((parF (textD l)).pc)] [box b1 [iv ((parF (textD l)).pl), iv ((parF (textD l)).pc)] 39, rowOf drE ra1 rc1 27 5 ((parF (textD l)).l)] (by kernel_rfl) rfl (by kernel_rfl) (by kernel_rfl) rfl ?_
     intro w7 S7
     refine J.run 7 K6_13 [(46, .bool (((parF (textD l)).e) != 0)), (7, .slice ra1 (((parF (textD l)).l).length) rc1), (8, .pointer (some ⟨b1, 0, none⟩)), (0, .slice a n c), (1, .string s)] w7 (by kernel_rfl) ?_
     have fk6 : ((parF (textD l)).e) = 0 := (congrArg ParD.e hpt)
     refine J.head (.bool false) (congrArg Value.bool (bne_eq_false_iff_eq.2 fk6)) ?_
     refine J.ok (OK.ldBox S7 0 47 39 0 (.agg #[iv ((parF (textD l)).pl), iv ((parF (textD l)).pc)]) (by kernel_rfl) rfl (by kernel_rfl)) ?_
     refine J.run 1 K6_14 [(48, .agg #[iv 0, iv 0]), (47, .agg #[iv ((parF (textD l)).pl), iv ((parF (textD l)).pc)]), (46, .bool false), (7, .slice ra1 (((parF (textD l)).l).length) rc1), (0, .slice a n c), (1, .string s)] w7 (by kernel_rfl) ?_
     refine J.ok (OK.eqS 49 false 39 #[iv ((parF (textD l)).pl), iv ((parF (textD l)).pc)] #[iv 0, iv 0] ((((parF (textD l)).pl) == 0) && ((((parF (textD l)).pc) == 0) && true)) (by kernel_rfl) (by kernel_rfl) (by kernel_rfl) (!((((parF (textD l)).pl) == 0) && (((parF (textD l)).pc) == 0))) (by simp)) ?_
     refine J.run 2 K6_15 [(51, .bool (!((((parF (textD l)).pl) == 0) && (((parF (textD l)).pc) == 0)))), (7, .slice ra1 (((parF (textD l)).l).length) rc1), (0, .slice a n c), (1, .string s)] w7 (by kernel_rfl) ?_
     have fk8 : ((((parF (textD l)).pl) == 0) && (((parF (textD l)).pc) == 0)) = true := (by rw [hpt]; rfl)
     refine J.head (.bool false) (congrArg Value.bool (by rw [fk8]; rfl)) ?_
     refine J.run 2 K6_16 [(53, .slice a n c), (52, .slice ra1 (((parF (textD l)).l).length) rc1), (51, .bool false), (1, .string s)] w7 (by kernel_rfl) ?_
     have := rowOf_len (S7.nth 1 rfl)
     refine J.callF 54 20 #[.slice ra1 (((parF (textD l)).l).length) rc1, .slice a n c] hb20 (by kernel_rfl) (equalDr_any ra1 (((parF (textD l)).l).length) rc1 ((parF (textD l)).l) a n c l _ ((rowOf_recs (S7.nth 1 rfl) _ rfl (fun _ => rfl) (by decide))) (hl.sep S7) (by first | omega | (simp; omega))) ?_
     rintro _ w8 ⟨rfl, T6⟩
     have S8 : Sep w [box b1 [iv ((parF (textD l)).pl), iv ((parF (textD l)).pc)] 39, rowOf drE ra1 rc1 27 5 ((parF (textD l)).l)] w8 := S7.trans T6
     clear T6 S7
     refine J.run 3 K6_17 [(56, .bool (!(sameDr ((parF (textD l)).l) l))), (1, .string s)] w8 (by kernel_rfl) ?_
     have fk10 : (sameDr ((parF (textD l)).l) l) = true := (by rw [hpt]; exact sameDr_refl _)
     refine J.head (.bool false) (congrArg Value.bool (by rw [fk10]; rfl)) ?_
     refine J.run 5 K6_18 [(58, .string s)] w8 (by kernel_rfl) ?_
     refine J.callF 59 18 #[.string s] hb18 (by kernel_rfl) (parse_any s _ (by omega) (tabW_sep hW S8)) ?_
     rintro _ w9 ⟨ra2, rc2, rfl, T7⟩
     have S9 : Sep w [rowOf drE ra2 rc2 27 5 ((parF s).l), box b1 [iv ((parF (textD l)).pl), iv ((parF (textD l)).pc)] 39, rowOf drE ra1 rc1 27 5 ((parF (textD l)).l)] w9 := S8.trans T7
     clear T7 S8
     refine J.run 4 K6_19 [(62, iv ((parF s).e)), (61, .agg #[iv ((parF s).pl), iv ((parF s).pc)]), (60, .slice ra2 (((parF s).l).length) rc2)] w9 (by kernel_rfl) ?_
     refine J.new S9 11 [iv 0, iv 0] 39 (by kernel_rfl) ?_
     intro b2 w10 S10
     refine J.run 1 K6_20 [(10, .slice ra2 (((parF s).l).length) rc2), (11, .pointer (some ⟨b2, 0, none⟩)), (62, iv ((parF s).e)), (61, .agg #[iv ((parF s).pl), iv ((parF s).pc)])] w10 (by kernel_rfl) ?_
     refine J.stBox S10 0 39 0 (.agg #[iv ((parF s).pl), iv ((parF s).pc)]) [iv ((parF s).pl), iv ((parF s).pc)] [box b2 [iv ((parF s).pl), iv ((parF s).pc)] 39, rowOf drE ra2 rc2 27 5 ((parF s).l), box b1 [iv ((parF (textD l)).pl), iv ((parF (textD l)).pc)] 39, rowOf drE ra1 rc1 27 5 ((parF (textD l)).l)] (by kernel_rfl) rfl (by kernel_rfl) (by kernel_rfl) rfl ?_
     intro w11 S11
     refine J.run 7 K6_21 [(65, .bool (((parF s).e) != 0)), (12, iv ((parF s).e)), (10, .slice ra2 (((parF s).l).length) rc2)] w11 (by kernel_rfl) ?_
     by_cases fk11 : ((parF s).e) = 0
     ·skip
      refine J.head (.bool false) (congrArg Value.bool (bne_eq_false_iff_eq.2 fk11)) ?_
      refine J.run 8 K6_22 [(73, .bool (((parF s).e) == 0)), (70, .bool false), (10, .slice ra2 (((parF s).l).length) rc2)] w11 (by kernel_rfl) ?_
      refine J.head (.bool true) (congrArg Value.bool (beq_iff_eq.2 fk11)) ?_
      refine J.run 1 K6_23 [(74, .slice ra2 (((parF s).l).length) rc2), (73, .bool true), (70, .bool false)] w11 (by kernel_rfl) ?_
      refine J.callF 75 9 #[.slice ra2 (((parF s).l).length) rc2] hb9 (by kernel_rfl) (valid_any ra2 (((parF s).l).length) rc2 ((parF s).l) _ ((rowOf_recs (S11.nth 1 rfl) _ rfl (fun _ => rfl) (by decide)))) ?_
      rintro _ w12 ⟨rfl, T8⟩
      have S12 : Sep w [box b2 [iv ((parF s).pl), iv ((parF s).pc)] 39, rowOf drE ra2 rc2 27 5 ((parF s).l), box b1 [iv ((parF (textD l)).pl), iv ((parF (textD l)).pc)] 39, rowOf drE ra1 rc1 27 5 ((parF (textD l)).l)] w12 := S11.trans T8
      clear T8 S11
      refine J.run 4 K6_24 [(4, .bool (validD ((parF s).l)))] w12 (by kernel_rfl) ?_
      refine J.ret Tryd.f6 [.bool (validD ((parF s).l))] Tryd.func6 ⟨by kernel_rfl, trivial⟩ ?_
      refine hR _ _ ?_
      have fk13 : (validD ((parF s).l)) = true := ((parF_good s).1 fk11)
      exact ⟨congrArg Value.bool fk13, S12.nil⟩
     ·skip
      refine J.head (.bool true) (congrArg Value.bool (bne_iff_ne.2 fk11)) ?_
      refine J.run 5 K6_25 [(70, .bool ((((parF s).l).length : Int) == 0)), (12, iv ((parF s).e)), (10, .slice ra2 (((parF s).l).length) rc2)] w11 (by kernel_rfl) ?_
      have fk15 : (((parF s).l).length : Int) = 0 := (by rw [(parF_good s).2 fk11]; rfl)
      refine J.head (.bool true) (congrArg Value.bool (beq_iff_eq.2 fk15)) ?_
      refine J.run 9 K6_26 [(4, .bool true)] w11 (by kernel_rfl) ?_
      refine J.ret Tryd.f6 [.bool true] Tryd.func6 ⟨by kernel_rfl, trivial⟩ ?_
      refine hR _ _ ?_
      exact ⟨rfl, S11.nil⟩
    ·skip
     refine J.head (.bool false) (congrArg Value.bool (decide_eq_false fk4)) ?_
     refine J.run 5 K6_27 [(58, .string s)] w4 (by kernel_rfl) ?_
     refine J.callF 59 18 #[.string s] hb18 (by kernel_rfl) (parse_any s _ (by omega) (tabW_sep hW S4)) ?_
     rintro _ w13 ⟨ra3, rc3, rfl, T9⟩
     have S13 : Sep w [rowOf drE ra3 rc3 27 5 ((parF s).l)] w13 := S4.trans T9
     clear T9 S4
     refine J.run 4 K6_28 [(62, iv ((parF s).e)), (61, .agg #[iv ((parF s).pl), iv ((parF s).pc)]), (60, .slice ra3 (((parF s).l).length) rc3)] w13 (by kernel_rfl) ?_
     refine J.new S13 11 [iv 0, iv 0] 39 (by kernel_rfl) ?_
     intro b3 w14 S14
     refine J.run 1 K6_29 [(10, .slice ra3 (((parF s).l).length) rc3), (11, .pointer (some ⟨b3, 0, none⟩)), (62, iv ((parF s).e)), (61, .agg #[iv ((parF s).pl), iv ((parF s).pc)])] w14 (by kernel_rfl) ?_
     refine J.stBox S14 0 39 0 (.agg #[iv ((parF s).pl), iv ((parF s).pc)]) [iv ((parF s).pl), iv ((parF s).pc)] [box b3 [iv ((parF s).pl), iv ((parF s).pc)] 39, rowOf drE ra3 rc3 27 5 ((parF s).l)] (by kernel_rfl) rfl (by kernel_rfl) (by kernel_rfl) rfl ?_
     intro w15 S15
     refine J.run 7 K6_30 [(65, .bool (((parF s).e) != 0)), (12, iv ((parF s).e)), (10, .slice ra3 (((parF s).l).length) rc3)] w15 (by kernel_rfl) ?_
     by_cases fk16 : ((parF s).e) = 0
     ·skip
      refine J.head (.bool false) (congrArg Value.bool (bne_eq_false_iff_eq.2 fk16)) ?_
      refine J.run 8 K6_31 [(73, .bool (((parF s).e) == 0)), (70, .bool false), (10, .slice ra3 (((parF s).l).length) rc3)] w15 (by kernel_rfl) ?_
      refine J.head (.bool true) (congrArg Value.bool (beq_iff_eq.2 fk16)) ?_
      refine J.run 1 K6_32 [(74, .slice ra3 (((parF s).l).length) rc3), (73, .bool true), (70, .bool false)] w15 (by kernel_rfl) ?_
      refine J.callF 75 9 #[.slice ra3 (((parF s).l).length) rc3] hb9 (by kernel_rfl) (valid_any ra3 (((parF s).l).length) rc3 ((parF s).l) _ ((rowOf_recs (S15.nth 1 rfl) _ rfl (fun _ => rfl) (by decide)))) ?_
      rintro _ w16 ⟨rfl, T10⟩
      have S16 : Sep w [box b3 [iv ((parF s).pl), iv ((parF s).pc)] 39, rowOf drE ra3 rc3 27 5 ((parF s).l)] w16 := S15.trans T10
      clear T10 S15
      refine J.run 4 K6_33 [(4, .bool (validD ((parF s).l)))] w16 (by kernel_rfl) ?_
      refine J.ret Tryd.f6 [.bool (validD ((parF s).l))] Tryd.func6 ⟨by kernel_rfl, trivial⟩ ?_
      refine hR _ _ ?_
      have fk18 : (validD ((parF s).l)) = true := ((parF_good s).1 fk16)
      exact ⟨congrArg Value.bool fk18, S16.nil⟩
     ·skip
      refine J.head (.bool true) (congrArg Value.bool (bne_iff_ne.2 fk16)) ?_
      refine J.run 5 K6_34 [(70, .bool ((((parF s).l).length : Int) == 0)), (12, iv ((parF s).e)), (10, .slice ra3 (((parF s).l).length) rc3)] w15 (by kernel_rfl) ?_
      have fk20 : (((parF s).l).length : Int) = 0 := (by rw [(parF_good s).2 fk16]; rfl)
      refine J.head (.bool true) (congrArg Value.bool (beq_iff_eq.2 fk20)) ?_
      refine J.run 9 K6_35 [(4, .bool true)] w15 (by kernel_rfl) ?_
      refine J.ret Tryd.f6 [.bool true] Tryd.func6 ⟨by kernel_rfl, trivial⟩ ?_
      refine hR _ _ ?_
      exact ⟨rfl, S15.nil⟩
   ·skip
    refine J.head (.bool false) (congrArg Value.bool (beq_eq_false_iff_ne.2 fk3)) ?_
    refine J.run 10 K6_36 [(58, .string s)] w4 (by kernel_rfl) ?_
    refine J.callF 59 18 #[.string s] hb18 (by kernel_rfl) (parse_any s _ (by omega) (tabW_sep hW S4)) ?_
    rintro _ w17 ⟨ra4, rc4, rfl, T11⟩
    have S17 : Sep w [rowOf drE ra4 rc4 27 5 ((parF s).l)] w17 := S4.trans T11
    clear T11 S4
    refine J.run 4 K6_37 [(62, iv ((parF s).e)), (61, .agg #[iv ((parF s).pl), iv ((parF s).pc)]), (60, .slice ra4 (((parF s).l).length) rc4)] w17 (by kernel_rfl) ?_
    refine J.new S17 11 [iv 0, iv 0] 39 (by kernel_rfl) ?_
    intro b4 w18 S18
    refine J.run 1 K6_38 [(10, .slice ra4 (((parF s).l).length) rc4), (11, .pointer (some ⟨b4, 0, none⟩)), (62, iv ((parF s).e)), (61, .agg #[iv ((parF s).pl), iv ((parF s).pc)])] w18 (by kernel_rfl) ?_
    refine J.stBox S18 0 39 0 (.agg #[iv ((parF s).pl), iv ((parF s).pc)]) [iv ((parF s).pl), iv ((parF s).pc)] [box b4 [iv ((parF s).pl), iv ((parF s).pc)] 39, rowOf drE ra4 rc4 27 5 ((parF s).l)] (by kernel_rfl) rfl (by kernel_rfl) (by kernel_rfl) rfl ?_
    intro w19 S19
    refine J.run 7 K6_39 [(65, .bool (((parF s).e) != 0)), (12, iv ((parF s).e)), (10, .slice ra4 (((parF s).l).length) rc4)] w19 (by kernel_rfl) ?_
    by_cases fk21 : ((parF s).e) = 0
    ·skip
     refine J.head (.bool false) (congrArg Value.bool (bne_eq_false_iff_eq.2 fk21)) ?_
     refine J.run 8 K6_40 [(73, .bool (((parF s).e) == 0)), (70, .bool false), (10, .slice ra4 (((parF s).l).length) rc4)] w19 (by kernel_rfl) ?_
     refine J.head (.bool true) (congrArg Value.bool (beq_iff_eq.2 fk21)) ?_
     refine J.run 1 K6_41 [(74, .slice ra4 (((parF s).l).length) rc4), (73, .bool true), (70, .bool false)] w19 (by kernel_rfl) ?_
     refine J.callF 75 9 #[.slice ra4 (((parF s).l).length) rc4] hb9 (by kernel_rfl) (valid_any ra4 (((parF s).l).length) rc4 ((parF s).l) _ ((rowOf_recs (S19.nth 1 rfl) _ rfl (fun _ => rfl) (by decide)))) ?_
     rintro _ w20 ⟨rfl, T12⟩
     have S20 : Sep w [box b4 [iv ((parF s).pl), iv ((parF s).pc)] 39, rowOf drE ra4 rc4 27 5 ((parF s).l)] w20 := S19.trans T12
     clear T12 S19
     refine J.run 4 K6_42 [(4, .bool (validD ((parF s).l)))] w20 (by kernel_rfl) ?_
     refine J.ret Tryd.f6 [.bool (validD ((parF s).l))] Tryd.func6 ⟨by kernel_rfl, trivial⟩ ?_
     refine hR _ _ ?_
     have fk23 : (validD ((parF s).l)) = true := ((parF_good s).1 fk21)
     exact ⟨congrArg Value.bool fk23, S20.nil⟩
    ·skip
     refine J.head (.bool true) (congrArg Value.bool (bne_iff_ne.2 fk21)) ?_
     refine J.run 5 K6_43 [(70, .bool ((((parF s).l).length : Int) == 0)), (12, iv ((parF s).e)), (10, .slice ra4 (((parF s).l).length) rc4)] w19 (by kernel_rfl) ?_
     have fk25 : (((parF s).l).length : Int) = 0 := (by rw [(parF_good s).2 fk21]; rfl)
     refine J.head (.bool true) (congrArg Value.bool (beq_iff_eq.2 fk25)) ?_
     refine J.run 9 K6_44 [(4, .bool true)] w19 (by kernel_rfl) ?_
     refine J.ret Tryd.f6 [.bool true] Tryd.func6 ⟨by kernel_rfl, trivial⟩ ?_
     refine hR _ _ ?_
     exact ⟨rfl, S19.nil⟩

end Go.Proofs.YthhdaackhfffiaaDoor

