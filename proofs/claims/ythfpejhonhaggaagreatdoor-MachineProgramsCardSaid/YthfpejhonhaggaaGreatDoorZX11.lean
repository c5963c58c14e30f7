/- Walks of functions of this seat, printed by a program over the engine. Conditions: as each theorem says. -/
import Derived.Test.YthfpejhonhaggaaGreatDoorZX10
namespace Go.Proofs.YthfpejhonhaggaaGreatDoor
open Go.Eng Go.RowKit
set_option linter.unusedSimpArgs false
set_option linter.unusedVariables false
theorem hb73 : HasBody Tryz.prog 73 := fun _ _ => by kernel_rfl
noncomputable def K73_0 : List Item := adv 2 [] (bodyOf Tryz.f73)
noncomputable def K73_1 : List Item := adv 6 [] (popK (popK (popK (popK K73_0))))
noncomputable def K73_2 : List Item := adv 8 [] (popK K73_1)
noncomputable def K73_3 : List Item := adv 6 [true, true] K73_2
noncomputable def K73_4 : List Item := adv 1 [] (popK K73_3)
noncomputable def K73_5 : List Item := adv 1 [] (popK (popK K73_4))
noncomputable def K73_6 : List Item := adv 1 [] K73_5
noncomputable def K73_7 : List Item := adv 1 [] (popK K73_6)
noncomputable def K73_8 : List Item := adv 3 [] (popK (popK K73_7))
noncomputable def K73_9 : List Item := adv 8 [] K73_5
noncomputable def K73_10 : List Item := adv 5 [false] K73_2
noncomputable def K73_11 : List Item := adv 4 [true] K73_10
noncomputable def K73_12 : List Item := adv 1 [] (popK K73_11)
noncomputable def K73_13 : List Item := adv 1 [] (popK (popK K73_12))
noncomputable def K73_14 : List Item := adv 1 [] K73_13
noncomputable def K73_15 : List Item := adv 1 [] (popK K73_14)
noncomputable def K73_16 : List Item := adv 3 [] (popK (popK K73_15))
noncomputable def K73_17 : List Item := adv 8 [] K73_13
noncomputable def K73_18 : List Item := adv 6 [false] K73_10
noncomputable def K73_19 : List Item := adv 4 [true] K73_18
noncomputable def K73_20 : List Item := adv 1 [] (popK K73_19)
noncomputable def K73_21 : List Item := adv 3 [] (popK (popK K73_20))
noncomputable def K73_22 : List Item := adv 7 [] (popK (popK K73_21))
noncomputable def K73_23 : List Item := adv 1 [] (popK K73_22)
noncomputable def K73_24 : List Item := adv 3 [] (popK (popK K73_23))
noncomputable def K73_25 : List Item := adv 7 [] K73_22
noncomputable def K73_26 : List Item := adv 6 [false] K73_18
noncomputable def K73_27 : List Item := adv 4 [true] K73_26
noncomputable def K73_28 : List Item := adv 1 [] (popK K73_27)
noncomputable def K73_29 : List Item := adv 3 [] (popK (popK K73_28))
noncomputable def K73_30 : List Item := adv 7 [] (popK (popK K73_29))
noncomputable def K73_31 : List Item := adv 1 [] (popK K73_30)
noncomputable def K73_32 : List Item := adv 3 [] (popK (popK K73_31))
noncomputable def K73_33 : List Item := adv 7 [] K73_30
noncomputable def K73_34 : List Item := adv 7 [false] K73_26
noncomputable def K73_35 : List Item := adv 6 [true, true] K73_34
noncomputable def K73_36 : List Item := adv 1 [] (popK K73_35)
noncomputable def K73_37 : List Item := adv 2 [] (popK (popK K73_36))
noncomputable def K73_38 : List Item := adv 5 [false] K73_34
noncomputable def K73_39 : List Item := adv 4 [true] K73_38
noncomputable def K73_40 : List Item := adv 1 [] (popK K73_39)
noncomputable def K73_41 : List Item := adv 2 [] (popK (popK K73_40))
noncomputable def K73_42 : List Item := adv 6 [false] K73_38
noncomputable def K73_43 : List Item := adv 1 [] (popK K73_42)
noncomputable def K73_44 : List Item := adv 2 [] (popK (popK K73_43))
set_option maxRecDepth 20000 in
set_option maxHeartbeats 20000000 in
theorem units_any (i : Ins) (a b t : Fxd) (w : World) (hi : insQ w i) (ha : fxdQ w a) (hb : fxdQ w b) (ht : fxdQ w t) : Ret Tryz.prog 73 #[.agg (insA i), .agg (fxdA a), .agg (fxdA b), .agg (fxdA t)] w (fun v w' => v = .bool (unitsB i.gOp (unitT a) (unitT b) (unitT t)) ∧ Sep w [] w') := by
 have S0 := Sep.refl w
 refine Ret.named fun R hR => ?_
 refine Ret.of_J (N := 79) [(0, .agg (insA i)), (1, .agg (fxdA a)), (2, .agg (fxdA b)), (3, .agg (fxdA t))] Tryz.func73 rfl rfl (Nat.le_of_ble_eq_true (by kernel_rfl)) (by kernel_rfl) ?_
 obtain ⟨q1, q2, q3, q4, q5, _⟩ := id hi
 obtain ⟨q6, q7, q8, q9, q10, q11, q12, q13, q14, _⟩ := id ha
 obtain ⟨q15, q16, q17, q18, q19, q20, q21, q22, q23, _⟩ := id hb
 obtain ⟨q24, q25, q26, q27, q28, q29, q30, q31, q32, _⟩ := id ht
 refine J.run 2 K73_0 [(0, .agg (insA i)), (1, .agg (fxdA a)), (2, .agg (fxdA b)), (3, .agg (fxdA t))] w (by kernel_rfl) ?_
 refine J.new S0 4 (insC i) 44 (by kernel_rfl) ?_
 intro b1 w1 S1
 refine J.new S1 5 (fxdC a) 62 (by kernel_rfl) ?_
 intro b2 w2 S2
 refine J.new S2 6 (fxdC b) 62 (by kernel_rfl) ?_
 intro b3 w3 S3
 refine J.new S3 7 (fxdC t) 62 (by kernel_rfl) ?_
 intro b4 w4 S4
 refine J.run 6 K73_1 [(13, pv b1), (7, pv b4), (6, pv b3), (5, pv b2)] w4 (by kernel_rfl) ?_
 refine J.ok (OK.ldBox S4 3 14 3 0 (iv i.gOp) (by kernel_rfl) rfl (by kernel_rfl)) ?_
 refine J.run 8 K73_2 [(15, .bool (i.gOp == 5)), (14, iv i.gOp), (7, pv b4), (6, pv b3), (5, pv b2)] w4 (by kernel_rfl) ?_
 by_cases fk1 : i.gOp = 5
 ·skip
  refine J.head (.bool true) (congrArg Value.bool (beq_iff_eq.2 fk1)) ?_
  refine J.run 6 K73_3 [(18, .pointer (some ⟨b2, 5, none⟩)), (7, pv b4), (6, pv b3), (5, pv b2)] w4 (by kernel_rfl) ?_
  refine J.ok (OK.ldBox S4 2 19 60 5 (.agg #[iv a.gUnit_M, iv a.gUnit_Kg, iv a.gUnit_S, iv a.gUnit_A, iv a.gUnit_K]) (by kernel_rfl) rfl (by kernel_rfl)) ?_
  refine J.run 1 K73_4 [(20, .pointer (some ⟨b3, 5, none⟩)), (19, .agg #[iv a.gUnit_M, iv a.gUnit_Kg, iv a.gUnit_S, iv a.gUnit_A, iv a.gUnit_K]), (7, pv b4), (5, pv b2)] w4 (by kernel_rfl) ?_
  refine J.ok (OK.ldBox S4 1 21 60 5 (.agg #[iv b.gUnit_M, iv b.gUnit_Kg, iv b.gUnit_S, iv b.gUnit_A, iv b.gUnit_K]) (by kernel_rfl) rfl (by kernel_rfl)) ?_
  refine J.ok (OK.eqS 22 true 60 #[iv a.gUnit_M, iv a.gUnit_Kg, iv a.gUnit_S, iv a.gUnit_A, iv a.gUnit_K] #[iv b.gUnit_M, iv b.gUnit_Kg, iv b.gUnit_S, iv b.gUnit_A, iv b.gUnit_K] ((a.gUnit_M == b.gUnit_M) && ((a.gUnit_Kg == b.gUnit_Kg) && ((a.gUnit_S == b.gUnit_S) && ((a.gUnit_A == b.gUnit_A) && ((a.gUnit_K == b.gUnit_K) && true))))) (by kernel_rfl) (by kernel_rfl) (by kernel_rfl) ((a.gUnit_M == b.gUnit_M) && ((a.gUnit_Kg == b.gUnit_Kg) && ((a.gUnit_S == b.gUnit_S) && ((a.gUnit_A == b.gUnit_A) && (a.gUnit_K == b.gUnit_K))))) (by simp)) ?_
  refine J.run 1 K73_5 [(23, .bool ((a.gUnit_M == b.gUnit_M) && ((a.gUnit_Kg == b.gUnit_Kg) && ((a.gUnit_S == b.gUnit_S) && ((a.gUnit_A == b.gUnit_A) && (a.gUnit_K == b.gUnit_K)))))), (7, pv b4), (5, pv b2)] w4 (by kernel_rfl) ?_
  rcases Bool.eq_false_or_eq_true ((a.gUnit_M == b.gUnit_M) && ((a.gUnit_Kg == b.gUnit_Kg) && ((a.gUnit_S == b.gUnit_S) && ((a.gUnit_A == b.gUnit_A) && (a.gUnit_K == b.gUnit_K))))) with fk2 | fk2
  ·skip
   refine J.head (.bool true) (congrArg Value.bool fk2) ?_
   refine J.run 1 K73_6 [(24, .pointer (some ⟨b2, 5, none⟩)), (23, .bool true), (7, pv b4)] w4 (by kernel_rfl) ?_
   refine J.ok (OK.ldBox S4 2 25 60 5 (.agg #[iv a.gUnit_M, iv a.gUnit_Kg, iv a.gUnit_S, iv a.gUnit_A, iv a.gUnit_K]) (by kernel_rfl) rfl (by kernel_rfl)) ?_
   refine J.run 1 K73_7 [(26, .pointer (some ⟨b4, 5, none⟩)), (25, .agg #[iv a.gUnit_M, iv a.gUnit_Kg, iv a.gUnit_S, iv a.gUnit_A, iv a.gUnit_K]), (23, .bool true)] w4 (by kernel_rfl) ?_
   refine J.ok (OK.ldBox S4 0 27 60 5 (.agg #[iv t.gUnit_M, iv t.gUnit_Kg, iv t.gUnit_S, iv t.gUnit_A, iv t.gUnit_K]) (by kernel_rfl) rfl (by kernel_rfl)) ?_
   refine J.ok (OK.eqS 28 true 60 #[iv a.gUnit_M, iv a.gUnit_Kg, iv a.gUnit_S, iv a.gUnit_A, iv a.gUnit_K] #[iv t.gUnit_M, iv t.gUnit_Kg, iv t.gUnit_S, iv t.gUnit_A, iv t.gUnit_K] ((a.gUnit_M == t.gUnit_M) && ((a.gUnit_Kg == t.gUnit_Kg) && ((a.gUnit_S == t.gUnit_S) && ((a.gUnit_A == t.gUnit_A) && ((a.gUnit_K == t.gUnit_K) && true))))) (by kernel_rfl) (by kernel_rfl) (by kernel_rfl) ((a.gUnit_M == t.gUnit_M) && ((a.gUnit_Kg == t.gUnit_Kg) && ((a.gUnit_S == t.gUnit_S) && ((a.gUnit_A == t.gUnit_A) && (a.gUnit_K == t.gUnit_K))))) (by simp)) ?_
   refine J.run 3 K73_8 [(8, .bool ((a.gUnit_M == t.gUnit_M) && ((a.gUnit_Kg == t.gUnit_Kg) && ((a.gUnit_S == t.gUnit_S) && ((a.gUnit_A == t.gUnit_A) && (a.gUnit_K == t.gUnit_K))))))] w4 (by kernel_rfl) ?_
   refine J.ret Tryz.f73 [.bool ((a.gUnit_M == t.gUnit_M) && ((a.gUnit_Kg == t.gUnit_Kg) && ((a.gUnit_S == t.gUnit_S) && ((a.gUnit_A == t.gUnit_A) && (a.gUnit_K == t.gUnit_K)))))] Tryz.func73 ⟨by kernel_rfl, trivial⟩ ?_
   refine hR _ _ ?_
   have e1 : (unEq (unitT a) (unitT b)) = true := fk2
   exact ⟨congrArg Value.bool (by unfold unitsB; (repeat first | rw [if_pos (by omega)] | rw [if_neg (by omega)]); rw [e1]; rw [Bool.true_and]; rfl), S4.nil⟩
  ·skip
   refine J.head (.bool false) (congrArg Value.bool fk2) ?_
   refine J.run 8 K73_9 [(8, .bool false)] w4 (by kernel_rfl) ?_
   refine J.ret Tryz.f73 [.bool false] Tryz.func73 ⟨by kernel_rfl, trivial⟩ ?_
   refine hR _ _ ?_
   have e1 : (unEq (unitT a) (unitT b)) = false := fk2
   exact ⟨congrArg Value.bool (by unfold unitsB; (repeat first | rw [if_pos (by omega)] | rw [if_neg (by omega)]); rw [e1]; rfl), S4.nil⟩
 ·skip
  refine J.head (.bool false) (congrArg Value.bool (beq_eq_false_iff_ne.2 fk1)) ?_
  refine J.run 5 K73_10 [(15, .bool (i.gOp == 6)), (14, iv i.gOp), (7, pv b4), (6, pv b3), (5, pv b2)] w4 (by kernel_rfl) ?_
  by_cases fk3 : i.gOp = 6
  ·skip
   refine J.head (.bool true) (congrArg Value.bool (beq_iff_eq.2 fk3)) ?_
   refine J.run 4 K73_11 [(18, .pointer (some ⟨b2, 5, none⟩)), (7, pv b4), (6, pv b3), (5, pv b2)] w4 (by kernel_rfl) ?_
   refine J.ok (OK.ldBox S4 2 19 60 5 (.agg #[iv a.gUnit_M, iv a.gUnit_Kg, iv a.gUnit_S, iv a.gUnit_A, iv a.gUnit_K]) (by kernel_rfl) rfl (by kernel_rfl)) ?_
   refine J.run 1 K73_12 [(20, .pointer (some ⟨b3, 5, none⟩)), (19, .agg #[iv a.gUnit_M, iv a.gUnit_Kg, iv a.gUnit_S, iv a.gUnit_A, iv a.gUnit_K]), (7, pv b4), (5, pv b2)] w4 (by kernel_rfl) ?_
   refine J.ok (OK.ldBox S4 1 21 60 5 (.agg #[iv b.gUnit_M, iv b.gUnit_Kg, iv b.gUnit_S, iv b.gUnit_A, iv b.gUnit_K]) (by kernel_rfl) rfl (by kernel_rfl)) ?_
   refine J.ok (OK.eqS 22 true 60 #[iv a.gUnit_M, iv a.gUnit_Kg, iv a.gUnit_S, iv a.gUnit_A, iv a.gUnit_K] #[iv b.gUnit_M, iv b.gUnit_Kg, iv b.gUnit_S, iv b.gUnit_A, iv b.gUnit_K] ((a.gUnit_M == b.gUnit_M) && ((a.gUnit_Kg == b.gUnit_Kg) && ((a.gUnit_S == b.gUnit_S) && ((a.gUnit_A == b.gUnit_A) && ((a.gUnit_K == b.gUnit_K) && true))))) (by kernel_rfl) (by kernel_rfl) (by kernel_rfl) ((a.gUnit_M == b.gUnit_M) && ((a.gUnit_Kg == b.gUnit_Kg) && ((a.gUnit_S == b.gUnit_S) && ((a.gUnit_A == b.gUnit_A) && (a.gUnit_K == b.gUnit_K))))) (by simp)) ?_
   refine J.run 1 K73_13 [(23, .bool ((a.gUnit_M == b.gUnit_M) && ((a.gUnit_Kg == b.gUnit_Kg) && ((a.gUnit_S == b.gUnit_S) && ((a.gUnit_A == b.gUnit_A) && (a.gUnit_K == b.gUnit_K)))))), (7, pv b4), (5, pv b2)] w4 (by kernel_rfl) ?_
   rcases Bool.eq_false_or_eq_true ((a.gUnit_M == b.gUnit_M) && ((a.gUnit_Kg == b.gUnit_Kg) && ((a.gUnit_S == b.gUnit_S) && ((a.gUnit_A == b.gUnit_A) && (a.gUnit_K == b.gUnit_K))))) with fk4 | fk4
   ·skip
    refine J.head (.bool true) (congrArg Value.bool fk4) ?_
    refine J.run 1 K73_14 [(24, .pointer (some ⟨b2, 5, none⟩)), (23, .bool true), (7, pv b4)] w4 (by kernel_rfl) ?_
    refine J.ok (OK.ldBox S4 2 25 60 5 (.agg #[iv a.gUnit_M, iv a.gUnit_Kg, iv a.gUnit_S, iv a.gUnit_A, iv a.gUnit_K]) (by kernel_rfl) rfl (by kernel_rfl)) ?_
    refine J.run 1 K73_15 [(26, .pointer (some ⟨b4, 5, none⟩)), (25, .agg #[iv a.gUnit_M, iv a.gUnit_Kg, iv a.gUnit_S, iv a.gUnit_A, iv a.gUnit_K]), (23, .bool true)] w4 (by kernel_rfl) ?_
    refine J.ok (OK.ldBox S4 0 27 60 5 (.agg #[iv t.gUnit_M, iv t.gUnit_Kg, iv t.gUnit_S, iv t.gUnit_A, iv t.gUnit_K]) (by kernel_rfl) rfl (by kernel_rfl)) ?_
    refine J.ok (OK.eqS 28 true 60 #[iv a.gUnit_M, iv a.gUnit_Kg, iv a.gUnit_S, iv a.gUnit_A, iv a.gUnit_K] #[iv t.gUnit_M, iv t.gUnit_Kg, iv t.gUnit_S, iv t.gUnit_A, iv t.gUnit_K] ((a.gUnit_M == t.gUnit_M) && ((a.gUnit_Kg == t.gUnit_Kg) && ((a.gUnit_S == t.gUnit_S) && ((a.gUnit_A == t.gUnit_A) && ((a.gUnit_K == t.gUnit_K) && true))))) (by kernel_rfl) (by kernel_rfl) (by kernel_rfl) ((a.gUnit_M == t.gUnit_M) && ((a.gUnit_Kg == t.gUnit_Kg) && ((a.gUnit_S == t.gUnit_S) && ((a.gUnit_A == t.gUnit_A) && (a.gUnit_K == t.gUnit_K))))) (by simp)) ?_
    refine J.run 3 K73_16 [(8, .bool ((a.gUnit_M == t.gUnit_M) && ((a.gUnit_Kg == t.gUnit_Kg) && ((a.gUnit_S == t.gUnit_S) && ((a.gUnit_A == t.gUnit_A) && (a.gUnit_K == t.gUnit_K))))))] w4 (by kernel_rfl) ?_
    refine J.ret Tryz.f73 [.bool ((a.gUnit_M == t.gUnit_M) && ((a.gUnit_Kg == t.gUnit_Kg) && ((a.gUnit_S == t.gUnit_S) && ((a.gUnit_A == t.gUnit_A) && (a.gUnit_K == t.gUnit_K)))))] Tryz.func73 ⟨by kernel_rfl, trivial⟩ ?_
    refine hR _ _ ?_
    have e1 : (unEq (unitT a) (unitT b)) = true := fk4
    exact ⟨congrArg Value.bool (by unfold unitsB; (repeat first | rw [if_pos (by omega)] | rw [if_neg (by omega)]); rw [e1]; rw [Bool.true_and]; rfl), S4.nil⟩
   ·skip
    refine J.head (.bool false) (congrArg Value.bool fk4) ?_
    refine J.run 8 K73_17 [(8, .bool false)] w4 (by kernel_rfl) ?_
    refine J.ret Tryz.f73 [.bool false] Tryz.func73 ⟨by kernel_rfl, trivial⟩ ?_
    refine hR _ _ ?_
    have e1 : (unEq (unitT a) (unitT b)) = false := fk4
    exact ⟨congrArg Value.bool (by unfold unitsB; (repeat first | rw [if_pos (by omega)] | rw [if_neg (by omega)]); rw [e1]; rfl), S4.nil⟩
  ·skip
   refine J.head (.bool false) (congrArg Value.bool (beq_eq_false_iff_ne.2 fk3)) ?_
   refine J.run 6 K73_18 [(30, .bool (i.gOp == 7)), (14, iv i.gOp), (7, pv b4), (6, pv b3), (5, pv b2)] w4 (by kernel_rfl) ?_
   by_cases fk5 : i.gOp = 7
   ·skip
    refine J.head (.bool true) (congrArg Value.bool (beq_iff_eq.2 fk5)) ?_
    refine J.run 4 K73_19 [(33, .pointer (some ⟨b2, 5, none⟩)), (7, pv b4), (6, pv b3)] w4 (by kernel_rfl) ?_
    refine J.ok (OK.ldBox S4 2 34 60 5 (.agg #[iv a.gUnit_M, iv a.gUnit_Kg, iv a.gUnit_S, iv a.gUnit_A, iv a.gUnit_K]) (by kernel_rfl) rfl (by kernel_rfl)) ?_
    refine J.run 1 K73_20 [(35, .pointer (some ⟨b3, 5, none⟩)), (34, .agg #[iv a.gUnit_M, iv a.gUnit_Kg, iv a.gUnit_S, iv a.gUnit_A, iv a.gUnit_K]), (7, pv b4)] w4 (by kernel_rfl) ?_
    refine J.ok (OK.ldBox S4 1 36 60 5 (.agg #[iv b.gUnit_M, iv b.gUnit_Kg, iv b.gUnit_S, iv b.gUnit_A, iv b.gUnit_K]) (by kernel_rfl) rfl (by kernel_rfl)) ?_
    refine J.callF 37 89 #[.agg #[iv a.gUnit_M, iv a.gUnit_Kg, iv a.gUnit_S, iv a.gUnit_A, iv a.gUnit_K], .agg #[iv b.gUnit_M, iv b.gUnit_Kg, iv b.gUnit_S, iv b.gUnit_A, iv b.gUnit_K]] hb89 (by kernel_rfl) (umul_any (⟨a.gUnit_M, a.gUnit_Kg, a.gUnit_S, a.gUnit_A, a.gUnit_K⟩ : Unt) (⟨b.gUnit_M, b.gUnit_Kg, b.gUnit_S, b.gUnit_A, b.gUnit_K⟩ : Unt) _) ?_
    rintro _ w5 ⟨rfl, T1⟩
    have S5 : Sep w [box b4 (fxdC t) 62, box b3 (fxdC b) 62, box b2 (fxdC a) 62, box b1 (insC i) 44] w5 := S4.trans T1
    clear T1 S4
    refine J.run 3 K73_21 [(39, iv (unE (⟨a.gUnit_M, a.gUnit_Kg, a.gUnit_S, a.gUnit_A, a.gUnit_K⟩ : Unt) (⟨b.gUnit_M, b.gUnit_Kg, b.gUnit_S, b.gUnit_A, b.gUnit_K⟩ : Unt) 1)), (38, .agg (untA (unX (⟨a.gUnit_M, a.gUnit_Kg, a.gUnit_S, a.gUnit_A, a.gUnit_K⟩ : Unt) (⟨b.gUnit_M, b.gUnit_Kg, b.gUnit_S, b.gUnit_A, b.gUnit_K⟩ : Unt) 1))), (7, pv b4)] w5 (by kernel_rfl) ?_
    refine J.new S5 9 [iv 0, iv 0, iv 0, iv 0, iv 0] 60 (by kernel_rfl) ?_
    intro b5 w6 S6
    refine J.stBox S6 0 60 0 (.agg (untA (unX (⟨a.gUnit_M, a.gUnit_Kg, a.gUnit_S, a.gUnit_A, a.gUnit_K⟩ : Unt) (⟨b.gUnit_M, b.gUnit_Kg, b.gUnit_S, b.gUnit_A, b.gUnit_K⟩ : Unt) 1))) (untC (unX (⟨a.gUnit_M, a.gUnit_Kg, a.gUnit_S, a.gUnit_A, a.gUnit_K⟩ : Unt) (⟨b.gUnit_M, b.gUnit_Kg, b.gUnit_S, b.gUnit_A, b.gUnit_K⟩ : Unt) 1)) [box b5 (untC (unX (⟨a.gUnit_M, a.gUnit_Kg, a.gUnit_S, a.gUnit_A, a.gUnit_K⟩ : Unt) (⟨b.gUnit_M, b.gUnit_Kg, b.gUnit_S, b.gUnit_A, b.gUnit_K⟩ : Unt) 1)) 60, box b4 (fxdC t) 62, box b3 (fxdC b) 62, box b2 (fxdC a) 62, box b1 (insC i) 44] (by kernel_rfl) rfl (by kernel_rfl) (by kernel_rfl) rfl ?_
    intro w7 S7
    refine J.run 7 K73_22 [(42, .bool ((unE (⟨a.gUnit_M, a.gUnit_Kg, a.gUnit_S, a.gUnit_A, a.gUnit_K⟩ : Unt) (⟨b.gUnit_M, b.gUnit_Kg, b.gUnit_S, b.gUnit_A, b.gUnit_K⟩ : Unt) 1) == 0)), (9, pv b5), (7, pv b4)] w7 (by kernel_rfl) ?_
    by_cases fk6 : (unE (⟨a.gUnit_M, a.gUnit_Kg, a.gUnit_S, a.gUnit_A, a.gUnit_K⟩ : Unt) (⟨b.gUnit_M, b.gUnit_Kg, b.gUnit_S, b.gUnit_A, b.gUnit_K⟩ : Unt) 1) = 0
    ·skip
     refine J.head (.bool true) (congrArg Value.bool (beq_iff_eq.2 fk6)) ?_
     refine J.ok (OK.ldBox S7 0 43 60 0 (.agg (untA (unX (⟨a.gUnit_M, a.gUnit_Kg, a.gUnit_S, a.gUnit_A, a.gUnit_K⟩ : Unt) (⟨b.gUnit_M, b.gUnit_Kg, b.gUnit_S, b.gUnit_A, b.gUnit_K⟩ : Unt) 1))) (by kernel_rfl) rfl (by kernel_rfl)) ?_
     refine J.run 1 K73_23 [(44, .pointer (some ⟨b4, 5, none⟩)), (43, .agg (untA (unX (⟨a.gUnit_M, a.gUnit_Kg, a.gUnit_S, a.gUnit_A, a.gUnit_K⟩ : Unt) (⟨b.gUnit_M, b.gUnit_Kg, b.gUnit_S, b.gUnit_A, b.gUnit_K⟩ : Unt) 1))), (42, .bool true)] w7 (by kernel_rfl) ?_
     refine J.ok (OK.ldBox S7 1 45 60 5 (.agg #[iv t.gUnit_M, iv t.gUnit_Kg, iv t.gUnit_S, iv t.gUnit_A, iv t.gUnit_K]) (by kernel_rfl) rfl (by kernel_rfl)) ?_
     refine J.ok (OK.eqS 46 true 60 (untA (unX (⟨a.gUnit_M, a.gUnit_Kg, a.gUnit_S, a.gUnit_A, a.gUnit_K⟩ : Unt) (⟨b.gUnit_M, b.gUnit_Kg, b.gUnit_S, b.gUnit_A, b.gUnit_K⟩ : Unt) 1)) #[iv t.gUnit_M, iv t.gUnit_Kg, iv t.gUnit_S, iv t.gUnit_A, iv t.gUnit_K] ((((unX (⟨a.gUnit_M, a.gUnit_Kg, a.gUnit_S, a.gUnit_A, a.gUnit_K⟩ : Unt) (⟨b.gUnit_M, b.gUnit_Kg, b.gUnit_S, b.gUnit_A, b.gUnit_K⟩ : Unt) 1).gM) == t.gUnit_M) && ((((unX (⟨a.gUnit_M, a.gUnit_Kg, a.gUnit_S, a.gUnit_A, a.gUnit_K⟩ : Unt) (⟨b.gUnit_M, b.gUnit_Kg, b.gUnit_S, b.gUnit_A, b.gUnit_K⟩ : Unt) 1).gKg) == t.gUnit_Kg) && ((((unX (⟨a.gUnit_M, a.gUnit_Kg, a.gUnit_S, a.gUnit_A, a.gUnit_K⟩ : Unt) (⟨b.gUnit_M, b.gUnit_Kg, b.gUnit_S, b.gUnit_A, b.gUnit_K⟩ : Unt) 1).gS) == t.gUnit_S) && ((((unX (⟨a.gUnit_M, a.gUnit_Kg, a.gUnit_S, a.gUnit_A, a.gUnit_K⟩ : Unt) (⟨b.gUnit_M, b.gUnit_Kg, b.gUnit_S, b.gUnit_A, b.gUnit_K⟩ : Unt) 1).gA) == t.gUnit_A) && ((((unX (⟨a.gUnit_M, a.gUnit_Kg, a.gUnit_S, a.gUnit_A, a.gUnit_K⟩ : Unt) (⟨b.gUnit_M, b.gUnit_Kg, b.gUnit_S, b.gUnit_A, b.gUnit_K⟩ : Unt) 1).gK) == t.gUnit_K) && true))))) (by kernel_rfl) (by kernel_rfl) (by kernel_rfl) ((((unX (⟨a.gUnit_M, a.gUnit_Kg, a.gUnit_S, a.gUnit_A, a.gUnit_K⟩ : Unt) (⟨b.gUnit_M, b.gUnit_Kg, b.gUnit_S, b.gUnit_A, b.gUnit_K⟩ : Unt) 1).gM) == t.gUnit_M) && ((((unX (⟨a.gUnit_M, a.gUnit_Kg, a.gUnit_S, a.gUnit_A, a.gUnit_K⟩ : Unt) (⟨b.gUnit_M, b.gUnit_Kg, b.gUnit_S, b.gUnit_A, b.gUnit_K⟩ : Unt) 1).gKg) == t.gUnit_Kg) && ((((unX (⟨a.gUnit_M, a.gUnit_Kg, a.gUnit_S, a.gUnit_A, a.gUnit_K⟩ : Unt) (⟨b.gUnit_M, b.gUnit_Kg, b.gUnit_S, b.gUnit_A, b.gUnit_K⟩ : Unt) 1).gS) == t.gUnit_S) && ((((unX (⟨a.gUnit_M, a.gUnit_Kg, a.gUnit_S, a.gUnit_A, a.gUnit_K⟩ : Unt) (⟨b.gUnit_M, b.gUnit_Kg, b.gUnit_S, b.gUnit_A, b.gUnit_K⟩ : Unt) 1).gA) == t.gUnit_A) && (((unX (⟨a.gUnit_M, a.gUnit_Kg, a.gUnit_S, a.gUnit_A, a.gUnit_K⟩ : Unt) (⟨b.gUnit_M, b.gUnit_Kg, b.gUnit_S, b.gUnit_A, b.gUnit_K⟩ : Unt) 1).gK) == t.gUnit_K))))) (by simp)) ?_
     refine J.run 3 K73_24 [(8, .bool ((((unX (⟨a.gUnit_M, a.gUnit_Kg, a.gUnit_S, a.gUnit_A, a.gUnit_K⟩ : Unt) (⟨b.gUnit_M, b.gUnit_Kg, b.gUnit_S, b.gUnit_A, b.gUnit_K⟩ : Unt) 1).gM) == t.gUnit_M) && ((((unX (⟨a.gUnit_M, a.gUnit_Kg, a.gUnit_S, a.gUnit_A, a.gUnit_K⟩ : Unt) (⟨b.gUnit_M, b.gUnit_Kg, b.gUnit_S, b.gUnit_A, b.gUnit_K⟩ : Unt) 1).gKg) == t.gUnit_Kg) && ((((unX (⟨a.gUnit_M, a.gUnit_Kg, a.gUnit_S, a.gUnit_A, a.gUnit_K⟩ : Unt) (⟨b.gUnit_M, b.gUnit_Kg, b.gUnit_S, b.gUnit_A, b.gUnit_K⟩ : Unt) 1).gS) == t.gUnit_S) && ((((unX (⟨a.gUnit_M, a.gUnit_Kg, a.gUnit_S, a.gUnit_A, a.gUnit_K⟩ : Unt) (⟨b.gUnit_M, b.gUnit_Kg, b.gUnit_S, b.gUnit_A, b.gUnit_K⟩ : Unt) 1).gA) == t.gUnit_A) && (((unX (⟨a.gUnit_M, a.gUnit_Kg, a.gUnit_S, a.gUnit_A, a.gUnit_K⟩ : Unt) (⟨b.gUnit_M, b.gUnit_Kg, b.gUnit_S, b.gUnit_A, b.gUnit_K⟩ : Unt) 1).gK) == t.gUnit_K))))))] w7 (by kernel_rfl) ?_
     refine J.ret Tryz.f73 [.bool ((((unX (⟨a.gUnit_M, a.gUnit_Kg, a.gUnit_S, a.gUnit_A, a.gUnit_K⟩ : Unt) (⟨b.gUnit_M, b.gUnit_Kg, b.gUnit_S, b.gUnit_A, b.gUnit_K⟩ : Unt) 1).gM) == t.gUnit_M) && ((((unX (⟨a.gUnit_M, a.gUnit_Kg, a.gUnit_S, a.gUnit_A, a.gUnit_K⟩ : Unt) (⟨b.gUnit_M, b.gUnit_Kg, b.gUnit_S, b.gUnit_A, b.gUnit_K⟩ : Unt) 1).gKg) == t.gUnit_Kg) && ((((unX (⟨a.gUnit_M, a.gUnit_Kg, a.gUnit_S, a.gUnit_A, a.gUnit_K⟩ : Unt) (⟨b.gUnit_M, b.gUnit_Kg, b.gUnit_S, b.gUnit_A, b.gUnit_K⟩ : Unt) 1).gS) == t.gUnit_S) && ((((unX (⟨a.gUnit_M, a.gUnit_Kg, a.gUnit_S, a.gUnit_A, a.gUnit_K⟩ : Unt) (⟨b.gUnit_M, b.gUnit_Kg, b.gUnit_S, b.gUnit_A, b.gUnit_K⟩ : Unt) 1).gA) == t.gUnit_A) && (((unX (⟨a.gUnit_M, a.gUnit_Kg, a.gUnit_S, a.gUnit_A, a.gUnit_K⟩ : Unt) (⟨b.gUnit_M, b.gUnit_Kg, b.gUnit_S, b.gUnit_A, b.gUnit_K⟩ : Unt) 1).gK) == t.gUnit_K)))))] Tryz.func73 ⟨by kernel_rfl, trivial⟩ ?_
     refine hR _ _ ?_
     have e1 : ((unE (unitT a) (unitT b) 1 == 0)) = true := (beq_iff_eq.2 fk6)
     exact ⟨congrArg Value.bool (by unfold unitsB; (repeat first | rw [if_pos (by omega)] | rw [if_neg (by omega)]); rw [e1]; rw [Bool.true_and]; rfl), S7.nil⟩
    ·skip
     refine J.head (.bool false) (congrArg Value.bool (beq_eq_false_iff_ne.2 fk6)) ?_
     refine J.run 7 K73_25 [(8, .bool false)] w7 (by kernel_rfl) ?_
     refine J.ret Tryz.f73 [.bool false] Tryz.func73 ⟨by kernel_rfl, trivial⟩ ?_
     refine hR _ _ ?_
     have e1 : ((unE (unitT a) (unitT b) 1 == 0)) = false := (beq_eq_false_iff_ne.2 fk6)
     exact ⟨congrArg Value.bool (by unfold unitsB; (repeat first | rw [if_pos (by omega)] | rw [if_neg (by omega)]); rw [e1]; rfl), S7.nil⟩
   ·skip
    refine J.head (.bool false) (congrArg Value.bool (beq_eq_false_iff_ne.2 fk5)) ?_
    refine J.run 6 K73_26 [(48, .bool (i.gOp == 8)), (14, iv i.gOp), (7, pv b4), (6, pv b3), (5, pv b2)] w4 (by kernel_rfl) ?_
    by_cases fk7 : i.gOp = 8
    ·skip
     refine J.head (.bool true) (congrArg Value.bool (beq_iff_eq.2 fk7)) ?_
     refine J.run 4 K73_27 [(51, .pointer (some ⟨b2, 5, none⟩)), (7, pv b4), (6, pv b3)] w4 (by kernel_rfl) ?_
     refine J.ok (OK.ldBox S4 2 52 60 5 (.agg #[iv a.gUnit_M, iv a.gUnit_Kg, iv a.gUnit_S, iv a.gUnit_A, iv a.gUnit_K]) (by kernel_rfl) rfl (by kernel_rfl)) ?_
     refine J.run 1 K73_28 [(53, .pointer (some ⟨b3, 5, none⟩)), (52, .agg #[iv a.gUnit_M, iv a.gUnit_Kg, iv a.gUnit_S, iv a.gUnit_A, iv a.gUnit_K]), (7, pv b4)] w4 (by kernel_rfl) ?_
     refine J.ok (OK.ldBox S4 1 54 60 5 (.agg #[iv b.gUnit_M, iv b.gUnit_Kg, iv b.gUnit_S, iv b.gUnit_A, iv b.gUnit_K]) (by kernel_rfl) rfl (by kernel_rfl)) ?_
     refine J.callF 55 90 #[.agg #[iv a.gUnit_M, iv a.gUnit_Kg, iv a.gUnit_S, iv a.gUnit_A, iv a.gUnit_K], .agg #[iv b.gUnit_M, iv b.gUnit_Kg, iv b.gUnit_S, iv b.gUnit_A, iv b.gUnit_K]] hb90 (by kernel_rfl) (udiv_any (⟨a.gUnit_M, a.gUnit_Kg, a.gUnit_S, a.gUnit_A, a.gUnit_K⟩ : Unt) (⟨b.gUnit_M, b.gUnit_Kg, b.gUnit_S, b.gUnit_A, b.gUnit_K⟩ : Unt) _) ?_
     rintro _ w8 ⟨rfl, T2⟩
     have S8 : Sep w [box b4 (fxdC t) 62, box b3 (fxdC b) 62, box b2 (fxdC a) 62, box b1 (insC i) 44] w8 := S4.trans T2
     clear T2 S4
     refine J.run 3 K73_29 [(57, iv (unE (⟨a.gUnit_M, a.gUnit_Kg, a.gUnit_S, a.gUnit_A, a.gUnit_K⟩ : Unt) (⟨b.gUnit_M, b.gUnit_Kg, b.gUnit_S, b.gUnit_A, b.gUnit_K⟩ : Unt) (-1))), (56, .agg (untA (unX (⟨a.gUnit_M, a.gUnit_Kg, a.gUnit_S, a.gUnit_A, a.gUnit_K⟩ : Unt) (⟨b.gUnit_M, b.gUnit_Kg, b.gUnit_S, b.gUnit_A, b.gUnit_K⟩ : Unt) (-1)))), (7, pv b4)] w8 (by kernel_rfl) ?_
     refine J.new S8 11 [iv 0, iv 0, iv 0, iv 0, iv 0] 60 (by kernel_rfl) ?_
     intro b6 w9 S9
     refine J.stBox S9 0 60 0 (.agg (untA (unX (⟨a.gUnit_M, a.gUnit_Kg, a.gUnit_S, a.gUnit_A, a.gUnit_K⟩ : Unt) (⟨b.gUnit_M, b.gUnit_Kg, b.gUnit_S, b.gUnit_A, b.gUnit_K⟩ : Unt) (-1)))) (untC (unX (⟨a.gUnit_M, a.gUnit_Kg, a.gUnit_S, a.gUnit_A, a.gUnit_K⟩ : Unt) (⟨b.gUnit_M, b.gUnit_Kg, b.gUnit_S, b.gUnit_A, b.gUnit_K⟩ : Unt) (-1))) [box b6 (untC (unX (⟨a.gUnit_M, a.gUnit_Kg, a.gUnit_S, a.gUnit_A, a.gUnit_K⟩ : Unt) (⟨b.gUnit_M, b.gUnit_Kg, b.gUnit_S, b.gUnit_A, b.gUnit_K⟩ : Unt) (-1))) 60, box b4 (fxdC t) 62, box b3 (fxdC b) 62, box b2 (fxdC a) 62, box b1 (insC i) 44] (by kernel_rfl) rfl (by kernel_rfl) (by kernel_rfl) rfl ?_
     intro w10 S10
     refine J.run 7 K73_30 [(60, .bool ((unE (⟨a.gUnit_M, a.gUnit_Kg, a.gUnit_S, a.gUnit_A, a.gUnit_K⟩ : Unt) (⟨b.gUnit_M, b.gUnit_Kg, b.gUnit_S, b.gUnit_A, b.gUnit_K⟩ : Unt) (-1)) == 0)), (11, pv b6), (7, pv b4)] w10 (by kernel_rfl) ?_
     by_cases fk8 : (unE (⟨a.gUnit_M, a.gUnit_Kg, a.gUnit_S, a.gUnit_A, a.gUnit_K⟩ : Unt) (⟨b.gUnit_M, b.gUnit_Kg, b.gUnit_S, b.gUnit_A, b.gUnit_K⟩ : Unt) (-1)) = 0
     ·skip
      refine J.head (.bool true) (congrArg Value.bool (beq_iff_eq.2 fk8)) ?_
      refine J.ok (OK.ldBox S10 0 61 60 0 (.agg (untA (unX (⟨a.gUnit_M, a.gUnit_Kg, a.gUnit_S, a.gUnit_A, a.gUnit_K⟩ : Unt) (⟨b.gUnit_M, b.gUnit_Kg, b.gUnit_S, b.gUnit_A, b.gUnit_K⟩ : Unt) (-1)))) (by kernel_rfl) rfl (by kernel_rfl)) ?_
      refine J.run 1 K73_31 [(62, .pointer (some ⟨b4, 5, none⟩)), (61, .agg (untA (unX (⟨a.gUnit_M, a.gUnit_Kg, a.gUnit_S, a.gUnit_A, a.gUnit_K⟩ : Unt) (⟨b.gUnit_M, b.gUnit_Kg, b.gUnit_S, b.gUnit_A, b.gUnit_K⟩ : Unt) (-1)))), (60, .bool true)] w10 (by kernel_rfl) ?_
      refine J.ok (OK.ldBox S10 1 63 60 5 (.agg #[iv t.gUnit_M, iv t.gUnit_Kg, iv t.gUnit_S, iv t.gUnit_A, iv t.gUnit_K]) (by kernel_rfl) rfl (by kernel_rfl)) ?_
      refine J.ok (OK.eqS 64 true 60 (untA (unX (⟨a.gUnit_M, a.gUnit_Kg, a.gUnit_S, a.gUnit_A, a.gUnit_K⟩ : Unt) (⟨b.gUnit_M, b.gUnit_Kg, b.gUnit_S, b.gUnit_A, b.gUnit_K⟩ : Unt) (-1))) #[iv t.gUnit_M, iv t.gUnit_Kg, iv t.gUnit_S, iv t.gUnit_A, iv t.gUnit_K] ((((unX (⟨a.gUnit_M, a.gUnit_Kg, a.gUnit_S, a.gUnit_A, a.gUnit_K⟩ : Unt) (⟨b.gUnit_M, b.gUnit_Kg, b.gUnit_S, b.gUnit_A, b.gUnit_K⟩ : Unt) (-1)).gM) == t.gUnit_M) && ((((unX (⟨a.gUnit_M, a.gUnit_Kg, a.gUnit_S, a.gUnit_A, a.gUnit_K⟩ : Unt) (⟨b.gUnit_M, b.gUnit_Kg, b.gUnit_S, b.gUnit_A, b.gUnit_K⟩ : Unt) (-1)).gKg) == t.gUnit_Kg) && ((((unX (⟨a.gUnit_M, a.gUnit_Kg, a.gUnit_S, a.gUnit_A, a.gUnit_K⟩ : Unt) (⟨b.gUnit_M, b.gUnit_Kg, b.gUnit_S, b.gUnit_A, b.gUnit_K⟩ : Unt) (-1)).gS) == t.gUnit_S) && ((((unX (⟨a.gUnit_M, a.gUnit_Kg, a.gUnit_S, a.gUnit_A, a.gUnit_K⟩ : Unt) (⟨b.gUnit_M, b.gUnit_Kg, b.gUnit_S, b.gUnit_A, b.gUnit_K⟩ : Unt) (-1)).gA) == t.gUnit_A) && ((((unX (⟨a.gUnit_M, a.gUnit_Kg, a.gUnit_S, a.gUnit_A, a.gUnit_K⟩ : Unt) (⟨b.gUnit_M, b.gUnit_Kg, b.gUnit_S, b.gUnit_A, b.gUnit_K⟩ : Unt) (-1)).gK) == t.gUnit_K) && true))))) (by kernel_rfl) (by kernel_rfl) (by kernel_rfl) ((((unX (⟨a.gUnit_M, a.gUnit_Kg, a.gUnit_S, a.gUnit_A, a.gUnit_K⟩ : Unt) (⟨b.gUnit_M, b.gUnit_Kg, b.gUnit_S, b.gUnit_A, b.gUnit_K⟩ : Unt) (-1)).gM) == t.gUnit_M) && ((((unX (⟨a.gUnit_M, a.gUnit_Kg, a.gUnit_S, a.gUnit_A, a.gUnit_K⟩ : Unt) (⟨b.gUnit_M, b.gUnit_Kg, b.gUnit_S, b.gUnit_A, b.gUnit_K⟩ : Unt) (-1)).gKg) == t.gUnit_Kg) && ((((unX (⟨a.gUnit_M, a.gUnit_Kg, a.gUnit_S, a.gUnit_A, a.gUnit_K⟩ : Unt) (⟨b.gUnit_M, b.gUnit_Kg, b.gUnit_S, b.gUnit_A, b.gUnit_K⟩ : Unt) (-1)).gS) == t.gUnit_S) && ((((unX (⟨a.gUnit_M, a.gUnit_Kg, a.gUnit_S, a.gUnit_A, a.gUnit_K⟩ : Unt) (⟨b.gUnit_M, b.gUnit_Kg, b.gUnit_S, b.gUnit_A, b.gUnit_K⟩ : Unt) (-1)).gA) == t.gUnit_A) && (((unX (⟨a.gUnit_M, a.gUnit_Kg, a.gUnit_S, a.gUnit_A, a.gUnit_K⟩ : Unt) (⟨b.gUnit_M, b.gUnit_Kg, b.gUnit_S, b.gUnit_A, b.gUnit_K⟩ : Unt) (-1)).gK) == t.gUnit_K))))) (by simp)) ?_
      refine J.run 3 K73_32 [(8, .bool ((((unX (⟨a.gUnit_M, a.gUnit_Kg, a.gUnit_S, a.gUnit_A, a.gUnit_K⟩ : Unt) (⟨b.gUnit_M, b.gUnit_Kg, b.gUnit_S, b.gUnit_A, b.gUnit_K⟩ : Unt) (-1)).gM) == t.gUnit_M) && ((((unX (⟨a.gUnit_M, a.gUnit_Kg, a.gUnit_S, a.gUnit_A, a.gUnit_K⟩ : Unt) (⟨b.gUnit_M, b.gUnit_Kg, b.gUnit_S, b.gUnit_A, b.gUnit_K⟩ : Unt) (-1)).gKg) == t.gUnit_Kg) && ((((unX (⟨a.gUnit_M, a.gUnit_Kg, a.gUnit_S, a.gUnit_A, a.gUnit_K⟩ : Unt) (⟨b.gUnit_M, b.gUnit_Kg, b.gUnit_S, b.gUnit_A, b.gUnit_K⟩ : Unt) (-1)).gS) == t.gUnit_S) && ((((unX (⟨a.gUnit_M, a.gUnit_Kg, a.gUnit_S, a.gUnit_A, a.gUnit_K⟩ : Unt) (⟨b.gUnit_M, b.gUnit_Kg, b.gUnit_S, b.gUnit_A, b.gUnit_K⟩ : Unt) (-1)).gA) == t.gUnit_A) && (((unX (⟨a.gUnit_M, a.gUnit_Kg, a.gUnit_S, a.gUnit_A, a.gUnit_K⟩ : Unt) (⟨b.gUnit_M, b.gUnit_Kg, b.gUnit_S, b.gUnit_A, b.gUnit_K⟩ : Unt) (-1)).gK) == t.gUnit_K))))))] w10 (by kernel_rfl) ?_
      refine J.ret Tryz.f73 [.bool ((((unX (⟨a.gUnit_M, a.gUnit_Kg, a.gUnit_S, a.gUnit_A, a.gUnit_K⟩ : Unt) (⟨b.gUnit_M, b.gUnit_Kg, b.gUnit_S, b.gUnit_A, b.gUnit_K⟩ : Unt) (-1)).gM) == t.gUnit_M) && ((((unX (⟨a.gUnit_M, a.gUnit_Kg, a.gUnit_S, a.gUnit_A, a.gUnit_K⟩ : Unt) (⟨b.gUnit_M, b.gUnit_Kg, b.gUnit_S, b.gUnit_A, b.gUnit_K⟩ : Unt) (-1)).gKg) == t.gUnit_Kg) && ((((unX (⟨a.gUnit_M, a.gUnit_Kg, a.gUnit_S, a.gUnit_A, a.gUnit_K⟩ : Unt) (⟨b.gUnit_M, b.gUnit_Kg, b.gUnit_S, b.gUnit_A, b.gUnit_K⟩ : Unt) (-1)).gS) == t.gUnit_S) && ((((unX (⟨a.gUnit_M, a.gUnit_Kg, a.gUnit_S, a.gUnit_A, a.gUnit_K⟩ : Unt) (⟨b.gUnit_M, b.gUnit_Kg, b.gUnit_S, b.gUnit_A, b.gUnit_K⟩ : Unt) (-1)).gA) == t.gUnit_A) && (((unX (⟨a.gUnit_M, a.gUnit_Kg, a.gUnit_S, a.gUnit_A, a.gUnit_K⟩ : Unt) (⟨b.gUnit_M, b.gUnit_Kg, b.gUnit_S, b.gUnit_A, b.gUnit_K⟩ : Unt) (-1)).gK) == t.gUnit_K)))))] Tryz.func73 ⟨by kernel_rfl, trivial⟩ ?_
      refine hR _ _ ?_
      have e1 : ((unE (unitT a) (unitT b) (-1) == 0)) = true := (beq_iff_eq.2 fk8)
      exact ⟨congrArg Value.bool (by unfold unitsB; (repeat first | rw [if_pos (by omega)] | rw [if_neg (by omega)]); rw [e1]; rw [Bool.true_and]; rfl), S10.nil⟩
     ·skip
      refine J.head (.bool false) (congrArg Value.bool (beq_eq_false_iff_ne.2 fk8)) ?_
      refine J.run 7 K73_33 [(8, .bool false)] w10 (by kernel_rfl) ?_
      refine J.ret Tryz.f73 [.bool false] Tryz.func73 ⟨by kernel_rfl, trivial⟩ ?_
      refine hR _ _ ?_
      have e1 : ((unE (unitT a) (unitT b) (-1) == 0)) = false := (beq_eq_false_iff_ne.2 fk8)
      exact ⟨congrArg Value.bool (by unfold unitsB; (repeat first | rw [if_pos (by omega)] | rw [if_neg (by omega)]); rw [e1]; rfl), S10.nil⟩
    ·skip
     refine J.head (.bool false) (congrArg Value.bool (beq_eq_false_iff_ne.2 fk7)) ?_
     refine J.run 7 K73_34 [(66, .bool (i.gOp == 9)), (14, iv i.gOp), (7, pv b4), (6, pv b3), (5, pv b2)] w4 (by kernel_rfl) ?_
     by_cases fk9 : i.gOp = 9
     ·skip
      refine J.head (.bool true) (congrArg Value.bool (beq_iff_eq.2 fk9)) ?_
      refine J.run 6 K73_35 [(69, .pointer (some ⟨b2, 5, none⟩)), (7, pv b4)] w4 (by kernel_rfl) ?_
      refine J.ok (OK.ldBox S4 2 70 60 5 (.agg #[iv a.gUnit_M, iv a.gUnit_Kg, iv a.gUnit_S, iv a.gUnit_A, iv a.gUnit_K]) (by kernel_rfl) rfl (by kernel_rfl)) ?_
      refine J.run 1 K73_36 [(71, .pointer (some ⟨b4, 5, none⟩)), (70, .agg #[iv a.gUnit_M, iv a.gUnit_Kg, iv a.gUnit_S, iv a.gUnit_A, iv a.gUnit_K])] w4 (by kernel_rfl) ?_
      refine J.ok (OK.ldBox S4 0 72 60 5 (.agg #[iv t.gUnit_M, iv t.gUnit_Kg, iv t.gUnit_S, iv t.gUnit_A, iv t.gUnit_K]) (by kernel_rfl) rfl (by kernel_rfl)) ?_
      refine J.ok (OK.eqS 73 true 60 #[iv a.gUnit_M, iv a.gUnit_Kg, iv a.gUnit_S, iv a.gUnit_A, iv a.gUnit_K] #[iv t.gUnit_M, iv t.gUnit_Kg, iv t.gUnit_S, iv t.gUnit_A, iv t.gUnit_K] ((a.gUnit_M == t.gUnit_M) && ((a.gUnit_Kg == t.gUnit_Kg) && ((a.gUnit_S == t.gUnit_S) && ((a.gUnit_A == t.gUnit_A) && ((a.gUnit_K == t.gUnit_K) && true))))) (by kernel_rfl) (by kernel_rfl) (by kernel_rfl) ((a.gUnit_M == t.gUnit_M) && ((a.gUnit_Kg == t.gUnit_Kg) && ((a.gUnit_S == t.gUnit_S) && ((a.gUnit_A == t.gUnit_A) && (a.gUnit_K == t.gUnit_K))))) (by simp)) ?_
      refine J.run 2 K73_37 [(8, .bool ((a.gUnit_M == t.gUnit_M) && ((a.gUnit_Kg == t.gUnit_Kg) && ((a.gUnit_S == t.gUnit_S) && ((a.gUnit_A == t.gUnit_A) && (a.gUnit_K == t.gUnit_K))))))] w4 (by kernel_rfl) ?_
      refine J.ret Tryz.f73 [.bool ((a.gUnit_M == t.gUnit_M) && ((a.gUnit_Kg == t.gUnit_Kg) && ((a.gUnit_S == t.gUnit_S) && ((a.gUnit_A == t.gUnit_A) && (a.gUnit_K == t.gUnit_K)))))] Tryz.func73 ⟨by kernel_rfl, trivial⟩ ?_
      refine hR _ _ ?_
      exact ⟨congrArg Value.bool (by unfold unitsB; (repeat first | rw [if_pos (by omega)] | rw [if_neg (by omega)]); rfl), S4.nil⟩
     ·skip
      refine J.head (.bool false) (congrArg Value.bool (beq_eq_false_iff_ne.2 fk9)) ?_
      refine J.run 5 K73_38 [(66, .bool (i.gOp == 10)), (7, pv b4), (6, pv b3), (5, pv b2)] w4 (by kernel_rfl) ?_
      by_cases fk10 : i.gOp = 10
      ·skip
       refine J.head (.bool true) (congrArg Value.bool (beq_iff_eq.2 fk10)) ?_
       refine J.run 4 K73_39 [(69, .pointer (some ⟨b2, 5, none⟩)), (7, pv b4)] w4 (by kernel_rfl) ?_
       refine J.ok (OK.ldBox S4 2 70 60 5 (.agg #[iv a.gUnit_M, iv a.gUnit_Kg, iv a.gUnit_S, iv a.gUnit_A, iv a.gUnit_K]) (by kernel_rfl) rfl (by kernel_rfl)) ?_
       refine J.run 1 K73_40 [(71, .pointer (some ⟨b4, 5, none⟩)), (70, .agg #[iv a.gUnit_M, iv a.gUnit_Kg, iv a.gUnit_S, iv a.gUnit_A, iv a.gUnit_K])] w4 (by kernel_rfl) ?_
       refine J.ok (OK.ldBox S4 0 72 60 5 (.agg #[iv t.gUnit_M, iv t.gUnit_Kg, iv t.gUnit_S, iv t.gUnit_A, iv t.gUnit_K]) (by kernel_rfl) rfl (by kernel_rfl)) ?_
       refine J.ok (OK.eqS 73 true 60 #[iv a.gUnit_M, iv a.gUnit_Kg, iv a.gUnit_S, iv a.gUnit_A, iv a.gUnit_K] #[iv t.gUnit_M, iv t.gUnit_Kg, iv t.gUnit_S, iv t.gUnit_A, iv t.gUnit_K] ((a.gUnit_M == t.gUnit_M) && ((a.gUnit_Kg == t.gUnit_Kg) && ((a.gUnit_S == t.gUnit_S) && ((a.gUnit_A == t.gUnit_A) && ((a.gUnit_K == t.gUnit_K) && true))))) (by kernel_rfl) (by kernel_rfl) (by kernel_rfl) ((a.gUnit_M == t.gUnit_M) && ((a.gUnit_Kg == t.gUnit_Kg) && ((a.gUnit_S == t.gUnit_S) && ((a.gUnit_A == t.gUnit_A) && (a.gUnit_K == t.gUnit_K))))) (by simp)) ?_
       refine J.run 2 K73_41 [(8, .bool ((a.gUnit_M == t.gUnit_M) && ((a.gUnit_Kg == t.gUnit_Kg) && ((a.gUnit_S == t.gUnit_S) && ((a.gUnit_A == t.gUnit_A) && (a.gUnit_K == t.gUnit_K))))))] w4 (by kernel_rfl) ?_
       refine J.ret Tryz.f73 [.bool ((a.gUnit_M == t.gUnit_M) && ((a.gUnit_Kg == t.gUnit_Kg) && ((a.gUnit_S == t.gUnit_S) && ((a.gUnit_A == t.gUnit_A) && (a.gUnit_K == t.gUnit_K)))))] Tryz.func73 ⟨by kernel_rfl, trivial⟩ ?_
       refine hR _ _ ?_
       exact ⟨congrArg Value.bool (by unfold unitsB; (repeat first | rw [if_pos (by omega)] | rw [if_neg (by omega)]); rfl), S4.nil⟩
      ·skip
       refine J.head (.bool false) (congrArg Value.bool (beq_eq_false_iff_ne.2 fk10)) ?_
       refine J.run 6 K73_42 [(74, .pointer (some ⟨b2, 5, none⟩)), (6, pv b3)] w4 (by kernel_rfl) ?_
       refine J.ok (OK.ldBox S4 2 75 60 5 (.agg #[iv a.gUnit_M, iv a.gUnit_Kg, iv a.gUnit_S, iv a.gUnit_A, iv a.gUnit_K]) (by kernel_rfl) rfl (by kernel_rfl)) ?_
       refine J.run 1 K73_43 [(76, .pointer (some ⟨b3, 5, none⟩)), (75, .agg #[iv a.gUnit_M, iv a.gUnit_Kg, iv a.gUnit_S, iv a.gUnit_A, iv a.gUnit_K])] w4 (by kernel_rfl) ?_
       refine J.ok (OK.ldBox S4 1 77 60 5 (.agg #[iv b.gUnit_M, iv b.gUnit_Kg, iv b.gUnit_S, iv b.gUnit_A, iv b.gUnit_K]) (by kernel_rfl) rfl (by kernel_rfl)) ?_
       refine J.ok (OK.eqS 78 true 60 #[iv a.gUnit_M, iv a.gUnit_Kg, iv a.gUnit_S, iv a.gUnit_A, iv a.gUnit_K] #[iv b.gUnit_M, iv b.gUnit_Kg, iv b.gUnit_S, iv b.gUnit_A, iv b.gUnit_K] ((a.gUnit_M == b.gUnit_M) && ((a.gUnit_Kg == b.gUnit_Kg) && ((a.gUnit_S == b.gUnit_S) && ((a.gUnit_A == b.gUnit_A) && ((a.gUnit_K == b.gUnit_K) && true))))) (by kernel_rfl) (by kernel_rfl) (by kernel_rfl) ((a.gUnit_M == b.gUnit_M) && ((a.gUnit_Kg == b.gUnit_Kg) && ((a.gUnit_S == b.gUnit_S) && ((a.gUnit_A == b.gUnit_A) && (a.gUnit_K == b.gUnit_K))))) (by simp)) ?_
       refine J.run 2 K73_44 [(8, .bool ((a.gUnit_M == b.gUnit_M) && ((a.gUnit_Kg == b.gUnit_Kg) && ((a.gUnit_S == b.gUnit_S) && ((a.gUnit_A == b.gUnit_A) && (a.gUnit_K == b.gUnit_K))))))] w4 (by kernel_rfl) ?_
       refine J.ret Tryz.f73 [.bool ((a.gUnit_M == b.gUnit_M) && ((a.gUnit_Kg == b.gUnit_Kg) && ((a.gUnit_S == b.gUnit_S) && ((a.gUnit_A == b.gUnit_A) && (a.gUnit_K == b.gUnit_K)))))] Tryz.func73 ⟨by kernel_rfl, trivial⟩ ?_
       refine hR _ _ ?_
       exact ⟨congrArg Value.bool (by unfold unitsB; (repeat first | rw [if_pos (by omega)] | rw [if_neg (by omega)]); rfl), S4.nil⟩

theorem hb37 : HasBody Tryz.prog 37 := fun _ _ => by kernel_rfl
noncomputable def K37_0 : List Item := adv 2 [] (bodyOf Tryz.f37)
noncomputable def K37_1 : List Item := adv 6 [] (popK (popK K37_0))
noncomputable def K37_2 : List Item := adv 3 [] (popK (popK K37_1))
noncomputable def K37_3 : List Item := adv 4 [false] K37_2
noncomputable def K37_4 : List Item := adv 2 [] (popK K37_3)
noncomputable def K37_5 : List Item := adv 10 [true] K37_4
noncomputable def K37_6 : List Item := adv 1 [] (popK K37_5)
noncomputable def K37_7 : List Item := adv 3 [] (popK K37_6)
noncomputable def K37_8 : List Item := adv 1 [] K37_4
noncomputable def K37_9 : List Item := adv 4 [] (popK K37_8)
noncomputable def K37_10 : List Item := adv 4 [true] K37_9
noncomputable def K37_11 : List Item := adv 1 [] (popK K37_10)
noncomputable def K37_12 : List Item := adv 3 [] (popK K37_11)
noncomputable def K37_13 : List Item := adv 4 [false] K37_9
noncomputable def K37_14 : List Item := adv 3 [] (popK K37_13)
noncomputable def K37_15 : List Item := adv 4 [true] K37_14
noncomputable def K37_16 : List Item := adv 1 [] (popK K37_15)
noncomputable def K37_17 : List Item := adv 4 [] (popK K37_16)
noncomputable def K37_18 : List Item := adv 4 [false] K37_14
noncomputable def K37_19 : List Item := adv 3 [] (popK K37_18)
noncomputable def K37_20 : List Item := adv 4 [true] K37_19
noncomputable def K37_21 : List Item := adv 1 [] (popK K37_20)
noncomputable def K37_22 : List Item := adv 4 [] (popK K37_21)
noncomputable def K37_23 : List Item := adv 4 [false] K37_19
noncomputable def K37_24 : List Item := adv 3 [] (popK K37_23)
noncomputable def K37_25 : List Item := adv 4 [true] K37_24
noncomputable def K37_26 : List Item := adv 1 [] (popK K37_25)
noncomputable def K37_27 : List Item := adv 1 [] K37_26
noncomputable def K37_28 : List Item := adv 1 [] K37_27
noncomputable def K37_29 : List Item := adv 3 [] (popK K37_28)
noncomputable def K37_30 : List Item := adv 4 [false] K37_24
noncomputable def K37_31 : List Item := adv 2 [] (popK (popK K37_30))
noncomputable def K37_32 : List Item := adv 3 [true] K37_31
noncomputable def K37_33 : List Item := adv 5 [] (popK (popK (popK K37_32)))
noncomputable def K37_34 : List Item := adv 6 [] (popK (popK (popK (popK (popK (popK K37_33))))))
noncomputable def K37_35 : List Item := adv 3 [] (popK (popK (popK (popK (popK K37_34)))))
noncomputable def K37_36 : List Item := adv 8 [] K37_34
noncomputable def K37_37 : List Item := adv 7 [false] K37_31
noncomputable def K37_38 : List Item := adv 5 [true] K37_2
set_option maxRecDepth 20000 in
set_option maxHeartbeats 20000000 in
theorem fits_any (p : Prg) (i : Ins) (w : World) (hp : prgQ w p) (hi : insQ w i) : Ret Tryz.prog 37 #[.agg (prgA p), .agg (insA i)] w (fun v w' => v = .bool (fitsI p i) ∧ Sep w [] w') := by
 have S0 := Sep.refl w
 refine Ret.named fun R hR => ?_
 refine Ret.of_J (N := 78) [(0, .agg (prgA p)), (1, .agg (insA i))] Tryz.func37 rfl rfl (Nat.le_of_ble_eq_true (by kernel_rfl)) (by kernel_rfl) ?_
 obtain ⟨q1, q2, q3, q4, q5, q6, q7, q8, q9, q10, q11, q12, q13, q14, q15, q16, q17, q18, q19, q20, q21, q22, q23, q24, q25, _⟩ := id hp
 have ql1 := q2.len_eq
 have ql2 := q5.len_eq
 have ql3 := q8.len_eq
 have ql4 := q11.len_eq
 have ql5 := q15.len_eq
 have ql6 := q18.len_eq
 have ql7 := q21.len_eq
 have ql8 := q24.len_eq
 obtain ⟨q26, q27, q28, q29, q30, _⟩ := id hi
 refine J.run 2 K37_0 [(0, .agg (prgA p)), (1, .agg (insA i))] w (by kernel_rfl) ?_
 refine J.new S0 2 (prgC p) 28 (by kernel_rfl) ?_
 intro b1 w1 S1
 refine J.new S1 3 (insC i) 44 (by kernel_rfl) ?_
 intro b2 w2 S2
 refine J.run 6 K37_1 [(3, pv b2), (2, pv b1)] w2 (by kernel_rfl) ?_
 refine J.ok (OK.ldBox S2 0 10 44 0 (.agg (insA i)) (by kernel_rfl) rfl (by kernel_rfl)) ?_
 refine J.callF 11 44 #[.agg (insA i)] hb44 (by kernel_rfl) (formed_any i _ (insQ_sep hi S2)) ?_
 rintro _ w3 ⟨rfl, T1⟩
 have S3 : Sep w [box b2 (insC i) 44, box b1 (prgC p) 28] w3 := S2.trans T1
 clear T1 S2
 refine J.run 3 K37_2 [(9, .bool (!(formB i))), (3, pv b2), (2, pv b1)] w3 (by kernel_rfl) ?_
 rcases Bool.eq_false_or_eq_true (formB i) with fk1 | fk1
 ·skip
  refine J.head (.bool false) (congrArg Value.bool (by rw [fk1]; rfl)) ?_
  have hfp := formB_iff.1 fk1
  refine J.run 4 K37_3 [(14, pv b2), (3, pv b2), (2, pv b1)] w3 (by kernel_rfl) ?_
  refine J.ok (OK.ldBox S3 0 15 3 0 (iv i.gOp) (by kernel_rfl) rfl (by kernel_rfl)) ?_
  refine J.run 2 K37_4 [(17, .bool (i.gOp == 2)), (3, pv b2), (2, pv b1)] w3 (by kernel_rfl) ?_
  by_cases fk2 : i.gOp = 2
  ·skip
   refine J.head (.bool true) (congrArg Value.bool (beq_iff_eq.2 fk2)) ?_
   refine J.run 10 K37_5 [(22, .pointer (some ⟨b2, 4, none⟩)), (2, pv b1)] w3 (by kernel_rfl) ?_
   refine J.ok (OK.ldBox S3 0 23 3 4 (iv i.gK) (by kernel_rfl) rfl (by kernel_rfl)) ?_
   refine J.run 1 K37_6 [(24, .pointer (some ⟨b1, 4, none⟩)), (23, iv i.gK)] w3 (by kernel_rfl) ?_
   refine J.ok (OK.ldBox S3 1 25 3 4 (iv p.gCells) (by kernel_rfl) rfl (by kernel_rfl)) ?_
   refine J.run 3 K37_7 [(4, .bool (decide (i.gK < p.gCells)))] w3 (by kernel_rfl) ?_
   refine J.ret Tryz.f37 [.bool (decide (i.gK < p.gCells))] Tryz.func37 ⟨by kernel_rfl, trivial⟩ ?_
   refine hR _ _ ?_
   exact ⟨congrArg Value.bool (by unfold fitsI; rw [fk1, Bool.true_and]; unfold namedB; (repeat first | rw [if_pos (by omega)] | rw [if_neg (by omega)]); all_goals first | rfl | exact (decide_eq_true (by omega)).symm | exact (decide_eq_false (by omega)).symm), S3.nil⟩
  ·skip
   refine J.head (.bool false) (congrArg Value.bool (beq_eq_false_iff_ne.2 fk2)) ?_
   refine J.run 1 K37_8 [(18, pv b2), (17, .bool false), (3, pv b2), (2, pv b1)] w3 (by kernel_rfl) ?_
   refine J.ok (OK.ldBox S3 0 19 3 0 (iv i.gOp) (by kernel_rfl) rfl (by kernel_rfl)) ?_
   refine J.run 4 K37_9 [(13, .bool (i.gOp == 3)), (3, pv b2), (2, pv b1)] w3 (by kernel_rfl) ?_
   by_cases fk3 : i.gOp = 3
   ·skip
    refine J.head (.bool true) (congrArg Value.bool (beq_iff_eq.2 fk3)) ?_
    refine J.run 4 K37_10 [(22, .pointer (some ⟨b2, 4, none⟩)), (2, pv b1)] w3 (by kernel_rfl) ?_
    refine J.ok (OK.ldBox S3 0 23 3 4 (iv i.gK) (by kernel_rfl) rfl (by kernel_rfl)) ?_
    refine J.run 1 K37_11 [(24, .pointer (some ⟨b1, 4, none⟩)), (23, iv i.gK)] w3 (by kernel_rfl) ?_
    refine J.ok (OK.ldBox S3 1 25 3 4 (iv p.gCells) (by kernel_rfl) rfl (by kernel_rfl)) ?_
    refine J.run 3 K37_12 [(4, .bool (decide (i.gK < p.gCells)))] w3 (by kernel_rfl) ?_
    refine J.ret Tryz.f37 [.bool (decide (i.gK < p.gCells))] Tryz.func37 ⟨by kernel_rfl, trivial⟩ ?_
    refine hR _ _ ?_
    exact ⟨congrArg Value.bool (by unfold fitsI; rw [fk1, Bool.true_and]; unfold namedB; (repeat first | rw [if_pos (by omega)] | rw [if_neg (by omega)]); all_goals first | rfl | exact (decide_eq_true (by omega)).symm | exact (decide_eq_false (by omega)).symm), S3.nil⟩
   ·skip
    refine J.head (.bool false) (congrArg Value.bool (beq_eq_false_iff_ne.2 fk3)) ?_
    refine J.run 4 K37_13 [(28, pv b2), (3, pv b2), (2, pv b1)] w3 (by kernel_rfl) ?_
    refine J.ok (OK.ldBox S3 0 29 3 0 (iv i.gOp) (by kernel_rfl) rfl (by kernel_rfl)) ?_
    refine J.run 3 K37_14 [(27, .bool (i.gOp == 20)), (3, pv b2), (2, pv b1)] w3 (by kernel_rfl) ?_
    by_cases fk4 : i.gOp = 20
    ·skip
     refine J.head (.bool true) (congrArg Value.bool (beq_iff_eq.2 fk4)) ?_
     refine J.run 4 K37_15 [(31, .pointer (some ⟨b2, 4, none⟩)), (2, pv b1)] w3 (by kernel_rfl) ?_
     refine J.ok (OK.ldBox S3 0 32 3 4 (iv i.gK) (by kernel_rfl) rfl (by kernel_rfl)) ?_
     refine J.run 1 K37_16 [(33, .pointer (some ⟨b1, 2, none⟩)), (32, iv i.gK)] w3 (by kernel_rfl) ?_
     refine J.ok (OK.ldBox S3 1 34 24 2 (.slice p.gCurves_a p.gCurves_n p.gCurves_c) (by kernel_rfl) rfl (by kernel_rfl)) ?_
     refine J.run 4 K37_17 [(4, .bool (decide (i.gK < (p.gCurves_n : Int))))] w3 (by kernel_rfl) ?_
     refine J.ret Tryz.f37 [.bool (decide (i.gK < (p.gCurves_n : Int)))] Tryz.func37 ⟨by kernel_rfl, trivial⟩ ?_
     refine hR _ _ ?_
     exact ⟨congrArg Value.bool (by unfold fitsI; rw [fk1, Bool.true_and]; unfold namedB; (repeat first | rw [if_pos (by omega)] | rw [if_neg (by omega)]); all_goals first | rfl | exact (decide_eq_true (by omega)).symm | exact (decide_eq_false (by omega)).symm), S3.nil⟩
    ·skip
     refine J.head (.bool false) (congrArg Value.bool (beq_eq_false_iff_ne.2 fk4)) ?_
     refine J.run 4 K37_18 [(38, pv b2), (3, pv b2), (2, pv b1)] w3 (by kernel_rfl) ?_
     refine J.ok (OK.ldBox S3 0 39 3 0 (iv i.gOp) (by kernel_rfl) rfl (by kernel_rfl)) ?_
     refine J.run 3 K37_19 [(37, .bool (i.gOp == 21)), (3, pv b2), (2, pv b1)] w3 (by kernel_rfl) ?_
     by_cases fk5 : i.gOp = 21
     ·skip
      refine J.head (.bool true) (congrArg Value.bool (beq_iff_eq.2 fk5)) ?_
      refine J.run 4 K37_20 [(41, .pointer (some ⟨b2, 4, none⟩)), (2, pv b1)] w3 (by kernel_rfl) ?_
      refine J.ok (OK.ldBox S3 0 42 3 4 (iv i.gK) (by kernel_rfl) rfl (by kernel_rfl)) ?_
      refine J.run 1 K37_21 [(43, .pointer (some ⟨b1, 3, none⟩)), (42, iv i.gK)] w3 (by kernel_rfl) ?_
      refine J.ok (OK.ldBox S3 1 44 25 3 (.slice p.gMaps_a p.gMaps_n p.gMaps_c) (by kernel_rfl) rfl (by kernel_rfl)) ?_
      refine J.run 4 K37_22 [(4, .bool (decide (i.gK < (p.gMaps_n : Int))))] w3 (by kernel_rfl) ?_
      refine J.ret Tryz.f37 [.bool (decide (i.gK < (p.gMaps_n : Int)))] Tryz.func37 ⟨by kernel_rfl, trivial⟩ ?_
      refine hR _ _ ?_
      exact ⟨congrArg Value.bool (by unfold fitsI; rw [fk1, Bool.true_and]; unfold namedB; (repeat first | rw [if_pos (by omega)] | rw [if_neg (by omega)]); all_goals first | rfl | exact (decide_eq_true (by omega)).symm | exact (decide_eq_false (by omega)).symm), S3.nil⟩
     ·skip
      refine J.head (.bool false) (congrArg Value.bool (beq_eq_false_iff_ne.2 fk5)) ?_
      refine J.run 4 K37_23 [(48, pv b2), (3, pv b2), (2, pv b1)] w3 (by kernel_rfl) ?_
      refine J.ok (OK.ldBox S3 0 49 3 0 (iv i.gOp) (by kernel_rfl) rfl (by kernel_rfl)) ?_
      refine J.run 3 K37_24 [(47, .bool (i.gOp == 22)), (3, pv b2), (2, pv b1)] w3 (by kernel_rfl) ?_
      by_cases fk6 : i.gOp = 22
      ·skip
       refine J.head (.bool true) (congrArg Value.bool (beq_iff_eq.2 fk6)) ?_
       refine J.run 4 K37_25 [(51, .pointer (some ⟨b2, 4, none⟩)), (2, pv b1)] w3 (by kernel_rfl) ?_
       refine J.ok (OK.ldBox S3 0 52 3 4 (iv i.gK) (by kernel_rfl) rfl (by kernel_rfl)) ?_
       refine J.run 1 K37_26 [(53, iv (Int.fdiv i.gK (2 ^ 5))), (2, pv b1)] w3 (by kernel_rfl) ?_
       refine J.head (iv (i.gK / 32)) (congrArg (Value.int .i64) (shr_lit _ _ (by decide))) ?_
       refine J.run 1 K37_27 [(54, iv (IntKind.wrap .i64 ((i.gK / 32) + 1))), (2, pv b1)] w3 (by kernel_rfl) ?_
       refine J.head (iv ((i.gK / 32) + 1)) (congrArg (Value.int .i64) (IntWalk.i64_in _ (by omega))) ?_
       refine J.run 1 K37_28 [(55, .pointer (some ⟨b1, 4, none⟩)), (54, iv ((i.gK / 32) + 1))] w3 (by kernel_rfl) ?_
       refine J.ok (OK.ldBox S3 1 56 3 4 (iv p.gCells) (by kernel_rfl) rfl (by kernel_rfl)) ?_
       refine J.run 3 K37_29 [(4, .bool (decide (((i.gK / 32) + 1) < p.gCells)))] w3 (by kernel_rfl) ?_
       refine J.ret Tryz.f37 [.bool (decide (((i.gK / 32) + 1) < p.gCells))] Tryz.func37 ⟨by kernel_rfl, trivial⟩ ?_
       refine hR _ _ ?_
       exact ⟨congrArg Value.bool (by unfold fitsI; rw [fk1, Bool.true_and]; unfold namedB; (repeat first | rw [if_pos (by omega)] | rw [if_neg (by omega)]); all_goals first | rfl | exact (decide_eq_true (by omega)).symm | exact (decide_eq_false (by omega)).symm), S3.nil⟩
      ·skip
       refine J.head (.bool false) (congrArg Value.bool (beq_eq_false_iff_ne.2 fk6)) ?_
       refine J.run 4 K37_30 [(59, pv b2), (3, pv b2), (2, pv b1)] w3 (by kernel_rfl) ?_
       refine J.ok (OK.ldBox S3 0 60 3 0 (iv i.gOp) (by kernel_rfl) rfl (by kernel_rfl)) ?_
       refine J.callF 61 71 #[iv i.gOp] hb71 (by kernel_rfl) (typed_any i.gOp _) ?_
       rintro _ w4 ⟨rfl, T2⟩
       have S4 : Sep w [box b2 (insC i) 44, box b1 (prgC p) 28] w4 := S3.trans T2
       clear T2 S3
       refine J.run 2 K37_31 [(58, .bool (decide (typedP i.gOp))), (3, pv b2), (2, pv b1)] w4 (by kernel_rfl) ?_
       rcases Bool.eq_false_or_eq_true (decide (typedP i.gOp)) with fk7 | fk7
       ·skip
        refine J.head (.bool true) (congrArg Value.bool fk7) ?_
        have fb2 := of_decide_eq_true fk7
        refine J.run 3 K37_32 [(3, pv b2), (2, pv b1)] w4 (by kernel_rfl) ?_
        refine J.ok (OK.ldBox S4 1 63 28 0 (.agg (prgA p)) (by kernel_rfl) rfl (by kernel_rfl)) ?_
        refine J.ok (OK.ldBox S4 0 64 44 0 (.agg (insA i)) (by kernel_rfl) rfl (by kernel_rfl)) ?_
        refine J.callF 65 72 #[.agg (prgA p), .agg (insA i)] hb72 (by kernel_rfl) (types_any p i _ (prgQ_sep hp S4) (insQ_sep hi S4) (by omega)) ?_
        rintro _ w5 ⟨rfl, T3⟩
        have S5 : Sep w [box b2 (insC i) 44, box b1 (prgC p) 28] w5 := S4.trans T3
        clear T3 S4
        obtain ⟨hty1a, hty1b, hty1c⟩ := ty_q (w := w) (op := (i).gOp) (k := (i).gK) q6
        refine J.run 5 K37_33 [(69, .bool (tyOK p (i).gOp (i).gK)), (68, .agg (fxdA (tyC p (i).gOp (i).gK))), (67, .agg (fxdA (tyB p (i).gOp (i).gK))), (66, .agg (fxdA (tyA p (i).gOp (i).gK))), (3, pv b2)] w5 (by kernel_rfl) ?_
        refine J.new S5 5 [iv 0, .bool false, iv 0, iv 0, iv 0, iv 0, iv 0, iv 0, iv 0, iv 0] 62 (by kernel_rfl) ?_
        intro b3 w6 S6
        refine J.new S6 6 [iv 0, .bool false, iv 0, iv 0, iv 0, iv 0, iv 0, iv 0, iv 0, iv 0] 62 (by kernel_rfl) ?_
        intro b4 w7 S7
        refine J.new S7 7 [iv 0, .bool false, iv 0, iv 0, iv 0, iv 0, iv 0, iv 0, iv 0, iv 0] 62 (by kernel_rfl) ?_
        intro b5 w8 S8
        refine J.stBox S8 2 62 0 (.agg (fxdA (tyA p (i).gOp (i).gK))) (fxdC (tyA p (i).gOp (i).gK)) [box b5 [iv 0, .bool false, iv 0, iv 0, iv 0, iv 0, iv 0, iv 0, iv 0, iv 0] 62, box b4 [iv 0, .bool false, iv 0, iv 0, iv 0, iv 0, iv 0, iv 0, iv 0, iv 0] 62, box b3 (fxdC (tyA p (i).gOp (i).gK)) 62, box b2 (insC i) 44, box b1 (prgC p) 28] (by kernel_rfl) rfl (by kernel_rfl) (by kernel_rfl) rfl ?_
        intro w9 S9
        refine J.stBox S9 1 62 0 (.agg (fxdA (tyB p (i).gOp (i).gK))) (fxdC (tyB p (i).gOp (i).gK)) [box b5 [iv 0, .bool false, iv 0, iv 0, iv 0, iv 0, iv 0, iv 0, iv 0, iv 0] 62, box b4 (fxdC (tyB p (i).gOp (i).gK)) 62, box b3 (fxdC (tyA p (i).gOp (i).gK)) 62, box b2 (insC i) 44, box b1 (prgC p) 28] (by kernel_rfl) rfl (by kernel_rfl) (by kernel_rfl) rfl ?_
        intro w10 S10
        refine J.stBox S10 0 62 0 (.agg (fxdA (tyC p (i).gOp (i).gK))) (fxdC (tyC p (i).gOp (i).gK)) [box b5 (fxdC (tyC p (i).gOp (i).gK)) 62, box b4 (fxdC (tyB p (i).gOp (i).gK)) 62, box b3 (fxdC (tyA p (i).gOp (i).gK)) 62, box b2 (insC i) 44, box b1 (prgC p) 28] (by kernel_rfl) rfl (by kernel_rfl) (by kernel_rfl) rfl ?_
        intro w11 S11
        refine J.run 6 K37_34 [(71, .bool (tyOK p (i).gOp (i).gK)), (7, pv b5), (6, pv b4), (5, pv b3), (3, pv b2)] w11 (by kernel_rfl) ?_
        rcases Bool.eq_false_or_eq_true (tyOK p (i).gOp (i).gK) with fk8 | fk8
        ·skip
         refine J.head (.bool true) (congrArg Value.bool fk8) ?_
         refine J.ok (OK.ldBox S11 3 72 44 0 (.agg (insA i)) (by kernel_rfl) rfl (by kernel_rfl)) ?_
         refine J.ok (OK.ldBox S11 2 73 62 0 (.agg (fxdA (tyA p (i).gOp (i).gK))) (by kernel_rfl) rfl (by kernel_rfl)) ?_
         refine J.ok (OK.ldBox S11 1 74 62 0 (.agg (fxdA (tyB p (i).gOp (i).gK))) (by kernel_rfl) rfl (by kernel_rfl)) ?_
         refine J.ok (OK.ldBox S11 0 75 62 0 (.agg (fxdA (tyC p (i).gOp (i).gK))) (by kernel_rfl) rfl (by kernel_rfl)) ?_
         refine J.callF 76 73 #[.agg (insA i), .agg (fxdA (tyA p (i).gOp (i).gK)), .agg (fxdA (tyB p (i).gOp (i).gK)), .agg (fxdA (tyC p (i).gOp (i).gK))] hb73 (by kernel_rfl) (units_any i (tyA p (i).gOp (i).gK) (tyB p (i).gOp (i).gK) (tyC p (i).gOp (i).gK) _ (insQ_sep hi S11) (fxdQ_sep hty1a S11) (fxdQ_sep hty1b S11) (fxdQ_sep hty1c S11)) ?_
         rintro _ w12 ⟨rfl, T4⟩
         have S12 : Sep w [box b5 (fxdC (tyC p (i).gOp (i).gK)) 62, box b4 (fxdC (tyB p (i).gOp (i).gK)) 62, box b3 (fxdC (tyA p (i).gOp (i).gK)) 62, box b2 (insC i) 44, box b1 (prgC p) 28] w12 := S11.trans T4
         clear T4 S11
         refine J.run 3 K37_35 [(4, .bool (unitsB (i).gOp (unitT (tyA p (i).gOp (i).gK)) (unitT (tyB p (i).gOp (i).gK)) (unitT (tyC p (i).gOp (i).gK))))] w12 (by kernel_rfl) ?_
         refine J.ret Tryz.f37 [.bool (unitsB (i).gOp (unitT (tyA p (i).gOp (i).gK)) (unitT (tyB p (i).gOp (i).gK)) (unitT (tyC p (i).gOp (i).gK)))] Tryz.func37 ⟨by kernel_rfl, trivial⟩ ?_
         refine hR _ _ ?_
         exact ⟨congrArg Value.bool (by unfold fitsI; rw [fk1, Bool.true_and]; unfold namedB; (repeat first | rw [if_pos (by omega)] | rw [if_neg (by omega)]); rw [fk8]; all_goals first | rfl | (rw [Bool.true_and]; first | rfl | exact rfl.symm)), S12.nil⟩
        ·skip
         refine J.head (.bool false) (congrArg Value.bool fk8) ?_
         refine J.run 8 K37_36 [(4, .bool false)] w11 (by kernel_rfl) ?_
         refine J.ret Tryz.f37 [.bool false] Tryz.func37 ⟨by kernel_rfl, trivial⟩ ?_
         refine hR _ _ ?_
         exact ⟨congrArg Value.bool (by unfold fitsI; rw [fk1, Bool.true_and]; unfold namedB; (repeat first | rw [if_pos (by omega)] | rw [if_neg (by omega)]); rw [fk8]; all_goals first | rfl | (rw [Bool.true_and]; first | rfl | exact rfl.symm)), S11.nil⟩
       ·skip
        refine J.head (.bool false) (congrArg Value.bool fk7) ?_
        have fb3 := of_decide_eq_false fk7
        refine J.run 7 K37_37 [(4, .bool true)] w4 (by kernel_rfl) ?_
        refine J.ret Tryz.f37 [.bool true] Tryz.func37 ⟨by kernel_rfl, trivial⟩ ?_
        refine hR _ _ ?_
        exact ⟨congrArg Value.bool (by unfold fitsI; rw [fk1, Bool.true_and]; unfold namedB; (repeat first | rw [if_pos (by omega)] | rw [if_neg (by omega)]); all_goals first | rfl | exact (decide_eq_true (by omega)).symm | exact (decide_eq_false (by omega)).symm), S4.nil⟩
 ·skip
  refine J.head (.bool true) (congrArg Value.bool (by rw [fk1]; rfl)) ?_
  refine J.run 5 K37_38 [(4, .bool false)] w3 (by kernel_rfl) ?_
  refine J.ret Tryz.f37 [.bool false] Tryz.func37 ⟨by kernel_rfl, trivial⟩ ?_
  refine hR _ _ ?_
  exact ⟨congrArg Value.bool (by unfold fitsI; rw [fk1]; rfl), S3.nil⟩

end Go.Proofs.YthfpejhonhaggaaGreatDoor

