/- Walks of functions of this seat, printed by a program over the engine. Conditions: as each theorem says. -/
import Derived.Test.YtbbpgidmadlgmaaZdX14
namespace Go.Proofs.Ytbbpgidmadlgmaa
noncomputable section
open Go.Eng Go.RowKit
set_option linter.unusedSimpArgs false
set_option linter.unusedVariables false
def K8_0 := adv 2 [] (bodyOf Try.f8)
def K8_1 := adv 5 [] (popK K8_0)
def K8_2 := adv 2 [] (popK K8_1)
def K8_3 := adv 3 [] (popK (popK K8_2))
def K8_4 := adv 5 [] K8_3
def K8_5 := adv 8 [true] K8_4
def K8_6 := adv 2 [] (popK K8_5)
def K8_7 := adv 3 [] (popK (popK K8_4))
def K8_8 := adv 3 [false] K8_7
def K8_9 := adv 5 [] (rRest K8_8)
def K8_10 := adv 1 [] (popK K8_9)
def K8_11 := adv 1 [] (popK K8_10)
def K8_12 := adv 3 [] (popK (popK K8_11))
def K8_13 := adv 6 [false] K8_12
def K8_14 := adv 5 [] (popK K8_13)
def K8_15 := adv 5 [] K8_14
def K8_16 := adv 7 [true] K8_15
def K8_17 := adv 1 [] (popK (popK (popK K8_16)))
def K8_18 := adv 3 [] (popK K8_17)
def K8_19 := adv 1 [] (popK K8_18)
def K8_20 := adv 2 [] (popK (popK K8_19))
def K8_21 := adv 11 [false] K8_20
def K8_22 := adv 2 [] K8_20
def K8_23 := adv 3 [] (popK K8_22)
def K8_24 := adv 5 [false] K8_23
def K8_25 := adv 4 [false] K8_15
def K8_26 := adv 1 [] (popK K8_25)
def K8_27 := adv 12 [] (popK K8_26)
def K8_28 := adv 7 [false] K8_27
def K8_29 := adv 1 [] (popK K8_28)
def K8_30 := adv 9 [false] K8_29
def K8_31 := adv 5 [true] K8_30
def K8_32 := adv 7 [false] K8_30
def K8_33 := adv 2 [] K8_32
def K8_34 := adv 1 [] (popK (popK (popK K8_33)))
def K8_35 := adv 3 [] K8_34
def K8_36 := adv 2 [] (popK (popK (popK K8_35)))
def K8_37 := adv 2 [] (rRest K8_36)
def K8_38 := adv 1 [] (popK K8_37)
def K8_39 := adv 11 [] (popK K8_38)
def K8_40 := adv 2 [] K8_39
def K8_41 := adv 3 [] (popK K8_40)
def K8_42 := adv 8 [true] K8_27
def K8_43 := adv 3 [true] K8_7
def K8_44 := adv 2 [] (popK K8_43)
def K8_45 := adv 13 [true] K8_3
def K8_46 := adv 2 [] (popK K8_45)
set_option maxRecDepth 20000 in
set_option maxHeartbeats 20000000 in
theorem lawdead_any (c : Cht) (la : Option Addr) (len cap : Nat) (l : List Int) (which : Int) (w : World) (hc : chtQ w c) (hI : Ints w la len l) (hlen : len ≤ 9223372036854775807) (hwh : 0 ≤ which ∧ which ≤ 255) : Ret Try.prog 8 #[.agg #[.slice c.gStates_a c.gStates_n c.gStates_c, .slice c.gInputs_a c.gInputs_n c.gInputs_c, .int .i64 c.gStart, .slice c.gMoves_a c.gMoves_n c.gMoves_c], .slice la len cap, .int .u8 which] w (fun v w' => v = .bool true ∧ Sep w [] w') := by
 have S0 := Sep.refl w
 refine Ret.named fun R hR => ?_
 refine Ret.of_J (N := 120) [(0, .agg #[.slice c.gStates_a c.gStates_n c.gStates_c, .slice c.gInputs_a c.gInputs_n c.gInputs_c, .int .i64 c.gStart, .slice c.gMoves_a c.gMoves_n c.gMoves_c]), (1, .slice la len cap), (2, .int .u8 which)] Try.func8 rfl rfl (Nat.le_of_ble_eq_true (by kernel_rfl)) (by kernel_rfl) ?_
 obtain ⟨q1, q2, q3, q4, q5, q6, q7, q8, q9, q10, _⟩ := id hc
 have ql1 := q2.len_eq
 have ql2 := q5.len_eq
 have ql3 := q9.len_eq
 have hll := hI.len_eq
 have ql_ : c.gMoves_l.length = c.gMoves_n := by omega
 have hrl : (reachL c).length ≤ c.gStates_n := by unfold reachL; split; exact selL_len _ _; exact Nat.zero_le _
 have hdl : (deadL c).length ≤ c.gMoves_n := by unfold deadL; split; exact selL_len _ _; exact Nat.zero_le _
 refine J.run 2 K8_0 [(0, .agg #[.slice c.gStates_a c.gStates_n c.gStates_c, .slice c.gInputs_a c.gInputs_n c.gInputs_c, .int .i64 c.gStart, .slice c.gMoves_a c.gMoves_n c.gMoves_c]), (1, .slice la len cap), (2, .int .u8 which)] w (by kernel_rfl) ?_
 refine J.new S0 3 [.slice c.gStates_a c.gStates_n c.gStates_c, .slice c.gInputs_a c.gInputs_n c.gInputs_c, .int .i64 c.gStart, .slice c.gMoves_a c.gMoves_n c.gMoves_c] 25 (by kernel_rfl) ?_
 intro b1 w1 S1
 refine J.run 5 K8_1 [(3, .pointer (some ⟨b1, 0, none⟩)), (1, .slice la len cap), (2, .int .u8 which)] w1 (by kernel_rfl) ?_
 refine J.callF 17 9 #[] hb9 (by kernel_rfl) (awake_any  _) ?_
 rintro _ w2 ⟨rfl, T1⟩
 have S2 : Sep w [box b1 [.slice c.gStates_a c.gStates_n c.gStates_c, .slice c.gInputs_a c.gInputs_n c.gInputs_c, .int .i64 c.gStart, .slice c.gMoves_a c.gMoves_n c.gMoves_c] 25] w2 := S1.trans T1
 clear T1 S1
 refine J.run 2 K8_2 [(19, .bool false), (3, .pointer (some ⟨b1, 0, none⟩)), (1, .slice la len cap), (2, .int .u8 which)] w2 (by kernel_rfl) ?_
 refine J.ok (OK.ldBox S2 0 20 25 0 (.agg #[.slice c.gStates_a c.gStates_n c.gStates_c, .slice c.gInputs_a c.gInputs_n c.gInputs_c, .int .i64 c.gStart, .slice c.gMoves_a c.gMoves_n c.gMoves_c]) (by kernel_rfl) rfl (by kernel_rfl)) ?_
 refine J.callF 21 21 #[.agg #[.slice c.gStates_a c.gStates_n c.gStates_c, .slice c.gInputs_a c.gInputs_n c.gInputs_c, .int .i64 c.gStart, .slice c.gMoves_a c.gMoves_n c.gMoves_c]] hb21 (by kernel_rfl) (tiny_any c _ (chtQ_sep hc S2)) ?_
 rintro _ w3 ⟨tb1, rfl, T2⟩
 have S3 : Sep w [box b1 [.slice c.gStates_a c.gStates_n c.gStates_c, .slice c.gInputs_a c.gInputs_n c.gInputs_c, .int .i64 c.gStart, .slice c.gMoves_a c.gMoves_n c.gMoves_c] 25] w3 := S2.trans T2
 clear T2
 refine J.run 3 K8_3 [(24, .bool (!tb1)), (3, .pointer (some ⟨b1, 0, none⟩)), (1, .slice la len cap), (2, .int .u8 which)] w3 (by kernel_rfl) ?_
 rcases Bool.eq_false_or_eq_true tb1 with fk1 | fk1
 rotate_left
 ·skip
  refine J.head (.bool true) (congrArg Value.bool (by rw [fk1]; rfl)) ?_
  refine J.run 13 K8_45 [] w3 (by kernel_rfl) ?_
  refine J.callF 34 9 #[] hb9 (by kernel_rfl) (awake_any  _) ?_
  rintro _ w40 ⟨rfl, T19⟩
  have S47 : Sep w [box b1 [.slice c.gStates_a c.gStates_n c.gStates_c, .slice c.gInputs_a c.gInputs_n c.gInputs_c, .int .i64 c.gStart, .slice c.gMoves_a c.gMoves_n c.gMoves_c] 25] w40 := S3.trans T19
  clear T19 S3
  refine J.run 2 K8_46 [(6, .bool true)] w40 (by kernel_rfl) ?_
  refine J.ret Try.f8 [.bool true] Try.func8 ⟨by kernel_rfl, trivial⟩ ?_
  refine hR _ _ ?_
  exact ⟨rfl, S47.nil⟩
 refine J.head (.bool false) (congrArg Value.bool (by rw [fk1]; rfl)) ?_
 refine J.run 5 K8_4 [(29, .bool (decide ((len : Int) > 200))), (3, .pointer (some ⟨b1, 0, none⟩)), (1, .slice la len cap), (2, .int .u8 which)] w3 (by kernel_rfl) ?_
 by_cases fk2 : (len : Int) > 200
 ·skip
  refine J.head (.bool true) (congrArg Value.bool (decide_eq_true fk2)) ?_
  refine J.run 8 K8_5 [] w3 (by kernel_rfl) ?_
  refine J.callF 34 9 #[] hb9 (by kernel_rfl) (awake_any  _) ?_
  rintro _ w4 ⟨rfl, T3⟩
  have S4 : Sep w [box b1 [.slice c.gStates_a c.gStates_n c.gStates_c, .slice c.gInputs_a c.gInputs_n c.gInputs_c, .int .i64 c.gStart, .slice c.gMoves_a c.gMoves_n c.gMoves_c] 25] w4 := S3.trans T3
  clear T3 S3
  refine J.run 2 K8_6 [(6, .bool true)] w4 (by kernel_rfl) ?_
  refine J.ret Try.f8 [.bool true] Try.func8 ⟨by kernel_rfl, trivial⟩ ?_
  refine hR _ _ ?_
  exact ⟨rfl, S4.nil⟩
 refine J.head (.bool false) (congrArg Value.bool (decide_eq_false fk2)) ?_
 refine J.ok (OK.ldBox S3 0 30 25 0 (.agg #[.slice c.gStates_a c.gStates_n c.gStates_c, .slice c.gInputs_a c.gInputs_n c.gInputs_c, .int .i64 c.gStart, .slice c.gMoves_a c.gMoves_n c.gMoves_c]) (by kernel_rfl) rfl (by kernel_rfl)) ?_
 refine J.callF 31 19 #[.agg #[.slice c.gStates_a c.gStates_n c.gStates_c, .slice c.gInputs_a c.gInputs_n c.gInputs_c, .int .i64 c.gStart, .slice c.gMoves_a c.gMoves_n c.gMoves_c]] hb19 (by kernel_rfl) (valid_any c _ (chtQ_sep hc S3)) ?_
 rintro _ w5 ⟨rfl, T4⟩
 have S5 : Sep w [box b1 [.slice c.gStates_a c.gStates_n c.gStates_c, .slice c.gInputs_a c.gInputs_n c.gInputs_c, .int .i64 c.gStart, .slice c.gMoves_a c.gMoves_n c.gMoves_c] 25] w5 := S3.trans T4
 clear T4 S3
 refine J.run 3 K8_7 [(33, .bool (!(validC c))), (3, .pointer (some ⟨b1, 0, none⟩)), (1, .slice la len cap), (2, .int .u8 which)] w5 (by kernel_rfl) ?_
 rcases Bool.eq_false_or_eq_true (validC c) with fk3 | fk3
 rotate_left
 ·skip
  refine J.head (.bool true) (congrArg Value.bool (by rw [fk3]; rfl)) ?_
  refine J.run 3 K8_43 [] w5 (by kernel_rfl) ?_
  refine J.callF 34 9 #[] hb9 (by kernel_rfl) (awake_any  _) ?_
  rintro _ w39 ⟨rfl, T18⟩
  have S46 : Sep w [box b1 [.slice c.gStates_a c.gStates_n c.gStates_c, .slice c.gInputs_a c.gInputs_n c.gInputs_c, .int .i64 c.gStart, .slice c.gMoves_a c.gMoves_n c.gMoves_c] 25] w39 := S5.trans T18
  clear T18 S5
  refine J.run 2 K8_44 [(6, .bool true)] w39 (by kernel_rfl) ?_
  refine J.ret Try.f8 [.bool true] Try.func8 ⟨by kernel_rfl, trivial⟩ ?_
  refine hR _ _ ?_
  exact ⟨rfl, S46.nil⟩
 refine J.head (.bool false) (congrArg Value.bool (by rw [fk3]; rfl)) ?_
 have hv := fk3
 have hvf := validC_facts hv
 refine J.run 3 K8_8 [(3, .pointer (some ⟨b1, 0, none⟩)), (1, .slice la len cap), (2, .int .u8 which)] w5 (by kernel_rfl) ?_
 have W1 : ∀ (bd4 : Nat) (ad1 : Option Addr) (cd1 : Nat) (ad3 : Option Addr) (cd3 : Nat) (w6 : World), Sep w [rowOf encI ad3 cd3 3 1 (deadL c), rowOf encI ad1 cd1 3 1 (reachL c), box bd4 [.slice ad1 ((reachL c).length) cd1] 26, box b1 [.slice c.gStates_a c.gStates_n c.gStates_c, .slice c.gInputs_a c.gInputs_n c.gInputs_c, .int .i64 c.gStart, .slice c.gMoves_a c.gMoves_n c.gMoves_c] 25] w6 → WA Try.prog 8 120 R K8_8 (fun w_ => Sep w [box b1 [.slice c.gStates_a c.gStates_n c.gStates_c, .slice c.gInputs_a c.gInputs_n c.gInputs_c, .int .i64 c.gStart, .slice c.gMoves_a c.gMoves_n c.gMoves_c] 25] w_) 0 #[true, true, true, true, true, true, true] [(1, .slice la len cap), (2, .int .u8 which), (3, .pointer (some ⟨b1, 0, none⟩)), (7, .pointer (some ⟨bd4, 0, none⟩)), (8, .slice ad3 ((deadL c).length) cd3)] w6 := by
  intro bd4 ad1 cd1 ad3 cd3 w6 S6
  refine WA.done (by kernel_rfl) ?_
  refine J.run 0 (rRest K8_8) [(1, .slice la len cap), (2, .int .u8 which), (3, .pointer (some ⟨b1, 0, none⟩)), (7, .pointer (some ⟨bd4, 0, none⟩)), (8, .slice ad3 ((deadL c).length) cd3)] w6 (by kernel_rfl) ?_
  refine J.run 5 K8_9 [(40, .func (.func 26) #[] #[.pointer (some ⟨b1, 0, none⟩)]), (39, .slice ad3 ((deadL c).length) cd3), (1, .slice la len cap), (2, .int .u8 which), (3, .pointer (some ⟨b1, 0, none⟩)), (7, .pointer (some ⟨bd4, 0, none⟩)), (8, .slice ad3 ((deadL c).length) cd3)] w6 (by kernel_rfl) ?_
  have := rowOf_len (S6.nth 0 rfl)
  refine J.callF 41 25 #[.slice ad3 ((deadL c).length) cd3, .func (.func 26) #[] #[.pointer (some ⟨b1, 0, none⟩)]] hb25 (by kernel_rfl) (containsI1 ad3 ((deadL c).length) cd3 (deadL c) 26 (.pointer (some ⟨b1, 0, none⟩)) (fun i => decide (i < 0) || decide ((c.gMoves_n : Int) ≤ i)) _ ((row1_ones (S6.nth 0 rfl) ((deadL c).length) (by first | rfl | omega | simp))) (by first | omega | (simp; omega)) hb26 (fun i_ w_ hi_ S_ => dead1_any c b1 _ w_ (box_keep (S6.nth 3 rfl) S_))) ?_
  rintro _ w7 ⟨rfl, T5⟩
  have S7 : Sep w [rowOf encI ad3 cd3 3 1 (deadL c), rowOf encI ad1 cd1 3 1 (reachL c), box bd4 [.slice ad1 ((reachL c).length) cd1] 26, box b1 [.slice c.gStates_a c.gStates_n c.gStates_c, .slice c.gInputs_a c.gInputs_n c.gInputs_c, .int .i64 c.gStart, .slice c.gMoves_a c.gMoves_n c.gMoves_c] 25] w7 := S6.trans T5
  clear T5 S6
  refine J.run 1 K8_10 [(42, .bool (List.any (deadL c) (fun i => decide (i < 0) || decide ((c.gMoves_n : Int) ≤ i)))), (1, .slice la len cap), (2, .int .u8 which), (3, .pointer (some ⟨b1, 0, none⟩)), (7, .pointer (some ⟨bd4, 0, none⟩)), (8, .slice ad3 ((deadL c).length) cd3)] w7 (by kernel_rfl) ?_
  have fk5 : (List.any (deadL c) (fun i => decide (i < 0) || decide ((c.gMoves_n : Int) ≤ i))) = false := dead_in hv
  refine J.head (.bool false) (congrArg Value.bool fk5) ?_
  refine J.ok (OK.ldBox S7 2 43 26 0 (.slice ad1 ((reachL c).length) cd1) (by kernel_rfl) rfl (by kernel_rfl)) ?_
  refine J.run 1 K8_11 [(44, .pointer (some ⟨b1, 2, none⟩)), (43, .slice ad1 ((reachL c).length) cd1), (42, .bool false), (1, .slice la len cap), (2, .int .u8 which), (3, .pointer (some ⟨b1, 0, none⟩)), (7, .pointer (some ⟨bd4, 0, none⟩)), (8, .slice ad3 ((deadL c).length) cd3)] w7 (by kernel_rfl) ?_
  refine J.ok (OK.ldBox S7 3 45 3 2 (.int .i64 c.gStart) (by kernel_rfl) rfl (by kernel_rfl)) ?_
  have := rowOf_len (S7.nth 1 rfl)
  refine J.callF 46 27 #[.slice ad1 ((reachL c).length) cd1, .int .i64 c.gStart] hb27 (by kernel_rfl) (containsI ad1 ((reachL c).length) cd1 (reachL c) c.gStart _ ((row1_ones (S7.nth 1 rfl) ((reachL c).length) (by first | rfl | omega | simp))) (by first | omega | (simp; omega))) ?_
  rintro _ w8 ⟨rfl, T6⟩
  have S8 : Sep w [rowOf encI ad3 cd3 3 1 (deadL c), rowOf encI ad1 cd1 3 1 (reachL c), box bd4 [.slice ad1 ((reachL c).length) cd1] 26, box b1 [.slice c.gStates_a c.gStates_n c.gStates_c, .slice c.gInputs_a c.gInputs_n c.gInputs_c, .int .i64 c.gStart, .slice c.gMoves_a c.gMoves_n c.gMoves_c] 25] w8 := S7.trans T6
  clear T6 S7
  refine J.run 3 K8_12 [(48, .bool (!(List.any (reachL c) fun y => decide (c.gStart = y)))), (1, .slice la len cap), (2, .int .u8 which), (3, .pointer (some ⟨b1, 0, none⟩)), (7, .pointer (some ⟨bd4, 0, none⟩)), (8, .slice ad3 ((deadL c).length) cd3)] w8 (by kernel_rfl) ?_
  have fk7 : (List.any (reachL c) fun y => decide (c.gStart = y)) = true := start_in hv
  refine J.head (.bool false) (congrArg Value.bool (by rw [fk7]; rfl)) ?_
  refine J.run 6 K8_13 [(49, .pointer (some ⟨b1, 3, none⟩)), (1, .slice la len cap), (2, .int .u8 which), (3, .pointer (some ⟨b1, 0, none⟩)), (7, .pointer (some ⟨bd4, 0, none⟩)), (8, .slice ad3 ((deadL c).length) cd3)] w8 (by kernel_rfl) ?_
  refine J.ok (OK.ldBox S8 3 50 23 3 (.slice c.gMoves_a c.gMoves_n c.gMoves_c) (by kernel_rfl) rfl (by kernel_rfl)) ?_
  refine J.run 5 K8_14 [(52, .int .i64 0), (51, .int .i64 (c.gMoves_n : Int)), (50, .slice c.gMoves_a c.gMoves_n c.gMoves_c), (1, .slice la len cap), (2, .int .u8 which), (3, .pointer (some ⟨b1, 0, none⟩)), (7, .pointer (some ⟨bd4, 0, none⟩)), (8, .slice ad3 ((deadL c).length) cd3)] w8 (by kernel_rfl) ?_
  have L8_1 : ∀ (mm_ : Nat) (i : Int) (w9 : World), (0 ≤ i) → (i ≤ (c.gMoves_n : Int)) → Sep w [rowOf encI ad3 cd3 3 1 (deadL c), rowOf encI ad1 cd1 3 1 (reachL c), box bd4 [.slice ad1 ((reachL c).length) cd1] 26, box b1 [.slice c.gStates_a c.gStates_n c.gStates_c, .slice c.gInputs_a c.gInputs_n c.gInputs_c, .int .i64 c.gStart, .slice c.gMoves_a c.gMoves_n c.gMoves_c] 25] w9 → ((c.gMoves_n : Int) - i).toNat = mm_ → J Try.prog 8 120 R K8_14 [(52, .int .i64 i), (51, .int .i64 (c.gMoves_n : Int)), (50, .slice c.gMoves_a c.gMoves_n c.gMoves_c), (1, .slice la len cap), (2, .int .u8 which), (3, .pointer (some ⟨b1, 0, none⟩)), (7, .pointer (some ⟨bd4, 0, none⟩)), (8, .slice ad3 ((deadL c).length) cd3)] w9 := by
   intro mm1
   induction mm1 using Nat.strongRecOn with
   | _ mm1 ih1 =>
   intro i w9 h0 h1 S9 hm1
   refine J.run 5 K8_15 [(53, .bool (decide (i < (c.gMoves_n : Int)))), (52, .int .i64 i), (51, .int .i64 (c.gMoves_n : Int)), (50, .slice c.gMoves_a c.gMoves_n c.gMoves_c), (1, .slice la len cap), (2, .int .u8 which), (3, .pointer (some ⟨b1, 0, none⟩)), (7, .pointer (some ⟨bd4, 0, none⟩)), (8, .slice ad3 ((deadL c).length) cd3)] w9 (by kernel_rfl) ?_
   by_cases fk8 : i < (c.gMoves_n : Int)
   ·skip
    refine J.head (.bool true) (congrArg Value.bool (decide_eq_true fk8)) ?_
    refine J.run 7 K8_16 [(54, .int .i64 i), (52, .int .i64 i), (51, .int .i64 (c.gMoves_n : Int)), (50, .slice c.gMoves_a c.gMoves_n c.gMoves_c), (1, .slice la len cap), (2, .int .u8 which), (3, .pointer (some ⟨b1, 0, none⟩)), (7, .pointer (some ⟨bd4, 0, none⟩)), (8, .slice ad3 ((deadL c).length) cd3)] w9 (by kernel_rfl) ?_
    obtain ⟨p1, hp1, hc1⟩ := q9.at (⟨0, 0, 0, 0, 0⟩ : Mv) (i).toNat (by omega)
    have hel1 := getD_Q q10 (⟨0, 0, 0, 0, 0⟩ : Mv) (n := (i).toNat) (by have := q9.len_eq; omega)
    obtain ⟨q11, q12, q13, q14, q15, _⟩ := id hel1
    refine J.ok (OK.index 55 23 5 c.gMoves_a p1 c.gMoves_n (i).toNat i (p1.add ((i).toNat * 5)) (by kernel_rfl) (by kernel_rfl) hp1 (by omega) (by omega) rfl) ?_
    refine J.ok (OK.ldCells 56 42 (p1.add ((i).toNat * 5)) [.int .i64 ((c.gMoves_l.getD (i).toNat (⟨0, 0, 0, 0, 0⟩ : Mv)).gFrom), .int .i64 ((c.gMoves_l.getD (i).toNat (⟨0, 0, 0, 0, 0⟩ : Mv)).gTo), .int .i64 ((c.gMoves_l.getD (i).toNat (⟨0, 0, 0, 0, 0⟩ : Mv)).gOn), .int .i64 ((c.gMoves_l.getD (i).toNat (⟨0, 0, 0, 0, 0⟩ : Mv)).gOff), .int .i64 ((c.gMoves_l.getD (i).toNat (⟨0, 0, 0, 0, 0⟩ : Mv)).gAfter)] (by kernel_rfl) (by kernel_rfl) (by kernel_rfl) (fun j_ v_ hj_ => S9.cell (hc1 j_ v_ hj_))) ?_
    refine J.new S9 10 [.int .i64 0, .int .i64 0, .int .i64 0, .int .i64 0, .int .i64 0] 42 (by kernel_rfl) ?_
    intro b2 w10 S10
    refine J.run 1 K8_17 [(9, .int .i64 i), (10, .pointer (some ⟨b2, 0, none⟩)), (56, .agg #[.int .i64 ((c.gMoves_l.getD (i).toNat (⟨0, 0, 0, 0, 0⟩ : Mv)).gFrom), .int .i64 ((c.gMoves_l.getD (i).toNat (⟨0, 0, 0, 0, 0⟩ : Mv)).gTo), .int .i64 ((c.gMoves_l.getD (i).toNat (⟨0, 0, 0, 0, 0⟩ : Mv)).gOn), .int .i64 ((c.gMoves_l.getD (i).toNat (⟨0, 0, 0, 0, 0⟩ : Mv)).gOff), .int .i64 ((c.gMoves_l.getD (i).toNat (⟨0, 0, 0, 0, 0⟩ : Mv)).gAfter)]), (52, .int .i64 i), (51, .int .i64 (c.gMoves_n : Int)), (50, .slice c.gMoves_a c.gMoves_n c.gMoves_c), (1, .slice la len cap), (2, .int .u8 which), (3, .pointer (some ⟨b1, 0, none⟩)), (7, .pointer (some ⟨bd4, 0, none⟩)), (8, .slice ad3 ((deadL c).length) cd3)] w10 (by kernel_rfl) ?_
    refine J.stBox S10 0 42 0 (.agg #[.int .i64 ((c.gMoves_l.getD (i).toNat (⟨0, 0, 0, 0, 0⟩ : Mv)).gFrom), .int .i64 ((c.gMoves_l.getD (i).toNat (⟨0, 0, 0, 0, 0⟩ : Mv)).gTo), .int .i64 ((c.gMoves_l.getD (i).toNat (⟨0, 0, 0, 0, 0⟩ : Mv)).gOn), .int .i64 ((c.gMoves_l.getD (i).toNat (⟨0, 0, 0, 0, 0⟩ : Mv)).gOff), .int .i64 ((c.gMoves_l.getD (i).toNat (⟨0, 0, 0, 0, 0⟩ : Mv)).gAfter)]) [.int .i64 ((c.gMoves_l.getD (i).toNat (⟨0, 0, 0, 0, 0⟩ : Mv)).gFrom), .int .i64 ((c.gMoves_l.getD (i).toNat (⟨0, 0, 0, 0, 0⟩ : Mv)).gTo), .int .i64 ((c.gMoves_l.getD (i).toNat (⟨0, 0, 0, 0, 0⟩ : Mv)).gOn), .int .i64 ((c.gMoves_l.getD (i).toNat (⟨0, 0, 0, 0, 0⟩ : Mv)).gOff), .int .i64 ((c.gMoves_l.getD (i).toNat (⟨0, 0, 0, 0, 0⟩ : Mv)).gAfter)] [box b2 [.int .i64 ((c.gMoves_l.getD (i).toNat (⟨0, 0, 0, 0, 0⟩ : Mv)).gFrom), .int .i64 ((c.gMoves_l.getD (i).toNat (⟨0, 0, 0, 0, 0⟩ : Mv)).gTo), .int .i64 ((c.gMoves_l.getD (i).toNat (⟨0, 0, 0, 0, 0⟩ : Mv)).gOn), .int .i64 ((c.gMoves_l.getD (i).toNat (⟨0, 0, 0, 0, 0⟩ : Mv)).gOff), .int .i64 ((c.gMoves_l.getD (i).toNat (⟨0, 0, 0, 0, 0⟩ : Mv)).gAfter)] 42, rowOf encI ad3 cd3 3 1 (deadL c), rowOf encI ad1 cd1 3 1 (reachL c), box bd4 [.slice ad1 ((reachL c).length) cd1] 26, box b1 [.slice c.gStates_a c.gStates_n c.gStates_c, .slice c.gInputs_a c.gInputs_n c.gInputs_c, .int .i64 c.gStart, .slice c.gMoves_a c.gMoves_n c.gMoves_c] 25] (by kernel_rfl) rfl (by kernel_rfl) (by kernel_rfl) rfl ?_
    intro w11 S11
    refine J.run 3 K8_18 [(9, .int .i64 i), (10, .pointer (some ⟨b2, 0, none⟩)), (52, .int .i64 i), (51, .int .i64 (c.gMoves_n : Int)), (50, .slice c.gMoves_a c.gMoves_n c.gMoves_c), (1, .slice la len cap), (2, .int .u8 which), (3, .pointer (some ⟨b1, 0, none⟩)), (7, .pointer (some ⟨bd4, 0, none⟩)), (8, .slice ad3 ((deadL c).length) cd3)] w11 (by kernel_rfl) ?_
    refine J.ok (OK.ldBox S11 3 57 26 0 (.slice ad1 ((reachL c).length) cd1) (by kernel_rfl) rfl (by kernel_rfl)) ?_
    refine J.run 1 K8_19 [(58, .pointer (some ⟨b2, 0, none⟩)), (57, .slice ad1 ((reachL c).length) cd1), (9, .int .i64 i), (52, .int .i64 i), (51, .int .i64 (c.gMoves_n : Int)), (50, .slice c.gMoves_a c.gMoves_n c.gMoves_c), (1, .slice la len cap), (2, .int .u8 which), (3, .pointer (some ⟨b1, 0, none⟩)), (7, .pointer (some ⟨bd4, 0, none⟩)), (8, .slice ad3 ((deadL c).length) cd3)] w11 (by kernel_rfl) ?_
    refine J.ok (OK.ldBox S11 0 59 3 0 (.int .i64 ((c.gMoves_l.getD (i).toNat (⟨0, 0, 0, 0, 0⟩ : Mv)).gFrom)) (by kernel_rfl) rfl (by kernel_rfl)) ?_
    have := rowOf_len (S11.nth 2 rfl)
    refine J.callF 60 27 #[.slice ad1 ((reachL c).length) cd1, .int .i64 ((c.gMoves_l.getD (i).toNat (⟨0, 0, 0, 0, 0⟩ : Mv)).gFrom)] hb27 (by kernel_rfl) (containsI ad1 ((reachL c).length) cd1 (reachL c) ((c.gMoves_l.getD (i).toNat (⟨0, 0, 0, 0, 0⟩ : Mv)).gFrom) _ ((row1_ones (S11.nth 2 rfl) ((reachL c).length) (by first | rfl | omega | simp))) (by first | omega | (simp; omega))) ?_
    rintro _ w12 ⟨rfl, T7⟩
    have S12 : Sep w [box b2 [.int .i64 ((c.gMoves_l.getD (i).toNat (⟨0, 0, 0, 0, 0⟩ : Mv)).gFrom), .int .i64 ((c.gMoves_l.getD (i).toNat (⟨0, 0, 0, 0, 0⟩ : Mv)).gTo), .int .i64 ((c.gMoves_l.getD (i).toNat (⟨0, 0, 0, 0, 0⟩ : Mv)).gOn), .int .i64 ((c.gMoves_l.getD (i).toNat (⟨0, 0, 0, 0, 0⟩ : Mv)).gOff), .int .i64 ((c.gMoves_l.getD (i).toNat (⟨0, 0, 0, 0, 0⟩ : Mv)).gAfter)] 42, rowOf encI ad3 cd3 3 1 (deadL c), rowOf encI ad1 cd1 3 1 (reachL c), box bd4 [.slice ad1 ((reachL c).length) cd1] 26, box b1 [.slice c.gStates_a c.gStates_n c.gStates_c, .slice c.gInputs_a c.gInputs_n c.gInputs_c, .int .i64 c.gStart, .slice c.gMoves_a c.gMoves_n c.gMoves_c] 25] w12 := S11.trans T7
    clear T7 S11
    refine J.run 2 K8_20 [(62, .bool (!(List.any (reachL c) fun y => decide (((c.gMoves_l.getD (i).toNat (⟨0, 0, 0, 0, 0⟩ : Mv)).gFrom) = y)))), (9, .int .i64 i), (52, .int .i64 i), (51, .int .i64 (c.gMoves_n : Int)), (50, .slice c.gMoves_a c.gMoves_n c.gMoves_c), (1, .slice la len cap), (2, .int .u8 which), (3, .pointer (some ⟨b1, 0, none⟩)), (7, .pointer (some ⟨bd4, 0, none⟩)), (8, .slice ad3 ((deadL c).length) cd3)] w12 (by kernel_rfl) ?_
    rcases Bool.eq_false_or_eq_true (List.any (reachL c) fun y => decide (((c.gMoves_l.getD (i).toNat (⟨0, 0, 0, 0, 0⟩ : Mv)).gFrom) = y)) with fk9 | fk9
    ·skip
     refine J.head (.bool false) (congrArg Value.bool (by rw [fk9]; rfl)) ?_
     refine J.run 11 K8_21 [(68, .int .i64 (IntKind.wrap .i64 (i + 1))), (51, .int .i64 (c.gMoves_n : Int)), (50, .slice c.gMoves_a c.gMoves_n c.gMoves_c), (1, .slice la len cap), (2, .int .u8 which), (3, .pointer (some ⟨b1, 0, none⟩)), (7, .pointer (some ⟨bd4, 0, none⟩)), (8, .slice ad3 ((deadL c).length) cd3)] w12 (by kernel_rfl) ?_
     refine J.head (.int .i64 (i + 1)) (congrArg (Value.int .i64) (IntWalk.i64_in _ (by omega))) ?_
     refine J.run 3 K8_14 [(52, .int .i64 (i + 1)), (51, .int .i64 (c.gMoves_n : Int)), (50, .slice c.gMoves_a c.gMoves_n c.gMoves_c), (1, .slice la len cap), (2, .int .u8 which), (3, .pointer (some ⟨b1, 0, none⟩)), (7, .pointer (some ⟨bd4, 0, none⟩)), (8, .slice ad3 ((deadL c).length) cd3)] w12 (by kernel_rfl) ?_
     have S13 : Sep w [rowOf encI ad3 cd3 3 1 (deadL c), rowOf encI ad1 cd1 3 1 (reachL c), box bd4 [.slice ad1 ((reachL c).length) cd1] 26, box b1 [.slice c.gStates_a c.gStates_n c.gStates_c, .slice c.gInputs_a c.gInputs_n c.gInputs_c, .int .i64 c.gStart, .slice c.gMoves_a c.gMoves_n c.gMoves_c] 25] w12 := S12.erase 0
     clear S12
     refine J.run 0 K8_14 [(52, .int .i64 (i + 1)), (51, .int .i64 (c.gMoves_n : Int)), (50, .slice c.gMoves_a c.gMoves_n c.gMoves_c), (1, .slice la len cap), (2, .int .u8 which), (3, .pointer (some ⟨b1, 0, none⟩)), (7, .pointer (some ⟨bd4, 0, none⟩)), (8, .slice ad3 ((deadL c).length) cd3)] w12 (by kernel_rfl) ?_
     exact ih1 _ (show ((c.gMoves_n : Int) - (i + 1)).toNat < mm1 from by omega) (i + 1) w12 (by omega) (by omega) S13 rfl
    refine J.head (.bool true) (congrArg Value.bool (by rw [fk9]; rfl)) ?_
    refine J.run 2 K8_22 [(64, .int .i64 i), (63, .slice ad3 ((deadL c).length) cd3), (62, .bool true), (52, .int .i64 i), (51, .int .i64 (c.gMoves_n : Int)), (50, .slice c.gMoves_a c.gMoves_n c.gMoves_c), (1, .slice la len cap), (2, .int .u8 which), (3, .pointer (some ⟨b1, 0, none⟩)), (7, .pointer (some ⟨bd4, 0, none⟩)), (8, .slice ad3 ((deadL c).length) cd3)] w12 (by kernel_rfl) ?_
    have := rowOf_len (S12.nth 1 rfl)
    refine J.callF 65 27 #[.slice ad3 ((deadL c).length) cd3, .int .i64 i] hb27 (by kernel_rfl) (containsI ad3 ((deadL c).length) cd3 (deadL c) i _ ((row1_ones (S12.nth 1 rfl) ((deadL c).length) (by first | rfl | omega | simp))) (by first | omega | (simp; omega))) ?_
    rintro _ w13 ⟨rfl, T8⟩
    have S14 : Sep w [box b2 [.int .i64 ((c.gMoves_l.getD (i).toNat (⟨0, 0, 0, 0, 0⟩ : Mv)).gFrom), .int .i64 ((c.gMoves_l.getD (i).toNat (⟨0, 0, 0, 0, 0⟩ : Mv)).gTo), .int .i64 ((c.gMoves_l.getD (i).toNat (⟨0, 0, 0, 0, 0⟩ : Mv)).gOn), .int .i64 ((c.gMoves_l.getD (i).toNat (⟨0, 0, 0, 0, 0⟩ : Mv)).gOff), .int .i64 ((c.gMoves_l.getD (i).toNat (⟨0, 0, 0, 0, 0⟩ : Mv)).gAfter)] 42, rowOf encI ad3 cd3 3 1 (deadL c), rowOf encI ad1 cd1 3 1 (reachL c), box bd4 [.slice ad1 ((reachL c).length) cd1] 26, box b1 [.slice c.gStates_a c.gStates_n c.gStates_c, .slice c.gInputs_a c.gInputs_n c.gInputs_c, .int .i64 c.gStart, .slice c.gMoves_a c.gMoves_n c.gMoves_c] 25] w13 := S12.trans T8
    clear T8 S12
    refine J.run 3 K8_23 [(67, .bool (!(List.any (deadL c) fun y => decide (i = y)))), (52, .int .i64 i), (51, .int .i64 (c.gMoves_n : Int)), (50, .slice c.gMoves_a c.gMoves_n c.gMoves_c), (1, .slice la len cap), (2, .int .u8 which), (3, .pointer (some ⟨b1, 0, none⟩)), (7, .pointer (some ⟨bd4, 0, none⟩)), (8, .slice ad3 ((deadL c).length) cd3)] w13 (by kernel_rfl) ?_
    have fk11 : (List.any (deadL c) fun y => decide (i = y)) = true := from_dead hv ql_ h0 (by omega) fk9
    refine J.head (.bool false) (congrArg Value.bool (by rw [fk11]; rfl)) ?_
    refine J.run 5 K8_24 [(68, .int .i64 (IntKind.wrap .i64 (i + 1))), (51, .int .i64 (c.gMoves_n : Int)), (50, .slice c.gMoves_a c.gMoves_n c.gMoves_c), (1, .slice la len cap), (2, .int .u8 which), (3, .pointer (some ⟨b1, 0, none⟩)), (7, .pointer (some ⟨bd4, 0, none⟩)), (8, .slice ad3 ((deadL c).length) cd3)] w13 (by kernel_rfl) ?_
    refine J.head (.int .i64 (i + 1)) (congrArg (Value.int .i64) (IntWalk.i64_in _ (by omega))) ?_
    refine J.run 3 K8_14 [(52, .int .i64 (i + 1)), (51, .int .i64 (c.gMoves_n : Int)), (50, .slice c.gMoves_a c.gMoves_n c.gMoves_c), (1, .slice la len cap), (2, .int .u8 which), (3, .pointer (some ⟨b1, 0, none⟩)), (7, .pointer (some ⟨bd4, 0, none⟩)), (8, .slice ad3 ((deadL c).length) cd3)] w13 (by kernel_rfl) ?_
    have S15 : Sep w [rowOf encI ad3 cd3 3 1 (deadL c), rowOf encI ad1 cd1 3 1 (reachL c), box bd4 [.slice ad1 ((reachL c).length) cd1] 26, box b1 [.slice c.gStates_a c.gStates_n c.gStates_c, .slice c.gInputs_a c.gInputs_n c.gInputs_c, .int .i64 c.gStart, .slice c.gMoves_a c.gMoves_n c.gMoves_c] 25] w13 := S14.erase 0
    clear S14
    refine J.run 0 K8_14 [(52, .int .i64 (i + 1)), (51, .int .i64 (c.gMoves_n : Int)), (50, .slice c.gMoves_a c.gMoves_n c.gMoves_c), (1, .slice la len cap), (2, .int .u8 which), (3, .pointer (some ⟨b1, 0, none⟩)), (7, .pointer (some ⟨bd4, 0, none⟩)), (8, .slice ad3 ((deadL c).length) cd3)] w13 (by kernel_rfl) ?_
    exact ih1 _ (show ((c.gMoves_n : Int) - (i + 1)).toNat < mm1 from by omega) (i + 1) w13 (by omega) (by omega) S15 rfl
   refine J.head (.bool false) (congrArg Value.bool (decide_eq_false fk8)) ?_
   refine J.run 4 K8_25 [(1, .slice la len cap), (2, .int .u8 which), (3, .pointer (some ⟨b1, 0, none⟩)), (7, .pointer (some ⟨bd4, 0, none⟩)), (8, .slice ad3 ((deadL c).length) cd3)] w9 (by kernel_rfl) ?_
   refine J.ok (OK.ldBox S9 3 70 25 0 (.agg #[.slice c.gStates_a c.gStates_n c.gStates_c, .slice c.gInputs_a c.gInputs_n c.gInputs_c, .int .i64 c.gStart, .slice c.gMoves_a c.gMoves_n c.gMoves_c]) (by kernel_rfl) rfl (by kernel_rfl)) ?_
   refine J.run 1 K8_26 [(71, .slice la len cap), (70, .agg #[.slice c.gStates_a c.gStates_n c.gStates_c, .slice c.gInputs_a c.gInputs_n c.gInputs_c, .int .i64 c.gStart, .slice c.gMoves_a c.gMoves_n c.gMoves_c]), (1, .slice la len cap), (2, .int .u8 which), (3, .pointer (some ⟨b1, 0, none⟩)), (7, .pointer (some ⟨bd4, 0, none⟩)), (8, .slice ad3 ((deadL c).length) cd3)] w9 (by kernel_rfl) ?_
   refine J.callF 72 11 #[.agg #[.slice c.gStates_a c.gStates_n c.gStates_c, .slice c.gInputs_a c.gInputs_n c.gInputs_c, .int .i64 c.gStart, .slice c.gMoves_a c.gMoves_n c.gMoves_c], .slice la len cap] hb11 (by kernel_rfl) (run_any c la len cap l _ (chtQ_sep hc S9) (hI.sep S9) (by first | omega | (simp; omega))) ?_
   rintro _ w14 ⟨ra1, rc1, rfl, T9⟩
   have S16 : Sep w [rowOf encI ra1 rc1 3 1 (runO c l), rowOf encI ad3 cd3 3 1 (deadL c), rowOf encI ad1 cd1 3 1 (reachL c), box bd4 [.slice ad1 ((reachL c).length) cd1] 26, box b1 [.slice c.gStates_a c.gStates_n c.gStates_c, .slice c.gInputs_a c.gInputs_n c.gInputs_c, .int .i64 c.gStart, .slice c.gMoves_a c.gMoves_n c.gMoves_c] 25] w14 := S9.trans T9
   clear T9 S9
   have := runE_bounds c l
   refine J.run 12 K8_27 [(76, .bool ((runE c l) != 0)), (11, .slice ra1 ((runO c l).length) rc1), (1, .slice la len cap), (2, .int .u8 which), (3, .pointer (some ⟨b1, 0, none⟩)), (7, .pointer (some ⟨bd4, 0, none⟩)), (8, .slice ad3 ((deadL c).length) cd3)] w14 (by kernel_rfl) ?_
   by_cases fk12 : (runE c l) = 0
   rotate_left
   ·skip
    refine J.head (.bool true) (congrArg Value.bool (bne_iff_ne.2 fk12)) ?_
    refine J.run 8 K8_42 [(6, .bool (((runO c l).length : Int) == 0))] w14 (by kernel_rfl) ?_
    refine J.ret Try.f8 [.bool (((runO c l).length : Int) == 0)] Try.func8 ⟨by kernel_rfl, trivial⟩ ?_
    refine hR _ _ ?_
    exact ⟨congrArg Value.bool (by rw [run_err (c := c) (l := l) rfl (by omega)]; rfl), S16.nil⟩
   refine J.head (.bool false) (congrArg Value.bool (bne_eq_false_iff_eq.2 fk12)) ?_
   refine J.run 7 K8_28 [(81, .func (.func 28) #[] #[.pointer (some ⟨bd4, 0, none⟩)]), (80, .slice ra1 ((runO c l).length) rc1), (11, .slice ra1 ((runO c l).length) rc1), (1, .slice la len cap), (2, .int .u8 which), (3, .pointer (some ⟨b1, 0, none⟩)), (8, .slice ad3 ((deadL c).length) cd3)] w14 (by kernel_rfl) ?_
   have := rowOf_len (S16.nth 0 rfl)
   have := rowOf_len (S16.nth 2 rfl)
   refine J.callF 82 25 #[.slice ra1 ((runO c l).length) rc1, .func (.func 28) #[] #[.pointer (some ⟨bd4, 0, none⟩)]] hb25 (by kernel_rfl) (containsI1 ra1 ((runO c l).length) rc1 (runO c l) 28 (.pointer (some ⟨bd4, 0, none⟩)) (fun s => !(List.any (reachL c) fun y => decide (s = y))) _ ((row1_ones (S16.nth 0 rfl) ((runO c l).length) (by first | rfl | omega | simp))) (by first | omega | (simp; omega)) hb28 (fun i_ w_ hi_ S_ => dead2_any ad1 ((reachL c).length) cd1 (reachL c) bd4 _ w_ ((row1_ones (S16.nth 2 rfl) ((reachL c).length) (by first | rfl | omega | simp)).sep S_) (by omega) (box_keep (S16.nth 3 rfl) S_))) ?_
   rintro _ w15 ⟨rfl, T10⟩
   have S17 : Sep w [rowOf encI ra1 rc1 3 1 (runO c l), rowOf encI ad3 cd3 3 1 (deadL c), rowOf encI ad1 cd1 3 1 (reachL c), box bd4 [.slice ad1 ((reachL c).length) cd1] 26, box b1 [.slice c.gStates_a c.gStates_n c.gStates_c, .slice c.gInputs_a c.gInputs_n c.gInputs_c, .int .i64 c.gStart, .slice c.gMoves_a c.gMoves_n c.gMoves_c] 25] w15 := S16.trans T10
   clear T10 S16
   refine J.run 1 K8_29 [(82, .bool (List.any (runO c l) (fun s => !(List.any (reachL c) fun y => decide (s = y))))), (11, .slice ra1 ((runO c l).length) rc1), (1, .slice la len cap), (2, .int .u8 which), (3, .pointer (some ⟨b1, 0, none⟩)), (8, .slice ad3 ((deadL c).length) cd3)] w15 (by kernel_rfl) ?_
   have fk14 : (List.any (runO c l) (fun s => !(List.any (reachL c) fun y => decide (s = y)))) = false := run_reach fk12
   refine J.head (.bool false) (congrArg Value.bool fk14) ?_
   refine J.run 9 K8_30 [(85, .bool (((deadL c).length : Int) == 0)), (11, .slice ra1 ((runO c l).length) rc1), (1, .slice la len cap), (2, .int .u8 which), (3, .pointer (some ⟨b1, 0, none⟩)), (8, .slice ad3 ((deadL c).length) cd3)] w15 (by kernel_rfl) ?_
   by_cases fk15 : ((deadL c).length : Int) = 0
   ·skip
    refine J.head (.bool true) (congrArg Value.bool (beq_iff_eq.2 fk15)) ?_
    refine J.run 5 K8_31 [(6, .bool true)] w15 (by kernel_rfl) ?_
    refine J.ret Try.f8 [.bool true] Try.func8 ⟨by kernel_rfl, trivial⟩ ?_
    refine hR _ _ ?_
    exact ⟨rfl, S17.nil⟩
   refine J.head (.bool false) (congrArg Value.bool (beq_eq_false_iff_ne.2 fk15)) ?_
   refine J.run 7 K8_32 [(88, .int .i64 (IntKind.wrap .i64 which)), (86, .slice ad3 ((deadL c).length) cd3), (11, .slice ra1 ((runO c l).length) rc1), (1, .slice la len cap), (3, .pointer (some ⟨b1, 0, none⟩)), (8, .slice ad3 ((deadL c).length) cd3)] w15 (by kernel_rfl) ?_
   refine J.head (.int .i64 which) (congrArg (Value.int .i64) (IntWalk.i64_in _ (by omega))) ?_
   refine J.run 2 K8_33 [(90, .int .i64 ((deadL c).length : Int)), (88, .int .i64 which), (86, .slice ad3 ((deadL c).length) cd3), (11, .slice ra1 ((runO c l).length) rc1), (1, .slice la len cap), (3, .pointer (some ⟨b1, 0, none⟩))] w15 (by kernel_rfl) ?_
   refine J.ok (OK.rem 91 .i64 which ((deadL c).length : Int) (by kernel_rfl) (by omega)) ?_
   have hm1 := Int.emod_nonneg which (show ((deadL c).length : Int) ≠ 0 by omega)
   have hm2 := Int.emod_lt_of_pos which (show 0 < ((deadL c).length : Int) by omega)
   refine J.head (.int .i64 (which % ((deadL c).length : Int))) (congrArg (Value.int .i64) (IntWalk.rem_in _ _ (by omega))) ?_
   obtain ⟨p2, hp2⟩ := row1_addr (S17.nth 1 rfl) (show 0 < (deadL c).length by first | omega | (simp; omega))
   refine J.ok (OK.index 92 26 1 ad3 p2 ((deadL c).length) (which % ((deadL c).length : Int)).toNat (which % ((deadL c).length : Int)) (p2.add (which % ((deadL c).length : Int)).toNat) (by kernel_rfl) (by kernel_rfl) hp2 (by omega) (by first | omega | (simp; omega)) (by rw [Nat.mul_one])) ?_
   refine J.ok (OK.ldCell 93 3 (p2.add (which % ((deadL c).length : Int)).toNat) (.int .i64 ((deadL c).getD (which % ((deadL c).length : Int)).toNat 0)) (by kernel_rfl) (by kernel_rfl) (row1_cell (g := (Value.int .i64)) S17 1 rfl hp2 0 (which % ((deadL c).length : Int)).toNat (by first | omega | (simp; omega)))) ?_
   refine J.run 1 K8_34 [(13, .int .i64 ((deadL c).getD (which % ((deadL c).length : Int)).toNat 0)), (11, .slice ra1 ((runO c l).length) rc1), (1, .slice la len cap), (3, .pointer (some ⟨b1, 0, none⟩))] w15 (by kernel_rfl) ?_
   obtain ⟨d, hd⟩ : ∃ x : Int, x = (deadL c).getD (which % ((deadL c).length : Int)).toNat 0 := ⟨_, rfl⟩
   refine J.head (.int .i64 d) (congrArg (Value.int .i64) hd.symm) ?_
   have hdm := (dead_mem hv).1 (show d ∈ deadL c by rw [hd]; exact getD_mem 0 (by omega))
   refine J.run 3 K8_35 [(13, .int .i64 d), (11, .slice ra1 ((runO c l).length) rc1), (1, .slice la len cap), (3, .pointer (some ⟨b1, 0, none⟩))] w15 (by kernel_rfl) ?_
   refine J.ok (OK.ldBox S17 4 94 25 0 (.agg #[.slice c.gStates_a c.gStates_n c.gStates_c, .slice c.gInputs_a c.gInputs_n c.gInputs_c, .int .i64 c.gStart, .slice c.gMoves_a c.gMoves_n c.gMoves_c]) (by kernel_rfl) rfl (by kernel_rfl)) ?_
   refine J.new S17 14 [.slice none 0 0, .slice none 0 0, .int .i64 0, .slice none 0 0] 25 (by kernel_rfl) ?_
   intro b3 w16 S18
   refine J.stBox S18 0 25 0 (.agg #[.slice c.gStates_a c.gStates_n c.gStates_c, .slice c.gInputs_a c.gInputs_n c.gInputs_c, .int .i64 c.gStart, .slice c.gMoves_a c.gMoves_n c.gMoves_c]) [.slice c.gStates_a c.gStates_n c.gStates_c, .slice c.gInputs_a c.gInputs_n c.gInputs_c, .int .i64 c.gStart, .slice c.gMoves_a c.gMoves_n c.gMoves_c] [box b3 [.slice c.gStates_a c.gStates_n c.gStates_c, .slice c.gInputs_a c.gInputs_n c.gInputs_c, .int .i64 c.gStart, .slice c.gMoves_a c.gMoves_n c.gMoves_c] 25, rowOf encI ra1 rc1 3 1 (runO c l), rowOf encI ad3 cd3 3 1 (deadL c), rowOf encI ad1 cd1 3 1 (reachL c), box bd4 [.slice ad1 ((reachL c).length) cd1] 26, box b1 [.slice c.gStates_a c.gStates_n c.gStates_c, .slice c.gInputs_a c.gInputs_n c.gInputs_c, .int .i64 c.gStart, .slice c.gMoves_a c.gMoves_n c.gMoves_c] 25] (by kernel_rfl) rfl (by kernel_rfl) (by kernel_rfl) rfl ?_
   intro w17 S19
   refine J.run 2 K8_36 [(14, .pointer (some ⟨b3, 0, none⟩)), (13, .int .i64 d), (11, .slice ra1 ((runO c l).length) rc1), (1, .slice la len cap), (3, .pointer (some ⟨b1, 0, none⟩))] w17 (by kernel_rfl) ?_
   refine J.drawPlan (fun w_ => Sep w [rowOf encI ra1 rc1 3 1 (runO c l), rowOf encI ad3 cd3 3 1 (deadL c), rowOf encI ad1 cd1 3 1 (reachL c), box bd4 [.slice ad1 ((reachL c).length) cd1] 26, box b1 [.slice c.gStates_a c.gStates_n c.gStates_c, .slice c.gInputs_a c.gInputs_n c.gInputs_c, .int .i64 c.gStart, .slice c.gMoves_a c.gMoves_n c.gMoves_c] 25] w_) [(0, true), (1, true), (2, true), (3, true), (4, true), (5, true), (6, true), (7, true), (8, true), (9, false), (10, false), (11, true), (12, false)] S19 Try.mixed (by kernel_rfl) (planOK_of (T := [(0, some 95, 8), (1, some 96, 39614081257132168796771975168), (0, some 97, 8192), (6, some 98, 237684487542793012780631851008), (0, some 99, 8), (16, some 100, 633825300114114700748351602688), (0, some 101, 8192), (64, some 102, 2535301200456458802993406410752), (160, some 103, 6338253001141147007483516026880), (264, some 104, 10458117451882892562347801444352), (512, some 105, 20282409603651670423947251286016), (2047, some 106, 16384), (4095, none, 121694457621910022543683507716096)]) (by kernel_rfl) (by kernel_rfl)) ?_
   intro w18 S20
   refine PB.mk (S20.erase 0) ?_
   refine PL.take 0 95 (.pointer (some ⟨b1, 3, none⟩)) (fun _ _ => by kernel_rfl) ?_
   refine PL.takeOK 1 (fun w_ S_ => OK.ldBox S_ 4 96 23 3 (.slice c.gMoves_a c.gMoves_n c.gMoves_c) (by kernel_rfl) rfl (by kernel_rfl)) rfl ?_
   refine PL.take 2 97 (.int .i64 d) (fun _ _ => by kernel_rfl) ?_
   refine PL.takeOK 3 (fun w_ S_ => OK.slice 98 23 5 c.gMoves_a c.gMoves_n c.gMoves_c none (some (.int .i64 d)) 0 ((d).toNat) (by kernel_rfl) (by kernel_rfl) (.inl ⟨rfl, rfl⟩) (.inr ⟨_, _, rfl, by omega⟩) (by first | omega | (simp; omega)) (by first | omega | (simp; omega))) rfl ?_
   refine PL.head (.slice c.gMoves_a ((d).toNat) c.gMoves_c) (by rw [subA_zero]; try rfl) ?_
   refine PL.take 4 99 (.pointer (some ⟨b1, 3, none⟩)) (fun _ _ => by kernel_rfl) ?_
   refine PL.takeOK 5 (fun w_ S_ => OK.ldBox S_ 4 100 23 3 (.slice c.gMoves_a c.gMoves_n c.gMoves_c) (by kernel_rfl) rfl (by kernel_rfl)) rfl ?_
   refine PL.take 6 101 (.int .i64 d) (fun _ _ => by kernel_rfl) ?_
   refine PL.take 7 102 (.int .i64 (IntKind.wrap .i64 (d + 1))) (fun _ _ => by kernel_rfl) ?_
   refine PL.head (.int .i64 (d + 1)) (congrArg (Value.int .i64) (IntWalk.i64_in _ (by omega))) ?_
   refine PL.takeOK 8 (fun w_ S_ => OK.slice 103 23 5 c.gMoves_a c.gMoves_n c.gMoves_c (some (.int .i64 (d + 1))) none ((d + 1).toNat) c.gMoves_n (by kernel_rfl) (by kernel_rfl) (.inr ⟨_, _, rfl, by omega⟩) (.inl ⟨rfl, rfl⟩) (by first | omega | (simp; omega)) (by first | omega | (simp; omega))) rfl ?_
   refine PL.newSlice S20 104 2 [.slice c.gMoves_a ((d).toNat) c.gMoves_c, .slice (subA c.gMoves_a c.gMoves_c ((d + 1).toNat) 5) (c.gMoves_n - ((d + 1).toNat)) (c.gMoves_c - ((d + 1).toNat))] 23 (by kernel_rfl) ?_
   intro b4 w19 S21
   refine PB.mk ((S21.erase 1).erase 0) ?_
   refine PL.callF 105 29 #[.slice (some ⟨b4, 0, none⟩) 2 2] hb29 (by kernel_rfl) (concat_any c.gMoves_a ((d).toNat) c.gMoves_c (c.gMoves_l.take d.toNat) (subA c.gMoves_a c.gMoves_c ((d + 1).toNat) 5) (c.gMoves_n - ((d + 1).toNat)) (c.gMoves_c - ((d + 1).toNat)) (c.gMoves_l.drop (d + 1).toNat) b4 _ ((q9.sep S21).take _ (by omega)) (recs_drop (q9.sep S21) _ _ (by omega) (by omega)) (by omega) (S21.nth 0 rfl)) ?_
   rintro _ w20 ⟨ra2, rc2, rfl, T11⟩
   have S22 : Sep w [rowOf mvE ra2 rc2 42 5 (c.gMoves_l.take d.toNat ++ c.gMoves_l.drop (d + 1).toNat), box b4 [.slice c.gMoves_a ((d).toNat) c.gMoves_c, .slice (subA c.gMoves_a c.gMoves_c ((d + 1).toNat) 5) (c.gMoves_n - ((d + 1).toNat)) (c.gMoves_c - ((d + 1).toNat))] 23, box b3 [.slice c.gStates_a c.gStates_n c.gStates_c, .slice c.gInputs_a c.gInputs_n c.gInputs_c, .int .i64 c.gStart, .slice c.gMoves_a c.gMoves_n c.gMoves_c] 25, rowOf encI ra1 rc1 3 1 (runO c l), rowOf encI ad3 cd3 3 1 (deadL c), rowOf encI ad1 cd1 3 1 (reachL c), box bd4 [.slice ad1 ((reachL c).length) cd1] 26, box b1 [.slice c.gStates_a c.gStates_n c.gStates_c, .slice c.gInputs_a c.gInputs_n c.gInputs_c, .int .i64 c.gStart, .slice c.gMoves_a c.gMoves_n c.gMoves_c] 25] w20 := S21.trans T11
   clear T11 S21
   refine PB.mk (((S22.erase 2).erase 1).erase 0) ?_
   refine PL.take 11 106 (.pointer (some ⟨b3, 3, none⟩)) (fun _ _ => by kernel_rfl) ?_
   refine PL.stBox S22 2 23 3 (.slice ra2 ((c.gMoves_l.take d.toNat ++ c.gMoves_l.drop (d + 1).toNat).length) rc2) [.slice c.gStates_a c.gStates_n c.gStates_c, .slice c.gInputs_a c.gInputs_n c.gInputs_c, .int .i64 c.gStart, .slice ra2 ((c.gMoves_l.take d.toNat ++ c.gMoves_l.drop (d + 1).toNat).length) rc2] [rowOf mvE ra2 rc2 42 5 (c.gMoves_l.take d.toNat ++ c.gMoves_l.drop (d + 1).toNat), box b4 [.slice c.gMoves_a ((d).toNat) c.gMoves_c, .slice (subA c.gMoves_a c.gMoves_c ((d + 1).toNat) 5) (c.gMoves_n - ((d + 1).toNat)) (c.gMoves_c - ((d + 1).toNat))] 23, box b3 [.slice c.gStates_a c.gStates_n c.gStates_c, .slice c.gInputs_a c.gInputs_n c.gInputs_c, .int .i64 c.gStart, .slice ra2 ((c.gMoves_l.take d.toNat ++ c.gMoves_l.drop (d + 1).toNat).length) rc2] 25, rowOf encI ra1 rc1 3 1 (runO c l), rowOf encI ad3 cd3 3 1 (deadL c), rowOf encI ad1 cd1 3 1 (reachL c), box bd4 [.slice ad1 ((reachL c).length) cd1] 26, box b1 [.slice c.gStates_a c.gStates_n c.gStates_c, .slice c.gInputs_a c.gInputs_n c.gInputs_c, .int .i64 c.gStart, .slice c.gMoves_a c.gMoves_n c.gMoves_c] 25] (by kernel_rfl) rfl (by kernel_rfl) (by kernel_rfl) rfl ?_
   intro w21 S23
   refine PB.mk (((S23.erase 2).erase 1).erase 0) ?_
   refine PL.done ?_
   refine J.run 0 (rRest K8_36) [(14, .pointer (some ⟨b3, 0, none⟩)), (11, .slice ra1 ((runO c l).length) rc1), (1, .slice la len cap)] w21 (by kernel_rfl) ?_
   refine J.run 2 K8_37 [(14, .pointer (some ⟨b3, 0, none⟩)), (11, .slice ra1 ((runO c l).length) rc1), (1, .slice la len cap)] w21 (by kernel_rfl) ?_
   refine J.ok (OK.ldBox S23 2 108 25 0 (.agg #[.slice c.gStates_a c.gStates_n c.gStates_c, .slice c.gInputs_a c.gInputs_n c.gInputs_c, .int .i64 c.gStart, .slice ra2 ((c.gMoves_l.take d.toNat ++ c.gMoves_l.drop (d + 1).toNat).length) rc2]) (by kernel_rfl) rfl (by kernel_rfl)) ?_
   refine J.run 1 K8_38 [(109, .slice la len cap), (108, .agg #[.slice c.gStates_a c.gStates_n c.gStates_c, .slice c.gInputs_a c.gInputs_n c.gInputs_c, .int .i64 c.gStart, .slice ra2 ((c.gMoves_l.take d.toNat ++ c.gMoves_l.drop (d + 1).toNat).length) rc2]), (11, .slice ra1 ((runO c l).length) rc1)] w21 (by kernel_rfl) ?_
   refine J.callF 110 11 #[.agg #[.slice c.gStates_a c.gStates_n c.gStates_c, .slice c.gInputs_a c.gInputs_n c.gInputs_c, .int .i64 c.gStart, .slice ra2 ((c.gMoves_l.take d.toNat ++ c.gMoves_l.drop (d + 1).toNat).length) rc2], .slice la len cap] hb11 (by kernel_rfl) (run_any (othC c ra2 rc2 d.toNat (d + 1).toNat) la len cap l _ (oth_q (chtQ_sep hc S23) (S23.nth 0 rfl)) (hI.sep S23) (by first | omega | (simp; omega))) ?_
   rintro _ w22 ⟨ra3, rc3, rfl, T12⟩
   have S24 : Sep w [rowOf encI ra3 rc3 3 1 (runO (othC c ra2 rc2 d.toNat (d + 1).toNat) l), rowOf mvE ra2 rc2 42 5 (c.gMoves_l.take d.toNat ++ c.gMoves_l.drop (d + 1).toNat), box b4 [.slice c.gMoves_a ((d).toNat) c.gMoves_c, .slice (subA c.gMoves_a c.gMoves_c ((d + 1).toNat) 5) (c.gMoves_n - ((d + 1).toNat)) (c.gMoves_c - ((d + 1).toNat))] 23, box b3 [.slice c.gStates_a c.gStates_n c.gStates_c, .slice c.gInputs_a c.gInputs_n c.gInputs_c, .int .i64 c.gStart, .slice ra2 ((c.gMoves_l.take d.toNat ++ c.gMoves_l.drop (d + 1).toNat).length) rc2] 25, rowOf encI ra1 rc1 3 1 (runO c l), rowOf encI ad3 cd3 3 1 (deadL c), rowOf encI ad1 cd1 3 1 (reachL c), box bd4 [.slice ad1 ((reachL c).length) cd1] 26, box b1 [.slice c.gStates_a c.gStates_n c.gStates_c, .slice c.gInputs_a c.gInputs_n c.gInputs_c, .int .i64 c.gStart, .slice c.gMoves_a c.gMoves_n c.gMoves_c] 25] w22 := S23.trans T12
   clear T12 S23
   have := runE_bounds (othC c ra2 rc2 d.toNat (d + 1).toNat) l
   refine J.run 11 K8_39 [(115, .bool ((runE (othC c ra2 rc2 d.toNat (d + 1).toNat) l) == 0)), (15, .slice ra3 ((runO (othC c ra2 rc2 d.toNat (d + 1).toNat) l).length) rc3), (11, .slice ra1 ((runO c l).length) rc1)] w22 (by kernel_rfl) ?_
   have fk17 : (runE (othC c ra2 rc2 d.toNat (d + 1).toNat) l) = 0 := (oth_run ql_ hdm.1 hdm.2.1 hdm.2.2 fk12).1
   refine J.head (.bool true) (congrArg Value.bool (beq_iff_eq.2 fk17)) ?_
   refine J.run 2 K8_40 [(117, .slice ra3 ((runO (othC c ra2 rc2 d.toNat (d + 1).toNat) l).length) rc3), (116, .slice ra1 ((runO c l).length) rc1), (115, .bool true)] w22 (by kernel_rfl) ?_
   have := rowOf_len (S24.nth 4 rfl)
   have := rowOf_len (S24.nth 0 rfl)
   refine J.callF 118 13 #[.slice ra1 ((runO c l).length) rc1, .slice ra3 ((runO (othC c ra2 rc2 d.toNat (d + 1).toNat) l).length) rc3] hb13 (by kernel_rfl) (equal_any ra1 ((runO c l).length) rc1 (runO c l) ra3 ((runO (othC c ra2 rc2 d.toNat (d + 1).toNat) l).length) rc3 (runO (othC c ra2 rc2 d.toNat (d + 1).toNat) l) _ ((row1_ones (S24.nth 4 rfl) ((runO c l).length) (by first | rfl | omega | simp))) ((row1_ones (S24.nth 0 rfl) ((runO (othC c ra2 rc2 d.toNat (d + 1).toNat) l).length) (by first | rfl | omega | simp))) (by first | omega | (simp; omega))) ?_
   rintro _ w23 ⟨rfl, T13⟩
   have S25 : Sep w [rowOf encI ra3 rc3 3 1 (runO (othC c ra2 rc2 d.toNat (d + 1).toNat) l), rowOf mvE ra2 rc2 42 5 (c.gMoves_l.take d.toNat ++ c.gMoves_l.drop (d + 1).toNat), box b4 [.slice c.gMoves_a ((d).toNat) c.gMoves_c, .slice (subA c.gMoves_a c.gMoves_c ((d + 1).toNat) 5) (c.gMoves_n - ((d + 1).toNat)) (c.gMoves_c - ((d + 1).toNat))] 23, box b3 [.slice c.gStates_a c.gStates_n c.gStates_c, .slice c.gInputs_a c.gInputs_n c.gInputs_c, .int .i64 c.gStart, .slice ra2 ((c.gMoves_l.take d.toNat ++ c.gMoves_l.drop (d + 1).toNat).length) rc2] 25, rowOf encI ra1 rc1 3 1 (runO c l), rowOf encI ad3 cd3 3 1 (deadL c), rowOf encI ad1 cd1 3 1 (reachL c), box bd4 [.slice ad1 ((reachL c).length) cd1] 26, box b1 [.slice c.gStates_a c.gStates_n c.gStates_c, .slice c.gInputs_a c.gInputs_n c.gInputs_c, .int .i64 c.gStart, .slice c.gMoves_a c.gMoves_n c.gMoves_c] 25] w23 := S24.trans T13
   clear T13 S24
   refine J.run 3 K8_41 [(6, .bool ((runO c l) == (runO (othC c ra2 rc2 d.toNat (d + 1).toNat) l)))] w23 (by kernel_rfl) ?_
   refine J.ret Try.f8 [.bool ((runO c l) == (runO (othC c ra2 rc2 d.toNat (d + 1).toNat) l))] Try.func8 ⟨by kernel_rfl, trivial⟩ ?_
   refine hR _ _ ?_
   exact ⟨congrArg Value.bool (by rw [(oth_run ql_ hdm.1 hdm.2.1 hdm.2.2 fk12).2]; exact beq_self_eq_true _), S25.nil⟩
  exact L8_1 _ 0 w8 (by omega) (by omega) S8 rfl
 have W2 : ∀ (bd4 : Nat) (ad1 : Option Addr) (cd1 : Nat) (ad3 : Option Addr) (cd3 : Nat) (w24 : World), Sep w [rowOf encI ad3 cd3 3 1 (deadL c), rowOf encI ad1 cd1 3 1 (reachL c), box bd4 [.slice none 0 0] 26, box b1 [.slice c.gStates_a c.gStates_n c.gStates_c, .slice c.gInputs_a c.gInputs_n c.gInputs_c, .int .i64 c.gStart, .slice c.gMoves_a c.gMoves_n c.gMoves_c] 25] w24 → WA Try.prog 8 120 R K8_8 (fun w_ => Sep w [box b1 [.slice c.gStates_a c.gStates_n c.gStates_c, .slice c.gInputs_a c.gInputs_n c.gInputs_c, .int .i64 c.gStart, .slice c.gMoves_a c.gMoves_n c.gMoves_c] 25] w_) 2 #[true, true, true, true, true, false, false] [(1, .slice la len cap), (2, .int .u8 which), (3, .pointer (some ⟨b1, 0, none⟩)), (7, .pointer (some ⟨bd4, 0, none⟩)), (36, .slice ad1 ((reachL c).length) cd1), (38, .slice ad3 ((deadL c).length) cd3)] w24 := by
  intro bd4 ad1 cd1 ad3 cd3 w24 S26
  refine WA.all [5] (by kernel_rfl) rfl ⟨?_, trivial⟩
  refine WO.set #[true, true, true, true, true, true, false] (by kernel_rfl) ?_
  refine WO.stBox S26 2 26 0 (.slice ad1 ((reachL c).length) cd1) [.slice ad1 ((reachL c).length) cd1] [rowOf encI ad3 cd3 3 1 (deadL c), rowOf encI ad1 cd1 3 1 (reachL c), box bd4 [.slice ad1 ((reachL c).length) cd1] 26, box b1 [.slice c.gStates_a c.gStates_n c.gStates_c, .slice c.gInputs_a c.gInputs_n c.gInputs_c, .int .i64 c.gStart, .slice c.gMoves_a c.gMoves_n c.gMoves_c] 25] (by kernel_rfl) rfl (by kernel_rfl) (by kernel_rfl) rfl ?_
  intro w25 S27
  refine WB.mk (((S27.erase 2).erase 1).erase 0) ?_
  refine WA.take 6 8 (.slice ad3 ((deadL c).length) cd3) #[true, true, true, true, true, true, true] (by kernel_rfl) (by kernel_rfl) (by kernel_rfl) (fun _ _ => by kernel_rfl) (by kernel_rfl) ?_
  refine WA.weaken (env' := [(1, .slice la len cap), (2, .int .u8 which), (3, .pointer (some ⟨b1, 0, none⟩)), (7, .pointer (some ⟨bd4, 0, none⟩)), (8, .slice ad3 ((deadL c).length) cd3)]) (by kernel_rfl) ?_
  exact W1 bd4 ad1 cd1 ad3 cd3 w25 S27
 have W3 : ∀ (bd4 : Nat) (ad1 : Option Addr) (cd1 : Nat) (w26 : World), Sep w [rowOf encI ad1 cd1 3 1 (reachL c), box bd4 [.slice none 0 0] 26, box b1 [.slice c.gStates_a c.gStates_n c.gStates_c, .slice c.gInputs_a c.gInputs_n c.gInputs_c, .int .i64 c.gStart, .slice c.gMoves_a c.gMoves_n c.gMoves_c] 25] w26 → WA Try.prog 8 120 R K8_8 (fun w_ => Sep w [box b1 [.slice c.gStates_a c.gStates_n c.gStates_c, .slice c.gInputs_a c.gInputs_n c.gInputs_c, .int .i64 c.gStart, .slice c.gMoves_a c.gMoves_n c.gMoves_c] 25] w_) 3 #[true, true, true, false, true, false, false] [(1, .slice la len cap), (2, .int .u8 which), (3, .pointer (some ⟨b1, 0, none⟩)), (7, .pointer (some ⟨bd4, 0, none⟩)), (36, .slice ad1 ((reachL c).length) cd1), (37, .agg #[.slice c.gStates_a c.gStates_n c.gStates_c, .slice c.gInputs_a c.gInputs_n c.gInputs_c, .int .i64 c.gStart, .slice c.gMoves_a c.gMoves_n c.gMoves_c])] w26 := by
  intro bd4 ad1 cd1 w26 S28
  refine WA.all [3] (by kernel_rfl) rfl ⟨?_, trivial⟩
  refine WO.set #[true, true, true, true, true, false, false] (by kernel_rfl) ?_
  refine WO.callF 38 23 #[.agg #[.slice c.gStates_a c.gStates_n c.gStates_c, .slice c.gInputs_a c.gInputs_n c.gInputs_c, .int .i64 c.gStart, .slice c.gMoves_a c.gMoves_n c.gMoves_c]] hb23 (by kernel_rfl) (dead_any c _ (chtQ_sep hc S28)) ?_
  rintro _ w27 ⟨ad3, cd3, rfl, T14⟩
  have S29 : Sep w [rowOf encI ad3 cd3 3 1 (deadL c), rowOf encI ad1 cd1 3 1 (reachL c), box bd4 [.slice none 0 0] 26, box b1 [.slice c.gStates_a c.gStates_n c.gStates_c, .slice c.gInputs_a c.gInputs_n c.gInputs_c, .int .i64 c.gStart, .slice c.gMoves_a c.gMoves_n c.gMoves_c] 25] w27 := S28.trans T14
  clear T14 S28
  refine WB.mk (((S29.erase 2).erase 1).erase 0) ?_
  refine WA.weaken (env' := [(1, .slice la len cap), (2, .int .u8 which), (3, .pointer (some ⟨b1, 0, none⟩)), (7, .pointer (some ⟨bd4, 0, none⟩)), (36, .slice ad1 ((reachL c).length) cd1), (38, .slice ad3 ((deadL c).length) cd3)]) (by kernel_rfl) ?_
  exact W2 bd4 ad1 cd1 ad3 cd3 w27 S29
 have W4 : ∀ (ad1 : Option Addr) (cd1 : Nat) (ad3 : Option Addr) (cd3 : Nat) (w28 : World), Sep w [rowOf encI ad3 cd3 3 1 (deadL c), rowOf encI ad1 cd1 3 1 (reachL c), box b1 [.slice c.gStates_a c.gStates_n c.gStates_c, .slice c.gInputs_a c.gInputs_n c.gInputs_c, .int .i64 c.gStart, .slice c.gMoves_a c.gMoves_n c.gMoves_c] 25] w28 → WA Try.prog 8 120 R K8_8 (fun w_ => Sep w [box b1 [.slice c.gStates_a c.gStates_n c.gStates_c, .slice c.gInputs_a c.gInputs_n c.gInputs_c, .int .i64 c.gStart, .slice c.gMoves_a c.gMoves_n c.gMoves_c] 25] w_) 3 #[true, true, true, true, false, false, false] [(1, .slice la len cap), (2, .int .u8 which), (3, .pointer (some ⟨b1, 0, none⟩)), (36, .slice ad1 ((reachL c).length) cd1), (38, .slice ad3 ((deadL c).length) cd3)] w28 := by
  intro ad1 cd1 ad3 cd3 w28 S30
  refine WA.all [4] (by kernel_rfl) rfl ⟨?_, trivial⟩
  refine WO.set #[true, true, true, true, true, false, false] (by kernel_rfl) ?_
  refine WO.new S30 7 [.slice none 0 0] 26 (by kernel_rfl) ?_
  intro bd4 w29 S31
  refine WB.mk (((S31.erase 2).erase 1).erase 0) ?_
  refine WA.weaken (env' := [(1, .slice la len cap), (2, .int .u8 which), (3, .pointer (some ⟨b1, 0, none⟩)), (7, .pointer (some ⟨bd4, 0, none⟩)), (36, .slice ad1 ((reachL c).length) cd1), (38, .slice ad3 ((deadL c).length) cd3)]) (by kernel_rfl) ?_
  have S32 : Sep w [box bd4 [.slice none 0 0] 26, rowOf encI ad3 cd3 3 1 (deadL c), rowOf encI ad1 cd1 3 1 (reachL c), box b1 [.slice c.gStates_a c.gStates_n c.gStates_c, .slice c.gInputs_a c.gInputs_n c.gInputs_c, .int .i64 c.gStart, .slice c.gMoves_a c.gMoves_n c.gMoves_c] 25] w29 := S31.front 0 rfl
  have S33 : Sep w [rowOf encI ad1 cd1 3 1 (reachL c), box bd4 [.slice none 0 0] 26, rowOf encI ad3 cd3 3 1 (deadL c), box b1 [.slice c.gStates_a c.gStates_n c.gStates_c, .slice c.gInputs_a c.gInputs_n c.gInputs_c, .int .i64 c.gStart, .slice c.gMoves_a c.gMoves_n c.gMoves_c] 25] w29 := S32.front 2 rfl
  have S34 : Sep w [rowOf encI ad3 cd3 3 1 (deadL c), rowOf encI ad1 cd1 3 1 (reachL c), box bd4 [.slice none 0 0] 26, box b1 [.slice c.gStates_a c.gStates_n c.gStates_c, .slice c.gInputs_a c.gInputs_n c.gInputs_c, .int .i64 c.gStart, .slice c.gMoves_a c.gMoves_n c.gMoves_c] 25] w29 := S33.front 2 rfl
  exact W2 bd4 ad1 cd1 ad3 cd3 w29 S34
 have W5 : ∀ (ad1 : Option Addr) (cd1 : Nat) (w30 : World), Sep w [rowOf encI ad1 cd1 3 1 (reachL c), box b1 [.slice c.gStates_a c.gStates_n c.gStates_c, .slice c.gInputs_a c.gInputs_n c.gInputs_c, .int .i64 c.gStart, .slice c.gMoves_a c.gMoves_n c.gMoves_c] 25] w30 → WA Try.prog 8 120 R K8_8 (fun w_ => Sep w [box b1 [.slice c.gStates_a c.gStates_n c.gStates_c, .slice c.gInputs_a c.gInputs_n c.gInputs_c, .int .i64 c.gStart, .slice c.gMoves_a c.gMoves_n c.gMoves_c] 25] w_) 4 #[true, true, true, false, false, false, false] [(1, .slice la len cap), (2, .int .u8 which), (3, .pointer (some ⟨b1, 0, none⟩)), (36, .slice ad1 ((reachL c).length) cd1), (37, .agg #[.slice c.gStates_a c.gStates_n c.gStates_c, .slice c.gInputs_a c.gInputs_n c.gInputs_c, .int .i64 c.gStart, .slice c.gMoves_a c.gMoves_n c.gMoves_c])] w30 := by
  intro ad1 cd1 w30 S35
  refine WA.all [3, 4] (by kernel_rfl) rfl ⟨?_, ?_, trivial⟩
  ·skip
   refine WO.set #[true, true, true, true, false, false, false] (by kernel_rfl) ?_
   refine WO.callF 38 23 #[.agg #[.slice c.gStates_a c.gStates_n c.gStates_c, .slice c.gInputs_a c.gInputs_n c.gInputs_c, .int .i64 c.gStart, .slice c.gMoves_a c.gMoves_n c.gMoves_c]] hb23 (by kernel_rfl) (dead_any c _ (chtQ_sep hc S35)) ?_
   rintro _ w31 ⟨ad3, cd3, rfl, T15⟩
   have S36 : Sep w [rowOf encI ad3 cd3 3 1 (deadL c), rowOf encI ad1 cd1 3 1 (reachL c), box b1 [.slice c.gStates_a c.gStates_n c.gStates_c, .slice c.gInputs_a c.gInputs_n c.gInputs_c, .int .i64 c.gStart, .slice c.gMoves_a c.gMoves_n c.gMoves_c] 25] w31 := S35.trans T15
   clear T15 S35
   refine WB.mk ((S36.erase 1).erase 0) ?_
   refine WA.weaken (env' := [(1, .slice la len cap), (2, .int .u8 which), (3, .pointer (some ⟨b1, 0, none⟩)), (36, .slice ad1 ((reachL c).length) cd1), (38, .slice ad3 ((deadL c).length) cd3)]) (by kernel_rfl) ?_
   exact W4 ad1 cd1 ad3 cd3 w31 S36
  refine WO.set #[true, true, true, false, true, false, false] (by kernel_rfl) ?_
  refine WO.new S35 7 [.slice none 0 0] 26 (by kernel_rfl) ?_
  intro bd4 w32 S37
  refine WB.mk ((S37.erase 1).erase 0) ?_
  refine WA.weaken (env' := [(1, .slice la len cap), (2, .int .u8 which), (3, .pointer (some ⟨b1, 0, none⟩)), (7, .pointer (some ⟨bd4, 0, none⟩)), (36, .slice ad1 ((reachL c).length) cd1), (37, .agg #[.slice c.gStates_a c.gStates_n c.gStates_c, .slice c.gInputs_a c.gInputs_n c.gInputs_c, .int .i64 c.gStart, .slice c.gMoves_a c.gMoves_n c.gMoves_c])]) (by kernel_rfl) ?_
  have S38 : Sep w [box bd4 [.slice none 0 0] 26, rowOf encI ad1 cd1 3 1 (reachL c), box b1 [.slice c.gStates_a c.gStates_n c.gStates_c, .slice c.gInputs_a c.gInputs_n c.gInputs_c, .int .i64 c.gStart, .slice c.gMoves_a c.gMoves_n c.gMoves_c] 25] w32 := S37.front 0 rfl
  have S39 : Sep w [rowOf encI ad1 cd1 3 1 (reachL c), box bd4 [.slice none 0 0] 26, box b1 [.slice c.gStates_a c.gStates_n c.gStates_c, .slice c.gInputs_a c.gInputs_n c.gInputs_c, .int .i64 c.gStart, .slice c.gMoves_a c.gMoves_n c.gMoves_c] 25] w32 := S38.front 1 rfl
  exact W3 bd4 ad1 cd1 w32 S39
 have W6 : ∀ (bd4 : Nat) (w33 : World), Sep w [box bd4 [.slice none 0 0] 26, box b1 [.slice c.gStates_a c.gStates_n c.gStates_c, .slice c.gInputs_a c.gInputs_n c.gInputs_c, .int .i64 c.gStart, .slice c.gMoves_a c.gMoves_n c.gMoves_c] 25] w33 → WA Try.prog 8 120 R K8_8 (fun w_ => Sep w [box b1 [.slice c.gStates_a c.gStates_n c.gStates_c, .slice c.gInputs_a c.gInputs_n c.gInputs_c, .int .i64 c.gStart, .slice c.gMoves_a c.gMoves_n c.gMoves_c] 25] w_) 4 #[true, false, true, false, true, false, false] [(1, .slice la len cap), (2, .int .u8 which), (3, .pointer (some ⟨b1, 0, none⟩)), (7, .pointer (some ⟨bd4, 0, none⟩)), (35, .agg #[.slice c.gStates_a c.gStates_n c.gStates_c, .slice c.gInputs_a c.gInputs_n c.gInputs_c, .int .i64 c.gStart, .slice c.gMoves_a c.gMoves_n c.gMoves_c]), (37, .agg #[.slice c.gStates_a c.gStates_n c.gStates_c, .slice c.gInputs_a c.gInputs_n c.gInputs_c, .int .i64 c.gStart, .slice c.gMoves_a c.gMoves_n c.gMoves_c])] w33 := by
  intro bd4 w33 S40
  refine WA.all [1] (by kernel_rfl) rfl ⟨?_, trivial⟩
  refine WO.set #[true, true, true, false, true, false, false] (by kernel_rfl) ?_
  refine WO.callF 36 22 #[.agg #[.slice c.gStates_a c.gStates_n c.gStates_c, .slice c.gInputs_a c.gInputs_n c.gInputs_c, .int .i64 c.gStart, .slice c.gMoves_a c.gMoves_n c.gMoves_c]] hb22 (by kernel_rfl) (reach_any c _ (chtQ_sep hc S40)) ?_
  rintro _ w34 ⟨ad1, cd1, rfl, T16⟩
  have S41 : Sep w [rowOf encI ad1 cd1 3 1 (reachL c), box bd4 [.slice none 0 0] 26, box b1 [.slice c.gStates_a c.gStates_n c.gStates_c, .slice c.gInputs_a c.gInputs_n c.gInputs_c, .int .i64 c.gStart, .slice c.gMoves_a c.gMoves_n c.gMoves_c] 25] w34 := S40.trans T16
  clear T16 S40
  refine WB.mk ((S41.erase 1).erase 0) ?_
  refine WA.weaken (env' := [(1, .slice la len cap), (2, .int .u8 which), (3, .pointer (some ⟨b1, 0, none⟩)), (7, .pointer (some ⟨bd4, 0, none⟩)), (36, .slice ad1 ((reachL c).length) cd1), (37, .agg #[.slice c.gStates_a c.gStates_n c.gStates_c, .slice c.gInputs_a c.gInputs_n c.gInputs_c, .int .i64 c.gStart, .slice c.gMoves_a c.gMoves_n c.gMoves_c])]) (by kernel_rfl) ?_
  exact W3 bd4 ad1 cd1 w34 S41
 have W7 : ∀ (w35 : World), Sep w [box b1 [.slice c.gStates_a c.gStates_n c.gStates_c, .slice c.gInputs_a c.gInputs_n c.gInputs_c, .int .i64 c.gStart, .slice c.gMoves_a c.gMoves_n c.gMoves_c] 25] w35 → WA Try.prog 8 120 R K8_8 (fun w_ => Sep w [box b1 [.slice c.gStates_a c.gStates_n c.gStates_c, .slice c.gInputs_a c.gInputs_n c.gInputs_c, .int .i64 c.gStart, .slice c.gMoves_a c.gMoves_n c.gMoves_c] 25] w_) 5 #[true, false, true, false, false, false, false] [(1, .slice la len cap), (2, .int .u8 which), (3, .pointer (some ⟨b1, 0, none⟩)), (35, .agg #[.slice c.gStates_a c.gStates_n c.gStates_c, .slice c.gInputs_a c.gInputs_n c.gInputs_c, .int .i64 c.gStart, .slice c.gMoves_a c.gMoves_n c.gMoves_c]), (37, .agg #[.slice c.gStates_a c.gStates_n c.gStates_c, .slice c.gInputs_a c.gInputs_n c.gInputs_c, .int .i64 c.gStart, .slice c.gMoves_a c.gMoves_n c.gMoves_c])] w35 := by
  intro w35 S42
  refine WA.all [1, 4] (by kernel_rfl) rfl ⟨?_, ?_, trivial⟩
  ·skip
   refine WO.set #[true, true, true, false, false, false, false] (by kernel_rfl) ?_
   refine WO.callF 36 22 #[.agg #[.slice c.gStates_a c.gStates_n c.gStates_c, .slice c.gInputs_a c.gInputs_n c.gInputs_c, .int .i64 c.gStart, .slice c.gMoves_a c.gMoves_n c.gMoves_c]] hb22 (by kernel_rfl) (reach_any c _ (chtQ_sep hc S42)) ?_
   rintro _ w36 ⟨ad1, cd1, rfl, T17⟩
   have S43 : Sep w [rowOf encI ad1 cd1 3 1 (reachL c), box b1 [.slice c.gStates_a c.gStates_n c.gStates_c, .slice c.gInputs_a c.gInputs_n c.gInputs_c, .int .i64 c.gStart, .slice c.gMoves_a c.gMoves_n c.gMoves_c] 25] w36 := S42.trans T17
   clear T17 S42
   refine WB.mk (S43.erase 0) ?_
   refine WA.weaken (env' := [(1, .slice la len cap), (2, .int .u8 which), (3, .pointer (some ⟨b1, 0, none⟩)), (36, .slice ad1 ((reachL c).length) cd1), (37, .agg #[.slice c.gStates_a c.gStates_n c.gStates_c, .slice c.gInputs_a c.gInputs_n c.gInputs_c, .int .i64 c.gStart, .slice c.gMoves_a c.gMoves_n c.gMoves_c])]) (by kernel_rfl) ?_
   exact W5 ad1 cd1 w36 S43
  refine WO.set #[true, false, true, false, true, false, false] (by kernel_rfl) ?_
  refine WO.new S42 7 [.slice none 0 0] 26 (by kernel_rfl) ?_
  intro bd4 w37 S44
  refine WB.mk (S44.erase 0) ?_
  refine WA.weaken (env' := [(1, .slice la len cap), (2, .int .u8 which), (3, .pointer (some ⟨b1, 0, none⟩)), (7, .pointer (some ⟨bd4, 0, none⟩)), (35, .agg #[.slice c.gStates_a c.gStates_n c.gStates_c, .slice c.gInputs_a c.gInputs_n c.gInputs_c, .int .i64 c.gStart, .slice c.gMoves_a c.gMoves_n c.gMoves_c]), (37, .agg #[.slice c.gStates_a c.gStates_n c.gStates_c, .slice c.gInputs_a c.gInputs_n c.gInputs_c, .int .i64 c.gStart, .slice c.gMoves_a c.gMoves_n c.gMoves_c])]) (by kernel_rfl) ?_
  exact W6 bd4 w37 S44
 refine J.drawAny (fun w_ => Sep w [box b1 [.slice c.gStates_a c.gStates_n c.gStates_c, .slice c.gInputs_a c.gInputs_n c.gInputs_c, .int .i64 c.gStart, .slice c.gMoves_a c.gMoves_n c.gMoves_c] 25] w_) S5 7 #[false, false, false, false, false, false, false] Try.mixed (by kernel_rfl) (by kernel_rfl) (by kernel_rfl) ?_
 intro w38 S45
 refine WB.mk S45 ?_
 refine WA.takeOK 0 #[true, false, false, false, false, false, false] (by kernel_rfl) (by kernel_rfl) (by kernel_rfl) (by kernel_rfl) (fun w_ S_ => OK.ldBox S_ 0 35 25 0 (.agg #[.slice c.gStates_a c.gStates_n c.gStates_c, .slice c.gInputs_a c.gInputs_n c.gInputs_c, .int .i64 c.gStart, .slice c.gMoves_a c.gMoves_n c.gMoves_c]) (by kernel_rfl) rfl (by kernel_rfl)) rfl ?_
 refine WA.takeOK 2 #[true, false, true, false, false, false, false] (by kernel_rfl) (by kernel_rfl) (by kernel_rfl) (by kernel_rfl) (fun w_ S_ => OK.ldBox S_ 0 37 25 0 (.agg #[.slice c.gStates_a c.gStates_n c.gStates_c, .slice c.gInputs_a c.gInputs_n c.gInputs_c, .int .i64 c.gStart, .slice c.gMoves_a c.gMoves_n c.gMoves_c]) (by kernel_rfl) rfl (by kernel_rfl)) rfl ?_
 refine WA.weaken (env' := [(1, .slice la len cap), (2, .int .u8 which), (3, .pointer (some ⟨b1, 0, none⟩)), (35, .agg #[.slice c.gStates_a c.gStates_n c.gStates_c, .slice c.gInputs_a c.gInputs_n c.gInputs_c, .int .i64 c.gStart, .slice c.gMoves_a c.gMoves_n c.gMoves_c]), (37, .agg #[.slice c.gStates_a c.gStates_n c.gStates_c, .slice c.gInputs_a c.gInputs_n c.gInputs_c, .int .i64 c.gStart, .slice c.gMoves_a c.gMoves_n c.gMoves_c])]) (by kernel_rfl) ?_
 exact W7 w38 S45

end
end Go.Proofs.Ytbbpgidmadlgmaa

