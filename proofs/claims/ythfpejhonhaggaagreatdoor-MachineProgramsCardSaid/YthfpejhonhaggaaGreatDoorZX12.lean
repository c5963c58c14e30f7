/- Walks of functions of this seat, printed by a program over the engine. Conditions: as each theorem says. -/
import Derived.Test.YthfpejhonhaggaaGreatDoorZX11
namespace Go.Proofs.YthfpejhonhaggaaGreatDoor
open Go.Eng Go.RowKit
set_option linter.unusedSimpArgs false
set_option linter.unusedVariables false
theorem hb27 : HasBody Tryz.prog 27 := fun _ _ => by kernel_rfl
noncomputable def K27_0 : List Item := adv 10 [] (bodyOf Tryz.f27)
set_option maxRecDepth 20000 in
set_option maxHeartbeats 20000000 in
theorem not_any (b : Bool) (w : World) : Ret Tryz.prog 27 #[.bool b] w (fun v w' => v = .bool (!b) ∧ Sep w [] w') := by
 have S0 := Sep.refl w
 refine Ret.named fun R hR => ?_
 refine Ret.of_J (N := 5) [(0, .bool b)] Tryz.func27 rfl rfl (Nat.le_of_ble_eq_true (by kernel_rfl)) (by kernel_rfl) ?_
 refine J.run 10 K27_0 [(2, .bool (!b))] w (by kernel_rfl) ?_
 refine J.ret Tryz.f27 [.bool (!b)] Tryz.func27 ⟨by kernel_rfl, trivial⟩ ?_
 refine hR _ _ ?_
 exact ⟨rfl, S0.nil⟩

theorem hb29 : HasBody Tryz.prog 29 := fun _ _ => by kernel_rfl
noncomputable def K29_0 : List Item := adv 2 [] (bodyOf Tryz.f29)
noncomputable def K29_1 : List Item := adv 3 [] (popK K29_0)
set_option maxRecDepth 20000 in
set_option maxHeartbeats 20000000 in
theorem val2_any (t : Fxd) (bx : Nat) (w : World) (ht : fxdQ w t) (hb : (box bx [.func (.func 27) #[] #[]] 67).holds w) : Ret Tryz.prog 29 #[.agg (fxdA t), pv bx] w (fun v w' => v = .bool (!fixB t) ∧ Sep w [] w') := by
 have S0 := Sep.refl w
 refine Ret.named fun R hR => ?_
 refine Ret.of_J (N := 8) [(0, .agg (fxdA t)), (1, pv bx)] Tryz.func29 rfl rfl (Nat.le_of_ble_eq_true (by kernel_rfl)) (by kernel_rfl) ?_
 obtain ⟨q1, q2, q3, q4, q5, q6, q7, q8, q9, _⟩ := id ht
 refine J.run 2 K29_0 [(0, .agg (fxdA t)), (1, pv bx)] w (by kernel_rfl) ?_
 refine J.new S0 2 (fxdC t) 62 (by kernel_rfl) ?_
 intro b1 w1 S1
 refine J.run 3 K29_1 [(2, pv b1), (1, pv bx)] w1 (by kernel_rfl) ?_
 refine J.drawPlan (fun w_ => Sep w [box b1 (fxdC t) 62] w_) [(0, true), (1, true), (2, false), (3, false), (4, true)] S1 Tryz.mixed (by kernel_rfl) (planOK_of (T := [(0, some 4, 2), (0, some 5, 4), (2, some 6, 32), (5, some 7, 80), (15, some 3, 128)]) (by kernel_rfl) (by kernel_rfl)) ?_
 intro w2 S2
 refine PB.mk S2 ?_
 refine PL.takeOK 0 (fun w_ S_ => OK.ldRo S_ hb 4 67 0 (.func (.func 27) #[] #[]) (by kernel_rfl) (by kernel_rfl)) rfl ?_
 refine PL.takeOK 1 (fun w_ S_ => OK.ldBox S_ 0 5 62 0 (.agg (fxdA t)) (by kernel_rfl) rfl (by kernel_rfl)) rfl ?_
 refine PL.callF 6 30 #[.agg (fxdA t)] hb30 (by kernel_rfl) (fxvalid_any t _ (fxdQ_sep ht S2)) ?_
 rintro _ w3 ⟨rfl, T1⟩
 have S3 : Sep w [box b1 (fxdC t) 62] w3 := S2.trans T1
 clear T1 S2
 refine PB.mk S3 ?_
 refine PL.callF 7 27 #[.bool (fixB t)] hb27 (by kernel_rfl) (not_any (fixB t) _) ?_
 rintro _ w4 ⟨rfl, T2⟩
 have S4 : Sep w [box b1 (fxdC t) 62] w4 := S3.trans T2
 clear T2 S3
 refine PB.mk S4 ?_
 refine PL.take 4 3 (.bool (!(fixB t))) (fun _ _ => by kernel_rfl) ?_
 refine PL.done ?_
 refine J.run 0 (rRest K29_1) [(3, .bool (!(fixB t)))] w4 (by kernel_rfl) ?_
 refine J.ret Tryz.f29 [.bool (!(fixB t))] Tryz.func29 ⟨by kernel_rfl, trivial⟩ ?_
 refine hR _ _ ?_
 exact ⟨rfl, S4.nil⟩

theorem hb31 : HasBody Tryz.prog 31 := fun _ _ => by kernel_rfl
noncomputable def K31_0 : List Item := adv 2 [] (bodyOf Tryz.f31)
noncomputable def K31_1 : List Item := adv 3 [] (popK K31_0)
set_option maxRecDepth 20000 in
set_option maxHeartbeats 20000000 in
theorem val3_any (c : Crv) (bx : Nat) (w : World) (hc : crvQ w c) (hb : (box bx [.func (.func 27) #[] #[]] 67).holds w) : Ret Tryz.prog 31 #[.agg (crvA c), pv bx] w (fun v w' => v = .bool (!validV c) ∧ Sep w [] w') := by
 have S0 := Sep.refl w
 refine Ret.named fun R hR => ?_
 refine Ret.of_J (N := 8) [(0, .agg (crvA c)), (1, pv bx)] Tryz.func31 rfl rfl (Nat.le_of_ble_eq_true (by kernel_rfl)) (by kernel_rfl) ?_
 obtain ⟨q1, q2, q3, q4, q5, q6, _⟩ := id hc
 have ql1 := q2.len_eq
 have ql2 := q5.len_eq
 refine J.run 2 K31_0 [(0, .agg (crvA c)), (1, pv bx)] w (by kernel_rfl) ?_
 refine J.new S0 2 (crvC c) 56 (by kernel_rfl) ?_
 intro b1 w1 S1
 refine J.run 3 K31_1 [(2, pv b1), (1, pv bx)] w1 (by kernel_rfl) ?_
 refine J.drawPlan (fun w_ => Sep w [box b1 (crvC c) 56] w_) [(0, true), (1, true), (2, false), (3, false), (4, true)] S1 Tryz.mixed (by kernel_rfl) (planOK_of (T := [(0, some 4, 2), (0, some 5, 4), (2, some 6, 32), (5, some 7, 80), (15, some 3, 128)]) (by kernel_rfl) (by kernel_rfl)) ?_
 intro w2 S2
 refine PB.mk S2 ?_
 refine PL.takeOK 0 (fun w_ S_ => OK.ldRo S_ hb 4 67 0 (.func (.func 27) #[] #[]) (by kernel_rfl) (by kernel_rfl)) rfl ?_
 refine PL.takeOK 1 (fun w_ S_ => OK.ldBox S_ 0 5 56 0 (.agg (crvA c)) (by kernel_rfl) rfl (by kernel_rfl)) rfl ?_
 refine PL.callF 6 32 #[.agg (crvA c)] hb32 (by kernel_rfl) (cvalid_any c _ (crvQ_sep hc S2)) ?_
 rintro _ w3 ⟨rfl, T1⟩
 have S3 : Sep w [box b1 (crvC c) 56] w3 := S2.trans T1
 clear T1 S2
 refine PB.mk S3 ?_
 refine PL.callF 7 27 #[.bool (validV c)] hb27 (by kernel_rfl) (not_any (validV c) _) ?_
 rintro _ w4 ⟨rfl, T2⟩
 have S4 : Sep w [box b1 (crvC c) 56] w4 := S3.trans T2
 clear T2 S3
 refine PB.mk S4 ?_
 refine PL.take 4 3 (.bool (!(validV c))) (fun _ _ => by kernel_rfl) ?_
 refine PL.done ?_
 refine J.run 0 (rRest K31_1) [(3, .bool (!(validV c)))] w4 (by kernel_rfl) ?_
 refine J.ret Tryz.f31 [.bool (!(validV c))] Tryz.func31 ⟨by kernel_rfl, trivial⟩ ?_
 refine hR _ _ ?_
 exact ⟨rfl, S4.nil⟩

theorem hb33 : HasBody Tryz.prog 33 := fun _ _ => by kernel_rfl
noncomputable def K33_0 : List Item := adv 2 [] (bodyOf Tryz.f33)
noncomputable def K33_1 : List Item := adv 3 [] (popK K33_0)
set_option maxRecDepth 20000 in
set_option maxHeartbeats 20000000 in
theorem val4_any (m : Mp) (bx : Nat) (w : World) (hm : mpQ w m) (hb : (box bx [.func (.func 27) #[] #[]] 67).holds w) : Ret Tryz.prog 33 #[.agg (mpA m), pv bx] w (fun v w' => v = .bool (!validM m) ∧ Sep w [] w') := by
 have S0 := Sep.refl w
 refine Ret.named fun R hR => ?_
 refine Ret.of_J (N := 8) [(0, .agg (mpA m)), (1, pv bx)] Tryz.func33 rfl rfl (Nat.le_of_ble_eq_true (by kernel_rfl)) (by kernel_rfl) ?_
 obtain ⟨q1, q2, q3, q4, q5, q6, q7, q8, q9, _⟩ := id hm
 have ql1 := q2.len_eq
 have ql2 := q5.len_eq
 have ql3 := q8.len_eq
 refine J.run 2 K33_0 [(0, .agg (mpA m)), (1, pv bx)] w (by kernel_rfl) ?_
 refine J.new S0 2 (mpC m) 52 (by kernel_rfl) ?_
 intro b1 w1 S1
 refine J.run 3 K33_1 [(2, pv b1), (1, pv bx)] w1 (by kernel_rfl) ?_
 refine J.drawPlan (fun w_ => Sep w [box b1 (mpC m) 52] w_) [(0, true), (1, true), (2, false), (3, false), (4, true)] S1 Tryz.mixed (by kernel_rfl) (planOK_of (T := [(0, some 4, 2), (0, some 5, 4), (2, some 6, 32), (5, some 7, 80), (15, some 3, 128)]) (by kernel_rfl) (by kernel_rfl)) ?_
 intro w2 S2
 refine PB.mk S2 ?_
 refine PL.takeOK 0 (fun w_ S_ => OK.ldRo S_ hb 4 67 0 (.func (.func 27) #[] #[]) (by kernel_rfl) (by kernel_rfl)) rfl ?_
 refine PL.takeOK 1 (fun w_ S_ => OK.ldBox S_ 0 5 52 0 (.agg (mpA m)) (by kernel_rfl) rfl (by kernel_rfl)) rfl ?_
 refine PL.callF 6 34 #[.agg (mpA m)] hb34 (by kernel_rfl) (valid_any m _ (mpQ_sep hm S2)) ?_
 rintro _ w3 ⟨rfl, T1⟩
 have S3 : Sep w [box b1 (mpC m) 52] w3 := S2.trans T1
 clear T1 S2
 refine PB.mk S3 ?_
 refine PL.callF 7 27 #[.bool (validM m)] hb27 (by kernel_rfl) (not_any (validM m) _) ?_
 rintro _ w4 ⟨rfl, T2⟩
 have S4 : Sep w [box b1 (mpC m) 52] w4 := S3.trans T2
 clear T2 S3
 refine PB.mk S4 ?_
 refine PL.take 4 3 (.bool (!(validM m))) (fun _ _ => by kernel_rfl) ?_
 refine PL.done ?_
 refine J.run 0 (rRest K33_1) [(3, .bool (!(validM m)))] w4 (by kernel_rfl) ?_
 refine J.ret Tryz.f33 [.bool (!(validM m))] Tryz.func33 ⟨by kernel_rfl, trivial⟩ ?_
 refine hR _ _ ?_
 exact ⟨rfl, S4.nil⟩

theorem hb36 : HasBody Tryz.prog 36 := fun _ _ => by kernel_rfl
noncomputable def K36_0 : List Item := adv 2 [] (bodyOf Tryz.f36)
noncomputable def K36_1 : List Item := adv 3 [] (popK K36_0)
set_option maxRecDepth 20000 in
set_option maxHeartbeats 20000000 in
theorem val5_any (p : Prg) (i : Ins) (bx1 bx2 : Nat) (w : World) (hp : prgQ w p) (hi : insQ w i) (hb1 : (box bx1 [.func (.func 27) #[] #[]] 67).holds w) (hb2 : (box bx2 (prgC p) 28).holds w) : Ret Tryz.prog 36 #[.agg (insA i), pv bx1, pv bx2] w (fun v w' => v = .bool (!fitsI p i) ∧ Sep w [] w') := by
 have S0 := Sep.refl w
 refine Ret.named fun R hR => ?_
 refine Ret.of_J (N := 10) [(0, .agg (insA i)), (1, pv bx1), (2, pv bx2)] Tryz.func36 rfl rfl (Nat.le_of_ble_eq_true (by kernel_rfl)) (by kernel_rfl) ?_
 obtain ⟨q1, q2, q3, q4, q5, q6, q7, q8, q9, q10, q11, q12, q13, q14, q15, q16, q17, q18, q19, q20, q21, q22, q23, q24, q25, _⟩ := id hp
 have ql1 := q2.len_eq
 have ql2 := q5.len_eq
 have ql3 := q8.len_eq
 have ql4 := q11.len_eq
 have ql5 := q15.len_eq
 have ql6 := q18.len_eq
 have ql7 := q21.len_eq
 have ql8 := q24.len_eq
 obtain ⟨q26, q27, q28, q29, q30, _⟩ := id hi
 refine J.run 2 K36_0 [(0, .agg (insA i)), (1, pv bx1), (2, pv bx2)] w (by kernel_rfl) ?_
 refine J.new S0 3 (insC i) 44 (by kernel_rfl) ?_
 intro b1 w1 S1
 refine J.run 3 K36_1 [(3, pv b1), (1, pv bx1), (2, pv bx2)] w1 (by kernel_rfl) ?_
 refine J.drawPlan (fun w_ => Sep w [box b1 (insC i) 44] w_) [(0, true), (1, true), (2, true), (3, false), (4, false), (5, true)] S1 Tryz.mixed (by kernel_rfl) (planOK_of (T := [(0, some 5, 2), (0, some 6, 4), (0, some 7, 8), (6, some 8, 192), (9, some 9, 288), (31, some 4, 512)]) (by kernel_rfl) (by kernel_rfl)) ?_
 intro w2 S2
 refine PB.mk S2 ?_
 refine PL.takeOK 0 (fun w_ S_ => OK.ldRo S_ hb1 5 67 0 (.func (.func 27) #[] #[]) (by kernel_rfl) (by kernel_rfl)) rfl ?_
 refine PL.takeOK 1 (fun w_ S_ => OK.ldRo S_ hb2 6 28 0 (.agg (prgA p)) (by kernel_rfl) (by kernel_rfl)) rfl ?_
 refine PL.takeOK 2 (fun w_ S_ => OK.ldBox S_ 0 7 44 0 (.agg (insA i)) (by kernel_rfl) rfl (by kernel_rfl)) rfl ?_
 refine PL.callF 8 37 #[.agg (prgA p), .agg (insA i)] hb37 (by kernel_rfl) (fits_any p i _ (prgQ_sep hp S2) (insQ_sep hi S2)) ?_
 rintro _ w3 ⟨rfl, T1⟩
 have S3 : Sep w [box b1 (insC i) 44] w3 := S2.trans T1
 clear T1 S2
 refine PB.mk S3 ?_
 refine PL.callF 9 27 #[.bool (fitsI p i)] hb27 (by kernel_rfl) (not_any (fitsI p i) _) ?_
 rintro _ w4 ⟨rfl, T2⟩
 have S4 : Sep w [box b1 (insC i) 44] w4 := S3.trans T2
 clear T2 S3
 refine PB.mk S4 ?_
 refine PL.take 5 4 (.bool (!(fitsI p i))) (fun _ _ => by kernel_rfl) ?_
 refine PL.done ?_
 refine J.run 0 (rRest K36_1) [(4, .bool (!(fitsI p i)))] w4 (by kernel_rfl) ?_
 refine J.ret Tryz.f36 [.bool (!(fitsI p i))] Tryz.func36 ⟨by kernel_rfl, trivial⟩ ?_
 refine hR _ _ ?_
 exact ⟨rfl, S4.nil⟩

theorem hb39 : HasBody Tryz.prog 39 := fun _ _ => by kernel_rfl
noncomputable def K39_0 : List Item := adv 9 [] (bodyOf Tryz.f39)
noncomputable def K39_1 : List Item := adv 7 [] K39_0
noncomputable def K39_2 : List Item := adv 2 [] K39_0
noncomputable def K39_3 : List Item := adv 4 [] (popK K39_2)
set_option maxRecDepth 20000 in
set_option maxHeartbeats 20000000 in
theorem val6_any (p : Prg) (c : Int) (bx1 : Nat) (w : World) (hb1 : (box bx1 (prgC p) 28).holds w) : Ret Tryz.prog 39 #[iv c, pv bx1] w (fun v w' => v = .bool (!(decide (0 ≤ c) && decide (c < p.gCells))) ∧ Sep w [] w') := by
 have S0 := Sep.refl w
 refine Ret.named fun R hR => ?_
 refine Ret.of_J (N := 12) [(0, iv c), (1, pv bx1)] Tryz.func39 rfl rfl (Nat.le_of_ble_eq_true (by kernel_rfl)) (by kernel_rfl) ?_
 refine J.run 9 K39_0 [(6, .bool (decide (c < 0))), (0, iv c), (1, pv bx1)] w (by kernel_rfl) ?_
 by_cases fk1 : c < 0
 ·skip
  refine J.head (.bool true) (congrArg Value.bool (decide_eq_true fk1)) ?_
  refine J.run 7 K39_1 [(3, .bool true)] w (by kernel_rfl) ?_
  refine J.ret Tryz.f39 [.bool true] Tryz.func39 ⟨by kernel_rfl, trivial⟩ ?_
  refine hR _ _ ?_
  exact ⟨congrArg Value.bool (by show _ = !(decide (0 ≤ c) && decide (c < p.gCells)); by_cases q1_ : 0 ≤ c <;> by_cases q2_ : c < p.gCells <;> simp [q1_, q2_] <;> omega), S0.nil⟩
 ·skip
  refine J.head (.bool false) (congrArg Value.bool (decide_eq_false fk1)) ?_
  refine J.run 2 K39_2 [(8, .pointer (some ⟨bx1, 4, none⟩)), (7, iv c), (6, .bool false)] w (by kernel_rfl) ?_
  refine J.ok (OK.ldRo S0 hb1 9 3 4 (iv p.gCells) (by kernel_rfl) (by kernel_rfl)) ?_
  refine J.run 4 K39_3 [(3, .bool (decide (c ≥ p.gCells)))] w (by kernel_rfl) ?_
  refine J.ret Tryz.f39 [.bool (decide (c ≥ p.gCells))] Tryz.func39 ⟨by kernel_rfl, trivial⟩ ?_
  refine hR _ _ ?_
  exact ⟨congrArg Value.bool (by show _ = !(decide (0 ≤ c) && decide (c < p.gCells)); by_cases q1_ : 0 ≤ c <;> by_cases q2_ : c < p.gCells <;> simp [q1_, q2_] <;> omega), S0.nil⟩

theorem hb41 : HasBody Tryz.prog 41 := fun _ _ => by kernel_rfl
noncomputable def K41_0 : List Item := adv 9 [] (bodyOf Tryz.f41)
noncomputable def K41_1 : List Item := adv 5 [] K41_0
noncomputable def K41_2 : List Item := adv 5 [] K41_0
set_option maxRecDepth 20000 in
set_option maxHeartbeats 20000000 in
theorem val7_any (n : Int) (w : World) : Ret Tryz.prog 41 #[iv n] w (fun v w' => v = .bool (!initB n) ∧ Sep w [] w') := by
 have S0 := Sep.refl w
 refine Ret.named fun R hR => ?_
 refine Ret.of_J (N := 9) [(0, iv n)] Tryz.func41 rfl rfl (Nat.le_of_ble_eq_true (by kernel_rfl)) (by kernel_rfl) ?_
 refine J.run 9 K41_0 [(5, .bool (decide (n < (-1099511627776)))), (0, iv n)] w (by kernel_rfl) ?_
 by_cases fk1 : n < (-1099511627776)
 ·skip
  refine J.head (.bool true) (congrArg Value.bool (decide_eq_true fk1)) ?_
  refine J.run 5 K41_1 [(2, .bool true)] w (by kernel_rfl) ?_
  refine J.ret Tryz.f41 [.bool true] Tryz.func41 ⟨by kernel_rfl, trivial⟩ ?_
  refine hR _ _ ?_
  exact ⟨congrArg Value.bool (by show _ = !(decide (-1099511627776 ≤ n) && decide (n ≤ 1099511627776)); by_cases q1_ : -1099511627776 ≤ n <;> by_cases q2_ : n ≤ 1099511627776 <;> simp [q1_, q2_] <;> omega), S0.nil⟩
 ·skip
  refine J.head (.bool false) (congrArg Value.bool (decide_eq_false fk1)) ?_
  refine J.run 5 K41_2 [(2, .bool (decide (n > 1099511627776)))] w (by kernel_rfl) ?_
  refine J.ret Tryz.f41 [.bool (decide (n > 1099511627776))] Tryz.func41 ⟨by kernel_rfl, trivial⟩ ?_
  refine hR _ _ ?_
  exact ⟨congrArg Value.bool (by show _ = !(decide (-1099511627776 ≤ n) && decide (n ≤ 1099511627776)); by_cases q1_ : -1099511627776 ≤ n <;> by_cases q2_ : n ≤ 1099511627776 <;> simp [q1_, q2_] <;> omega), S0.nil⟩

theorem hb63 : HasBody Tryz.prog 63 := fun _ _ => by kernel_rfl
noncomputable def K63_0 : List Item := adv 13 [] (bodyOf Tryz.f63)
noncomputable def K63_1 : List Item := adv 5 [] K63_0
noncomputable def K63_2 : List Item := adv 14 [true] K63_1
noncomputable def K63_3 : List Item := adv 1 [] (popK (popK (popK K63_2)))
noncomputable def K63_4 : List Item := adv 6 [true] K63_3
noncomputable def K63_5 : List Item := adv 5 [false] K63_3
noncomputable def K63_6 : List Item := adv 6 [false] K63_1
set_option maxRecDepth 20000 in
set_option maxHeartbeats 20000000 in
theorem indexFX1 (la : Option Addr) (len cap : Nat) (l : List Fxd) (g : FuncId) (c1 : Value) (q : Fxd → Bool) (w : World) (hI : Recs fxdE 10 w la len l) (hlen : len ≤ 9223372036854775807) (hbg : HasBody Tryz.prog g) (hcall : ∀ (i : Nat) (w2 : World), i < l.length → Sep w [] w2 → Ret Tryz.prog g #[.agg (fxdA (l.getD i fx0)), c1] w2 (fun v w3 => v = .bool (q (l.getD i fx0)) ∧ Sep w2 [] w3)) : Ret Tryz.prog 63 #[.slice la len cap, .func (.func g) #[] #[c1]] w (fun v w' => v = iv (indexF q l) ∧ Sep w [] w') := by
 have S0 := Sep.refl w
 refine Ret.named fun R hR => ?_
 refine Ret.of_J (N := 19) [(0, .slice la len cap), (1, .func (.func g) #[] #[c1])] Tryz.func63 rfl rfl (Nat.le_of_ble_eq_true (by kernel_rfl)) (by kernel_rfl) ?_
 refine J.run 13 K63_0 [(8, iv 0), (7, iv (len : Int)), (0, .slice la len cap), (1, .func (.func g) #[] #[c1])] w (by kernel_rfl) ?_
 have L63_1 : ∀ (mm_ : Nat) (i : Int) (w1 : World), (0 ≤ i) → (i ≤ (len : Int)) → (∀ j, j < (i).toNat → q (l.getD j fx0) = false) → Sep w [] w1 → ((len : Int) - i).toNat = mm_ → J Tryz.prog 63 19 R K63_0 [(8, iv i), (7, iv (len : Int)), (0, .slice la len cap), (1, .func (.func g) #[] #[c1])] w1 := by
  intro mm1
  induction mm1 using Nat.strongRecOn with
  | _ mm1 ih1 =>
  intro i w1 h0 h1 hq S1 hm1
  refine J.run 5 K63_1 [(9, .bool (decide (i < (len : Int)))), (8, iv i), (7, iv (len : Int)), (0, .slice la len cap), (1, .func (.func g) #[] #[c1])] w1 (by kernel_rfl) ?_
  by_cases fk1 : i < (len : Int)
  ·skip
   refine J.head (.bool true) (congrArg Value.bool (decide_eq_true fk1)) ?_
   refine J.run 14 K63_2 [(13, iv i), (12, .slice la len cap), (11, .func (.func g) #[] #[c1]), (5, iv i), (8, iv i), (7, iv (len : Int)), (0, .slice la len cap), (1, .func (.func g) #[] #[c1])] w1 (by kernel_rfl) ?_
   obtain ⟨p1, hp1, hc1⟩ := hI.at fx0 (i).toNat (by omega)
   refine J.ok (OK.index 14 23 10 la p1 len (i).toNat i (p1.add ((i).toNat * 10)) (by kernel_rfl) (by kernel_rfl) hp1 (by omega) (by omega) rfl) ?_
   refine J.ok (OK.ldCells 15 62 (p1.add ((i).toNat * 10)) (fxdC (l.getD (i).toNat fx0)) (by kernel_rfl) (by kernel_rfl) (by kernel_rfl) (fun j_ v_ hj_ => S1.cell (hc1 j_ v_ hj_))) ?_
   refine J.callF 16 g #[.agg (fxdA (l.getD (i).toNat fx0)), c1] hbg (by kernel_rfl) (hcall (i).toNat w1 (by have := hI.len_eq; omega) S1.nil) ?_
   rintro _ w2 ⟨rfl, T1⟩
   have S2 : Sep w [] w2 := S1.trans T1
   clear T1 S1
   refine J.run 1 K63_3 [(16, .bool (q (l.getD (i).toNat fx0))), (5, iv i), (8, iv i), (7, iv (len : Int)), (0, .slice la len cap), (1, .func (.func g) #[] #[c1])] w2 (by kernel_rfl) ?_
   rcases Bool.eq_false_or_eq_true (q (l.getD (i).toNat fx0)) with fk2 | fk2
   ·skip
    refine J.head (.bool true) (congrArg Value.bool fk2) ?_
    refine J.run 6 K63_4 [(4, iv i)] w2 (by kernel_rfl) ?_
    refine J.ret Tryz.f63 [iv i] Tryz.func63 ⟨by kernel_rfl, trivial⟩ ?_
    refine hR _ _ ?_
    exact ⟨by rw [tup_one, indexF_some fx0 i.toNat (by have := hI.len_eq; omega) hq fk2, Int.toNat_of_nonneg h0], S2.nil⟩
   ·skip
    refine J.head (.bool false) (congrArg Value.bool fk2) ?_
    refine J.run 5 K63_5 [(18, iv (IntKind.wrap .i64 (i + 1))), (7, iv (len : Int)), (0, .slice la len cap), (1, .func (.func g) #[] #[c1])] w2 (by kernel_rfl) ?_
    refine J.head (iv (i + 1)) (congrArg (Value.int .i64) (IntWalk.i64_in _ (by omega))) ?_
    refine J.run 3 K63_0 [(8, iv (i + 1)), (7, iv (len : Int)), (0, .slice la len cap), (1, .func (.func g) #[] #[c1])] w2 (by kernel_rfl) ?_
    refine J.run 0 K63_0 [(8, iv (i + 1)), (7, iv (len : Int)), (0, .slice la len cap), (1, .func (.func g) #[] #[c1])] w2 (by kernel_rfl) ?_
    exact ih1 _ (show ((len : Int) - (i + 1)).toNat < mm1 from by omega) (i + 1) w2 (by omega) (by omega) (by intro j hj; by_cases e : j = i.toNat; (subst e; exact fk2); exact hq j (by omega)) S2 rfl
  ·skip
   refine J.head (.bool false) (congrArg Value.bool (decide_eq_false fk1)) ?_
   refine J.run 6 K63_6 [(4, iv (-1))] w1 (by kernel_rfl) ?_
   refine J.ret Tryz.f63 [iv (-1)] Tryz.func63 ⟨by kernel_rfl, trivial⟩ ?_
   refine hR _ _ ?_
   exact ⟨by rw [tup_one, indexF_none fx0 fun j hj => hq j (by have := hI.len_eq; omega)], S1.nil⟩
 exact L63_1 _ 0 w (by omega) (by omega) (by intro j hj; simp at hj) S0 rfl

theorem hb28 : HasBody Tryz.prog 28 := fun _ _ => by kernel_rfl
noncomputable def K28_0 : List Item := adv 8 [] (bodyOf Tryz.f28)
noncomputable def K28_1 : List Item := adv 3 [] (popK K28_0)
set_option maxRecDepth 20000 in
set_option maxHeartbeats 20000000 in
theorem containsFX1 (la : Option Addr) (len cap : Nat) (l : List Fxd) (g : FuncId) (c1 : Value) (q : Fxd → Bool) (w : World) (hI : Recs fxdE 10 w la len l) (hlen : len ≤ 9223372036854775807) (hbg : HasBody Tryz.prog g) (hcall : ∀ (i : Nat) (w2 : World), i < l.length → Sep w [] w2 → Ret Tryz.prog g #[.agg (fxdA (l.getD i fx0)), c1] w2 (fun v w3 => v = .bool (q (l.getD i fx0)) ∧ Sep w2 [] w3)) : Ret Tryz.prog 28 #[.slice la len cap, .func (.func g) #[] #[c1]] w (fun v w' => v = .bool (l.any q) ∧ Sep w [] w') := by
 have S0 := Sep.refl w
 refine Ret.named fun R hR => ?_
 refine Ret.of_J (N := 9) [(0, .slice la len cap), (1, .func (.func g) #[] #[c1])] Tryz.func28 rfl rfl (Nat.le_of_ble_eq_true (by kernel_rfl)) (by kernel_rfl) ?_
 refine J.run 8 K28_0 [(6, .func (.func g) #[] #[c1]), (5, .slice la len cap)] w (by kernel_rfl) ?_
 refine J.callF 7 63 #[.slice la len cap, .func (.func g) #[] #[c1]] hb63 (by kernel_rfl) (indexFX1 la len cap l g c1 q _ (hI.sep S0) (by first | omega | (simp; omega)) hbg (hcall)) ?_
 rintro _ w1 ⟨rfl, T1⟩
 have S1 : Sep w [] w1 := S0.trans T1
 clear T1
 refine J.run 3 K28_1 [(4, .bool (decide ((indexF q l) ≥ 0)))] w1 (by kernel_rfl) ?_
 refine J.ret Tryz.f28 [.bool (decide ((indexF q l) ≥ 0))] Tryz.func28 ⟨by kernel_rfl, trivial⟩ ?_
 refine hR _ _ ?_
 exact ⟨congrArg Value.bool (by first | exact indexF_nonneg), S1.nil⟩

theorem hb53 : HasBody Tryz.prog 53 := fun _ _ => by kernel_rfl
noncomputable def K53_0 : List Item := adv 13 [] (bodyOf Tryz.f53)
noncomputable def K53_1 : List Item := adv 5 [] K53_0
noncomputable def K53_2 : List Item := adv 14 [true] K53_1
noncomputable def K53_3 : List Item := adv 1 [] (popK (popK (popK K53_2)))
noncomputable def K53_4 : List Item := adv 6 [true] K53_3
noncomputable def K53_5 : List Item := adv 5 [false] K53_3
noncomputable def K53_6 : List Item := adv 6 [false] K53_1
set_option maxRecDepth 20000 in
set_option maxHeartbeats 20000000 in
theorem indexCV1 (la : Option Addr) (len cap : Nat) (l : List Crv) (g : FuncId) (c1 : Value) (q : Crv → Bool) (w : World) (hI : Recs crvE 2 w la len l) (hlen : len ≤ 9223372036854775807) (hbg : HasBody Tryz.prog g) (hcall : ∀ (i : Nat) (w2 : World), i < l.length → Sep w [] w2 → Ret Tryz.prog g #[.agg (crvA (l.getD i (⟨none, 0, 0, [], none, 0, 0, []⟩ : Crv))), c1] w2 (fun v w3 => v = .bool (q (l.getD i (⟨none, 0, 0, [], none, 0, 0, []⟩ : Crv))) ∧ Sep w2 [] w3)) : Ret Tryz.prog 53 #[.slice la len cap, .func (.func g) #[] #[c1]] w (fun v w' => v = iv (indexF q l) ∧ Sep w [] w') := by
 have S0 := Sep.refl w
 refine Ret.named fun R hR => ?_
 refine Ret.of_J (N := 19) [(0, .slice la len cap), (1, .func (.func g) #[] #[c1])] Tryz.func53 rfl rfl (Nat.le_of_ble_eq_true (by kernel_rfl)) (by kernel_rfl) ?_
 refine J.run 13 K53_0 [(8, iv 0), (7, iv (len : Int)), (0, .slice la len cap), (1, .func (.func g) #[] #[c1])] w (by kernel_rfl) ?_
 have L53_1 : ∀ (mm_ : Nat) (i : Int) (w1 : World), (0 ≤ i) → (i ≤ (len : Int)) → (∀ j, j < (i).toNat → q (l.getD j (⟨none, 0, 0, [], none, 0, 0, []⟩ : Crv)) = false) → Sep w [] w1 → ((len : Int) - i).toNat = mm_ → J Tryz.prog 53 19 R K53_0 [(8, iv i), (7, iv (len : Int)), (0, .slice la len cap), (1, .func (.func g) #[] #[c1])] w1 := by
  intro mm1
  induction mm1 using Nat.strongRecOn with
  | _ mm1 ih1 =>
  intro i w1 h0 h1 hq S1 hm1
  refine J.run 5 K53_1 [(9, .bool (decide (i < (len : Int)))), (8, iv i), (7, iv (len : Int)), (0, .slice la len cap), (1, .func (.func g) #[] #[c1])] w1 (by kernel_rfl) ?_
  by_cases fk1 : i < (len : Int)
  ·skip
   refine J.head (.bool true) (congrArg Value.bool (decide_eq_true fk1)) ?_
   refine J.run 14 K53_2 [(13, iv i), (12, .slice la len cap), (11, .func (.func g) #[] #[c1]), (5, iv i), (8, iv i), (7, iv (len : Int)), (0, .slice la len cap), (1, .func (.func g) #[] #[c1])] w1 (by kernel_rfl) ?_
   obtain ⟨p1, hp1, hc1⟩ := hI.at (⟨none, 0, 0, [], none, 0, 0, []⟩ : Crv) (i).toNat (by omega)
   refine J.ok (OK.index 14 24 2 la p1 len (i).toNat i (p1.add ((i).toNat * 2)) (by kernel_rfl) (by kernel_rfl) hp1 (by omega) (by omega) rfl) ?_
   refine J.ok (OK.ldCells 15 56 (p1.add ((i).toNat * 2)) (crvC (l.getD (i).toNat (⟨none, 0, 0, [], none, 0, 0, []⟩ : Crv))) (by kernel_rfl) (by kernel_rfl) (by kernel_rfl) (fun j_ v_ hj_ => S1.cell (hc1 j_ v_ hj_))) ?_
   refine J.callF 16 g #[.agg (crvA (l.getD (i).toNat (⟨none, 0, 0, [], none, 0, 0, []⟩ : Crv))), c1] hbg (by kernel_rfl) (hcall (i).toNat w1 (by have := hI.len_eq; omega) S1.nil) ?_
   rintro _ w2 ⟨rfl, T1⟩
   have S2 : Sep w [] w2 := S1.trans T1
   clear T1 S1
   refine J.run 1 K53_3 [(16, .bool (q (l.getD (i).toNat (⟨none, 0, 0, [], none, 0, 0, []⟩ : Crv)))), (5, iv i), (8, iv i), (7, iv (len : Int)), (0, .slice la len cap), (1, .func (.func g) #[] #[c1])] w2 (by kernel_rfl) ?_
   rcases Bool.eq_false_or_eq_true (q (l.getD (i).toNat (⟨none, 0, 0, [], none, 0, 0, []⟩ : Crv))) with fk2 | fk2
   ·skip
    refine J.head (.bool true) (congrArg Value.bool fk2) ?_
    refine J.run 6 K53_4 [(4, iv i)] w2 (by kernel_rfl) ?_
    refine J.ret Tryz.f53 [iv i] Tryz.func53 ⟨by kernel_rfl, trivial⟩ ?_
    refine hR _ _ ?_
    exact ⟨by rw [tup_one, indexF_some (⟨none, 0, 0, [], none, 0, 0, []⟩ : Crv) i.toNat (by have := hI.len_eq; omega) hq fk2, Int.toNat_of_nonneg h0], S2.nil⟩
   ·skip
    refine J.head (.bool false) (congrArg Value.bool fk2) ?_
    refine J.run 5 K53_5 [(18, iv (IntKind.wrap .i64 (i + 1))), (7, iv (len : Int)), (0, .slice la len cap), (1, .func (.func g) #[] #[c1])] w2 (by kernel_rfl) ?_
    refine J.head (iv (i + 1)) (congrArg (Value.int .i64) (IntWalk.i64_in _ (by omega))) ?_
    refine J.run 3 K53_0 [(8, iv (i + 1)), (7, iv (len : Int)), (0, .slice la len cap), (1, .func (.func g) #[] #[c1])] w2 (by kernel_rfl) ?_
    refine J.run 0 K53_0 [(8, iv (i + 1)), (7, iv (len : Int)), (0, .slice la len cap), (1, .func (.func g) #[] #[c1])] w2 (by kernel_rfl) ?_
    exact ih1 _ (show ((len : Int) - (i + 1)).toNat < mm1 from by omega) (i + 1) w2 (by omega) (by omega) (by intro j hj; by_cases e : j = i.toNat; (subst e; exact fk2); exact hq j (by omega)) S2 rfl
  ·skip
   refine J.head (.bool false) (congrArg Value.bool (decide_eq_false fk1)) ?_
   refine J.run 6 K53_6 [(4, iv (-1))] w1 (by kernel_rfl) ?_
   refine J.ret Tryz.f53 [iv (-1)] Tryz.func53 ⟨by kernel_rfl, trivial⟩ ?_
   refine hR _ _ ?_
   exact ⟨by rw [tup_one, indexF_none (⟨none, 0, 0, [], none, 0, 0, []⟩ : Crv) fun j hj => hq j (by have := hI.len_eq; omega)], S1.nil⟩
 exact L53_1 _ 0 w (by omega) (by omega) (by intro j hj; simp at hj) S0 rfl

theorem hb19 : HasBody Tryz.prog 19 := fun _ _ => by kernel_rfl
noncomputable def K19_0 : List Item := adv 8 [] (bodyOf Tryz.f19)
noncomputable def K19_1 : List Item := adv 3 [] (popK K19_0)
set_option maxRecDepth 20000 in
set_option maxHeartbeats 20000000 in
theorem containsCV1 (la : Option Addr) (len cap : Nat) (l : List Crv) (g : FuncId) (c1 : Value) (q : Crv → Bool) (w : World) (hI : Recs crvE 2 w la len l) (hlen : len ≤ 9223372036854775807) (hbg : HasBody Tryz.prog g) (hcall : ∀ (i : Nat) (w2 : World), i < l.length → Sep w [] w2 → Ret Tryz.prog g #[.agg (crvA (l.getD i (⟨none, 0, 0, [], none, 0, 0, []⟩ : Crv))), c1] w2 (fun v w3 => v = .bool (q (l.getD i (⟨none, 0, 0, [], none, 0, 0, []⟩ : Crv))) ∧ Sep w2 [] w3)) : Ret Tryz.prog 19 #[.slice la len cap, .func (.func g) #[] #[c1]] w (fun v w' => v = .bool (l.any q) ∧ Sep w [] w') := by
 have S0 := Sep.refl w
 refine Ret.named fun R hR => ?_
 refine Ret.of_J (N := 9) [(0, .slice la len cap), (1, .func (.func g) #[] #[c1])] Tryz.func19 rfl rfl (Nat.le_of_ble_eq_true (by kernel_rfl)) (by kernel_rfl) ?_
 refine J.run 8 K19_0 [(6, .func (.func g) #[] #[c1]), (5, .slice la len cap)] w (by kernel_rfl) ?_
 refine J.callF 7 53 #[.slice la len cap, .func (.func g) #[] #[c1]] hb53 (by kernel_rfl) (indexCV1 la len cap l g c1 q _ (hI.sep S0) (by first | omega | (simp; omega)) hbg (hcall)) ?_
 rintro _ w1 ⟨rfl, T1⟩
 have S1 : Sep w [] w1 := S0.trans T1
 clear T1
 refine J.run 3 K19_1 [(4, .bool (decide ((indexF q l) ≥ 0)))] w1 (by kernel_rfl) ?_
 refine J.ret Tryz.f19 [.bool (decide ((indexF q l) ≥ 0))] Tryz.func19 ⟨by kernel_rfl, trivial⟩ ?_
 refine hR _ _ ?_
 exact ⟨congrArg Value.bool (by first | exact indexF_nonneg), S1.nil⟩

theorem hb52 : HasBody Tryz.prog 52 := fun _ _ => by kernel_rfl
noncomputable def K52_0 : List Item := adv 13 [] (bodyOf Tryz.f52)
noncomputable def K52_1 : List Item := adv 5 [] K52_0
noncomputable def K52_2 : List Item := adv 14 [true] K52_1
noncomputable def K52_3 : List Item := adv 1 [] (popK (popK (popK K52_2)))
noncomputable def K52_4 : List Item := adv 6 [true] K52_3
noncomputable def K52_5 : List Item := adv 5 [false] K52_3
noncomputable def K52_6 : List Item := adv 6 [false] K52_1
set_option maxRecDepth 20000 in
set_option maxHeartbeats 20000000 in
theorem indexMP1 (la : Option Addr) (len cap : Nat) (l : List Mp) (g : FuncId) (c1 : Value) (q : Mp → Bool) (w : World) (hI : Recs mpE 3 w la len l) (hlen : len ≤ 9223372036854775807) (hbg : HasBody Tryz.prog g) (hcall : ∀ (i : Nat) (w2 : World), i < l.length → Sep w [] w2 → Ret Tryz.prog g #[.agg (mpA (l.getD i (⟨none, 0, 0, [], none, 0, 0, [], none, 0, 0, []⟩ : Mp))), c1] w2 (fun v w3 => v = .bool (q (l.getD i (⟨none, 0, 0, [], none, 0, 0, [], none, 0, 0, []⟩ : Mp))) ∧ Sep w2 [] w3)) : Ret Tryz.prog 52 #[.slice la len cap, .func (.func g) #[] #[c1]] w (fun v w' => v = iv (indexF q l) ∧ Sep w [] w') := by
 have S0 := Sep.refl w
 refine Ret.named fun R hR => ?_
 refine Ret.of_J (N := 19) [(0, .slice la len cap), (1, .func (.func g) #[] #[c1])] Tryz.func52 rfl rfl (Nat.le_of_ble_eq_true (by kernel_rfl)) (by kernel_rfl) ?_
 refine J.run 13 K52_0 [(8, iv 0), (7, iv (len : Int)), (0, .slice la len cap), (1, .func (.func g) #[] #[c1])] w (by kernel_rfl) ?_
 have L52_1 : ∀ (mm_ : Nat) (i : Int) (w1 : World), (0 ≤ i) → (i ≤ (len : Int)) → (∀ j, j < (i).toNat → q (l.getD j (⟨none, 0, 0, [], none, 0, 0, [], none, 0, 0, []⟩ : Mp)) = false) → Sep w [] w1 → ((len : Int) - i).toNat = mm_ → J Tryz.prog 52 19 R K52_0 [(8, iv i), (7, iv (len : Int)), (0, .slice la len cap), (1, .func (.func g) #[] #[c1])] w1 := by
  intro mm1
  induction mm1 using Nat.strongRecOn with
  | _ mm1 ih1 =>
  intro i w1 h0 h1 hq S1 hm1
  refine J.run 5 K52_1 [(9, .bool (decide (i < (len : Int)))), (8, iv i), (7, iv (len : Int)), (0, .slice la len cap), (1, .func (.func g) #[] #[c1])] w1 (by kernel_rfl) ?_
  by_cases fk1 : i < (len : Int)
  ·skip
   refine J.head (.bool true) (congrArg Value.bool (decide_eq_true fk1)) ?_
   refine J.run 14 K52_2 [(13, iv i), (12, .slice la len cap), (11, .func (.func g) #[] #[c1]), (5, iv i), (8, iv i), (7, iv (len : Int)), (0, .slice la len cap), (1, .func (.func g) #[] #[c1])] w1 (by kernel_rfl) ?_
   obtain ⟨p1, hp1, hc1⟩ := hI.at (⟨none, 0, 0, [], none, 0, 0, [], none, 0, 0, []⟩ : Mp) (i).toNat (by omega)
   refine J.ok (OK.index 14 25 3 la p1 len (i).toNat i (p1.add ((i).toNat * 3)) (by kernel_rfl) (by kernel_rfl) hp1 (by omega) (by omega) rfl) ?_
   refine J.ok (OK.ldCells 15 52 (p1.add ((i).toNat * 3)) (mpC (l.getD (i).toNat (⟨none, 0, 0, [], none, 0, 0, [], none, 0, 0, []⟩ : Mp))) (by kernel_rfl) (by kernel_rfl) (by kernel_rfl) (fun j_ v_ hj_ => S1.cell (hc1 j_ v_ hj_))) ?_
   refine J.callF 16 g #[.agg (mpA (l.getD (i).toNat (⟨none, 0, 0, [], none, 0, 0, [], none, 0, 0, []⟩ : Mp))), c1] hbg (by kernel_rfl) (hcall (i).toNat w1 (by have := hI.len_eq; omega) S1.nil) ?_
   rintro _ w2 ⟨rfl, T1⟩
   have S2 : Sep w [] w2 := S1.trans T1
   clear T1 S1
   refine J.run 1 K52_3 [(16, .bool (q (l.getD (i).toNat (⟨none, 0, 0, [], none, 0, 0, [], none, 0, 0, []⟩ : Mp)))), (5, iv i), (8, iv i), (7, iv (len : Int)), (0, .slice la len cap), (1, .func (.func g) #[] #[c1])] w2 (by kernel_rfl) ?_
   rcases Bool.eq_false_or_eq_true (q (l.getD (i).toNat (⟨none, 0, 0, [], none, 0, 0, [], none, 0, 0, []⟩ : Mp))) with fk2 | fk2
   ·skip
    refine J.head (.bool true) (congrArg Value.bool fk2) ?_
    refine J.run 6 K52_4 [(4, iv i)] w2 (by kernel_rfl) ?_
    refine J.ret Tryz.f52 [iv i] Tryz.func52 ⟨by kernel_rfl, trivial⟩ ?_
    refine hR _ _ ?_
    exact ⟨by rw [tup_one, indexF_some (⟨none, 0, 0, [], none, 0, 0, [], none, 0, 0, []⟩ : Mp) i.toNat (by have := hI.len_eq; omega) hq fk2, Int.toNat_of_nonneg h0], S2.nil⟩
   ·skip
    refine J.head (.bool false) (congrArg Value.bool fk2) ?_
    refine J.run 5 K52_5 [(18, iv (IntKind.wrap .i64 (i + 1))), (7, iv (len : Int)), (0, .slice la len cap), (1, .func (.func g) #[] #[c1])] w2 (by kernel_rfl) ?_
    refine J.head (iv (i + 1)) (congrArg (Value.int .i64) (IntWalk.i64_in _ (by omega))) ?_
    refine J.run 3 K52_0 [(8, iv (i + 1)), (7, iv (len : Int)), (0, .slice la len cap), (1, .func (.func g) #[] #[c1])] w2 (by kernel_rfl) ?_
    refine J.run 0 K52_0 [(8, iv (i + 1)), (7, iv (len : Int)), (0, .slice la len cap), (1, .func (.func g) #[] #[c1])] w2 (by kernel_rfl) ?_
    exact ih1 _ (show ((len : Int) - (i + 1)).toNat < mm1 from by omega) (i + 1) w2 (by omega) (by omega) (by intro j hj; by_cases e : j = i.toNat; (subst e; exact fk2); exact hq j (by omega)) S2 rfl
  ·skip
   refine J.head (.bool false) (congrArg Value.bool (decide_eq_false fk1)) ?_
   refine J.run 6 K52_6 [(4, iv (-1))] w1 (by kernel_rfl) ?_
   refine J.ret Tryz.f52 [iv (-1)] Tryz.func52 ⟨by kernel_rfl, trivial⟩ ?_
   refine hR _ _ ?_
   exact ⟨by rw [tup_one, indexF_none (⟨none, 0, 0, [], none, 0, 0, [], none, 0, 0, []⟩ : Mp) fun j hj => hq j (by have := hI.len_eq; omega)], S1.nil⟩
 exact L52_1 _ 0 w (by omega) (by omega) (by intro j hj; simp at hj) S0 rfl

theorem hb17 : HasBody Tryz.prog 17 := fun _ _ => by kernel_rfl
noncomputable def K17_0 : List Item := adv 8 [] (bodyOf Tryz.f17)
noncomputable def K17_1 : List Item := adv 3 [] (popK K17_0)
set_option maxRecDepth 20000 in
set_option maxHeartbeats 20000000 in
theorem containsMP1 (la : Option Addr) (len cap : Nat) (l : List Mp) (g : FuncId) (c1 : Value) (q : Mp → Bool) (w : World) (hI : Recs mpE 3 w la len l) (hlen : len ≤ 9223372036854775807) (hbg : HasBody Tryz.prog g) (hcall : ∀ (i : Nat) (w2 : World), i < l.length → Sep w [] w2 → Ret Tryz.prog g #[.agg (mpA (l.getD i (⟨none, 0, 0, [], none, 0, 0, [], none, 0, 0, []⟩ : Mp))), c1] w2 (fun v w3 => v = .bool (q (l.getD i (⟨none, 0, 0, [], none, 0, 0, [], none, 0, 0, []⟩ : Mp))) ∧ Sep w2 [] w3)) : Ret Tryz.prog 17 #[.slice la len cap, .func (.func g) #[] #[c1]] w (fun v w' => v = .bool (l.any q) ∧ Sep w [] w') := by
 have S0 := Sep.refl w
 refine Ret.named fun R hR => ?_
 refine Ret.of_J (N := 9) [(0, .slice la len cap), (1, .func (.func g) #[] #[c1])] Tryz.func17 rfl rfl (Nat.le_of_ble_eq_true (by kernel_rfl)) (by kernel_rfl) ?_
 refine J.run 8 K17_0 [(6, .func (.func g) #[] #[c1]), (5, .slice la len cap)] w (by kernel_rfl) ?_
 refine J.callF 7 52 #[.slice la len cap, .func (.func g) #[] #[c1]] hb52 (by kernel_rfl) (indexMP1 la len cap l g c1 q _ (hI.sep S0) (by first | omega | (simp; omega)) hbg (hcall)) ?_
 rintro _ w1 ⟨rfl, T1⟩
 have S1 : Sep w [] w1 := S0.trans T1
 clear T1
 refine J.run 3 K17_1 [(4, .bool (decide ((indexF q l) ≥ 0)))] w1 (by kernel_rfl) ?_
 refine J.ret Tryz.f17 [.bool (decide ((indexF q l) ≥ 0))] Tryz.func17 ⟨by kernel_rfl, trivial⟩ ?_
 refine hR _ _ ?_
 exact ⟨congrArg Value.bool (by first | exact indexF_nonneg), S1.nil⟩

theorem hb70 : HasBody Tryz.prog 70 := fun _ _ => by kernel_rfl
noncomputable def K70_0 : List Item := adv 13 [] (bodyOf Tryz.f70)
noncomputable def K70_1 : List Item := adv 5 [] K70_0
noncomputable def K70_2 : List Item := adv 14 [true] K70_1
noncomputable def K70_3 : List Item := adv 1 [] (popK (popK (popK K70_2)))
noncomputable def K70_4 : List Item := adv 6 [true] K70_3
noncomputable def K70_5 : List Item := adv 5 [false] K70_3
noncomputable def K70_6 : List Item := adv 6 [false] K70_1
set_option maxRecDepth 20000 in
set_option maxHeartbeats 20000000 in
theorem indexIN2 (la : Option Addr) (len cap : Nat) (l : List Ins) (g : FuncId) (c1 : Value) (c2 : Value) (q : Ins → Bool) (w : World) (hI : Recs insE 5 w la len l) (hlen : len ≤ 9223372036854775807) (hbg : HasBody Tryz.prog g) (hcall : ∀ (i : Nat) (w2 : World), i < l.length → Sep w [] w2 → Ret Tryz.prog g #[.agg (insA (l.getD i ins0)), c1, c2] w2 (fun v w3 => v = .bool (q (l.getD i ins0)) ∧ Sep w2 [] w3)) : Ret Tryz.prog 70 #[.slice la len cap, .func (.func g) #[] #[c1, c2]] w (fun v w' => v = iv (indexF q l) ∧ Sep w [] w') := by
 have S0 := Sep.refl w
 refine Ret.named fun R hR => ?_
 refine Ret.of_J (N := 19) [(0, .slice la len cap), (1, .func (.func g) #[] #[c1, c2])] Tryz.func70 rfl rfl (Nat.le_of_ble_eq_true (by kernel_rfl)) (by kernel_rfl) ?_
 refine J.run 13 K70_0 [(8, iv 0), (7, iv (len : Int)), (0, .slice la len cap), (1, .func (.func g) #[] #[c1, c2])] w (by kernel_rfl) ?_
 have L70_1 : ∀ (mm_ : Nat) (i : Int) (w1 : World), (0 ≤ i) → (i ≤ (len : Int)) → (∀ j, j < (i).toNat → q (l.getD j ins0) = false) → Sep w [] w1 → ((len : Int) - i).toNat = mm_ → J Tryz.prog 70 19 R K70_0 [(8, iv i), (7, iv (len : Int)), (0, .slice la len cap), (1, .func (.func g) #[] #[c1, c2])] w1 := by
  intro mm1
  induction mm1 using Nat.strongRecOn with
  | _ mm1 ih1 =>
  intro i w1 h0 h1 hq S1 hm1
  refine J.run 5 K70_1 [(9, .bool (decide (i < (len : Int)))), (8, iv i), (7, iv (len : Int)), (0, .slice la len cap), (1, .func (.func g) #[] #[c1, c2])] w1 (by kernel_rfl) ?_
  by_cases fk1 : i < (len : Int)
  ·skip
   refine J.head (.bool true) (congrArg Value.bool (decide_eq_true fk1)) ?_
   refine J.run 14 K70_2 [(13, iv i), (12, .slice la len cap), (11, .func (.func g) #[] #[c1, c2]), (5, iv i), (8, iv i), (7, iv (len : Int)), (0, .slice la len cap), (1, .func (.func g) #[] #[c1, c2])] w1 (by kernel_rfl) ?_
   obtain ⟨p1, hp1, hc1⟩ := hI.at ins0 (i).toNat (by omega)
   refine J.ok (OK.index 14 22 5 la p1 len (i).toNat i (p1.add ((i).toNat * 5)) (by kernel_rfl) (by kernel_rfl) hp1 (by omega) (by omega) rfl) ?_
   refine J.ok (OK.ldCells 15 44 (p1.add ((i).toNat * 5)) (insC (l.getD (i).toNat ins0)) (by kernel_rfl) (by kernel_rfl) (by kernel_rfl) (fun j_ v_ hj_ => S1.cell (hc1 j_ v_ hj_))) ?_
   refine J.callF 16 g #[.agg (insA (l.getD (i).toNat ins0)), c1, c2] hbg (by kernel_rfl) (hcall (i).toNat w1 (by have := hI.len_eq; omega) S1.nil) ?_
   rintro _ w2 ⟨rfl, T1⟩
   have S2 : Sep w [] w2 := S1.trans T1
   clear T1 S1
   refine J.run 1 K70_3 [(16, .bool (q (l.getD (i).toNat ins0))), (5, iv i), (8, iv i), (7, iv (len : Int)), (0, .slice la len cap), (1, .func (.func g) #[] #[c1, c2])] w2 (by kernel_rfl) ?_
   rcases Bool.eq_false_or_eq_true (q (l.getD (i).toNat ins0)) with fk2 | fk2
   ·skip
    refine J.head (.bool true) (congrArg Value.bool fk2) ?_
    refine J.run 6 K70_4 [(4, iv i)] w2 (by kernel_rfl) ?_
    refine J.ret Tryz.f70 [iv i] Tryz.func70 ⟨by kernel_rfl, trivial⟩ ?_
    refine hR _ _ ?_
    exact ⟨by rw [tup_one, indexF_some ins0 i.toNat (by have := hI.len_eq; omega) hq fk2, Int.toNat_of_nonneg h0], S2.nil⟩
   ·skip
    refine J.head (.bool false) (congrArg Value.bool fk2) ?_
    refine J.run 5 K70_5 [(18, iv (IntKind.wrap .i64 (i + 1))), (7, iv (len : Int)), (0, .slice la len cap), (1, .func (.func g) #[] #[c1, c2])] w2 (by kernel_rfl) ?_
    refine J.head (iv (i + 1)) (congrArg (Value.int .i64) (IntWalk.i64_in _ (by omega))) ?_
    refine J.run 3 K70_0 [(8, iv (i + 1)), (7, iv (len : Int)), (0, .slice la len cap), (1, .func (.func g) #[] #[c1, c2])] w2 (by kernel_rfl) ?_
    refine J.run 0 K70_0 [(8, iv (i + 1)), (7, iv (len : Int)), (0, .slice la len cap), (1, .func (.func g) #[] #[c1, c2])] w2 (by kernel_rfl) ?_
    exact ih1 _ (show ((len : Int) - (i + 1)).toNat < mm1 from by omega) (i + 1) w2 (by omega) (by omega) (by intro j hj; by_cases e : j = i.toNat; (subst e; exact fk2); exact hq j (by omega)) S2 rfl
  ·skip
   refine J.head (.bool false) (congrArg Value.bool (decide_eq_false fk1)) ?_
   refine J.run 6 K70_6 [(4, iv (-1))] w1 (by kernel_rfl) ?_
   refine J.ret Tryz.f70 [iv (-1)] Tryz.func70 ⟨by kernel_rfl, trivial⟩ ?_
   refine hR _ _ ?_
   exact ⟨by rw [tup_one, indexF_none ins0 fun j hj => hq j (by have := hI.len_eq; omega)], S1.nil⟩
 exact L70_1 _ 0 w (by omega) (by omega) (by intro j hj; simp at hj) S0 rfl

theorem hb35 : HasBody Tryz.prog 35 := fun _ _ => by kernel_rfl
noncomputable def K35_0 : List Item := adv 8 [] (bodyOf Tryz.f35)
noncomputable def K35_1 : List Item := adv 3 [] (popK K35_0)
set_option maxRecDepth 20000 in
set_option maxHeartbeats 20000000 in
theorem containsIN2 (la : Option Addr) (len cap : Nat) (l : List Ins) (g : FuncId) (c1 : Value) (c2 : Value) (q : Ins → Bool) (w : World) (hI : Recs insE 5 w la len l) (hlen : len ≤ 9223372036854775807) (hbg : HasBody Tryz.prog g) (hcall : ∀ (i : Nat) (w2 : World), i < l.length → Sep w [] w2 → Ret Tryz.prog g #[.agg (insA (l.getD i ins0)), c1, c2] w2 (fun v w3 => v = .bool (q (l.getD i ins0)) ∧ Sep w2 [] w3)) : Ret Tryz.prog 35 #[.slice la len cap, .func (.func g) #[] #[c1, c2]] w (fun v w' => v = .bool (l.any q) ∧ Sep w [] w') := by
 have S0 := Sep.refl w
 refine Ret.named fun R hR => ?_
 refine Ret.of_J (N := 9) [(0, .slice la len cap), (1, .func (.func g) #[] #[c1, c2])] Tryz.func35 rfl rfl (Nat.le_of_ble_eq_true (by kernel_rfl)) (by kernel_rfl) ?_
 refine J.run 8 K35_0 [(6, .func (.func g) #[] #[c1, c2]), (5, .slice la len cap)] w (by kernel_rfl) ?_
 refine J.callF 7 70 #[.slice la len cap, .func (.func g) #[] #[c1, c2]] hb70 (by kernel_rfl) (indexIN2 la len cap l g c1 c2 q _ (hI.sep S0) (by first | omega | (simp; omega)) hbg (hcall)) ?_
 rintro _ w1 ⟨rfl, T1⟩
 have S1 : Sep w [] w1 := S0.trans T1
 clear T1
 refine J.run 3 K35_1 [(4, .bool (decide ((indexF q l) ≥ 0)))] w1 (by kernel_rfl) ?_
 refine J.ret Tryz.f35 [.bool (decide ((indexF q l) ≥ 0))] Tryz.func35 ⟨by kernel_rfl, trivial⟩ ?_
 refine hR _ _ ?_
 exact ⟨congrArg Value.bool (by first | exact indexF_nonneg), S1.nil⟩

noncomputable def K53a_0 : List Item := adv 13 [] (bodyOf Tryz.f53)
noncomputable def K53a_1 : List Item := adv 5 [] K53a_0
noncomputable def K53a_2 : List Item := adv 14 [true] K53a_1
noncomputable def K53a_3 : List Item := adv 1 [] (popK (popK (popK K53a_2)))
noncomputable def K53a_4 : List Item := adv 6 [true] K53a_3
noncomputable def K53a_5 : List Item := adv 5 [false] K53a_3
noncomputable def K53a_6 : List Item := adv 6 [false] K53a_1
set_option maxRecDepth 20000 in
set_option maxHeartbeats 20000000 in
theorem indexCV0 (la : Option Addr) (len cap : Nat) (l : List Crv) (g : FuncId) (q : Crv → Bool) (w : World) (hI : Recs crvE 2 w la len l) (hlen : len ≤ 9223372036854775807) (hbg : HasBody Tryz.prog g) (hcall : ∀ (i : Nat) (w2 : World), i < l.length → Sep w [] w2 → Ret Tryz.prog g #[.agg (crvA (l.getD i (⟨none, 0, 0, [], none, 0, 0, []⟩ : Crv)))] w2 (fun v w3 => v = .bool (q (l.getD i (⟨none, 0, 0, [], none, 0, 0, []⟩ : Crv))) ∧ Sep w2 [] w3)) : Ret Tryz.prog 53 #[.slice la len cap, .func (.func g) #[] #[]] w (fun v w' => v = iv (indexF q l) ∧ Sep w [] w') := by
 have S0 := Sep.refl w
 refine Ret.named fun R hR => ?_
 refine Ret.of_J (N := 19) [(0, .slice la len cap), (1, .func (.func g) #[] #[])] Tryz.func53 rfl rfl (Nat.le_of_ble_eq_true (by kernel_rfl)) (by kernel_rfl) ?_
 refine J.run 13 K53a_0 [(8, iv 0), (7, iv (len : Int)), (0, .slice la len cap), (1, .func (.func g) #[] #[])] w (by kernel_rfl) ?_
 have L53_1 : ∀ (mm_ : Nat) (i : Int) (w1 : World), (0 ≤ i) → (i ≤ (len : Int)) → (∀ j, j < (i).toNat → q (l.getD j (⟨none, 0, 0, [], none, 0, 0, []⟩ : Crv)) = false) → Sep w [] w1 → ((len : Int) - i).toNat = mm_ → J Tryz.prog 53 19 R K53a_0 [(8, iv i), (7, iv (len : Int)), (0, .slice la len cap), (1, .func (.func g) #[] #[])] w1 := by
  intro mm1
  induction mm1 using Nat.strongRecOn with
  | _ mm1 ih1 =>
  intro i w1 h0 h1 hq S1 hm1
  refine J.run 5 K53a_1 [(9, .bool (decide (i < (len : Int)))), (8, iv i), (7, iv (len : Int)), (0, .slice la len cap), (1, .func (.func g) #[] #[])] w1 (by kernel_rfl) ?_
  by_cases fk1 : i < (len : Int)
  ·skip
   refine J.head (.bool true) (congrArg Value.bool (decide_eq_true fk1)) ?_
   refine J.run 14 K53a_2 [(13, iv i), (12, .slice la len cap), (11, .func (.func g) #[] #[]), (5, iv i), (8, iv i), (7, iv (len : Int)), (0, .slice la len cap), (1, .func (.func g) #[] #[])] w1 (by kernel_rfl) ?_
   obtain ⟨p1, hp1, hc1⟩ := hI.at (⟨none, 0, 0, [], none, 0, 0, []⟩ : Crv) (i).toNat (by omega)
   refine J.ok (OK.index 14 24 2 la p1 len (i).toNat i (p1.add ((i).toNat * 2)) (by kernel_rfl) (by kernel_rfl) hp1 (by omega) (by omega) rfl) ?_
   refine J.ok (OK.ldCells 15 56 (p1.add ((i).toNat * 2)) (crvC (l.getD (i).toNat (⟨none, 0, 0, [], none, 0, 0, []⟩ : Crv))) (by kernel_rfl) (by kernel_rfl) (by kernel_rfl) (fun j_ v_ hj_ => S1.cell (hc1 j_ v_ hj_))) ?_
   refine J.callF 16 g #[.agg (crvA (l.getD (i).toNat (⟨none, 0, 0, [], none, 0, 0, []⟩ : Crv)))] hbg (by kernel_rfl) (hcall (i).toNat w1 (by have := hI.len_eq; omega) S1.nil) ?_
   rintro _ w2 ⟨rfl, T1⟩
   have S2 : Sep w [] w2 := S1.trans T1
   clear T1 S1
   refine J.run 1 K53a_3 [(16, .bool (q (l.getD (i).toNat (⟨none, 0, 0, [], none, 0, 0, []⟩ : Crv)))), (5, iv i), (8, iv i), (7, iv (len : Int)), (0, .slice la len cap), (1, .func (.func g) #[] #[])] w2 (by kernel_rfl) ?_
   rcases Bool.eq_false_or_eq_true (q (l.getD (i).toNat (⟨none, 0, 0, [], none, 0, 0, []⟩ : Crv))) with fk2 | fk2
   ·skip
    refine J.head (.bool true) (congrArg Value.bool fk2) ?_
    refine J.run 6 K53a_4 [(4, iv i)] w2 (by kernel_rfl) ?_
    refine J.ret Tryz.f53 [iv i] Tryz.func53 ⟨by kernel_rfl, trivial⟩ ?_
    refine hR _ _ ?_
    exact ⟨by rw [tup_one, indexF_some (⟨none, 0, 0, [], none, 0, 0, []⟩ : Crv) i.toNat (by have := hI.len_eq; omega) hq fk2, Int.toNat_of_nonneg h0], S2.nil⟩
   ·skip
    refine J.head (.bool false) (congrArg Value.bool fk2) ?_
    refine J.run 5 K53a_5 [(18, iv (IntKind.wrap .i64 (i + 1))), (7, iv (len : Int)), (0, .slice la len cap), (1, .func (.func g) #[] #[])] w2 (by kernel_rfl) ?_
    refine J.head (iv (i + 1)) (congrArg (Value.int .i64) (IntWalk.i64_in _ (by omega))) ?_
    refine J.run 3 K53a_0 [(8, iv (i + 1)), (7, iv (len : Int)), (0, .slice la len cap), (1, .func (.func g) #[] #[])] w2 (by kernel_rfl) ?_
    refine J.run 0 K53a_0 [(8, iv (i + 1)), (7, iv (len : Int)), (0, .slice la len cap), (1, .func (.func g) #[] #[])] w2 (by kernel_rfl) ?_
    exact ih1 _ (show ((len : Int) - (i + 1)).toNat < mm1 from by omega) (i + 1) w2 (by omega) (by omega) (by intro j hj; by_cases e : j = i.toNat; (subst e; exact fk2); exact hq j (by omega)) S2 rfl
  ·skip
   refine J.head (.bool false) (congrArg Value.bool (decide_eq_false fk1)) ?_
   refine J.run 6 K53a_6 [(4, iv (-1))] w1 (by kernel_rfl) ?_
   refine J.ret Tryz.f53 [iv (-1)] Tryz.func53 ⟨by kernel_rfl, trivial⟩ ?_
   refine hR _ _ ?_
   exact ⟨by rw [tup_one, indexF_none (⟨none, 0, 0, [], none, 0, 0, []⟩ : Crv) fun j hj => hq j (by have := hI.len_eq; omega)], S1.nil⟩
 exact L53_1 _ 0 w (by omega) (by omega) (by intro j hj; simp at hj) S0 rfl

noncomputable def K19a_0 : List Item := adv 8 [] (bodyOf Tryz.f19)
noncomputable def K19a_1 : List Item := adv 3 [] (popK K19a_0)
set_option maxRecDepth 20000 in
set_option maxHeartbeats 20000000 in
theorem containsCV0 (la : Option Addr) (len cap : Nat) (l : List Crv) (g : FuncId) (q : Crv → Bool) (w : World) (hI : Recs crvE 2 w la len l) (hlen : len ≤ 9223372036854775807) (hbg : HasBody Tryz.prog g) (hcall : ∀ (i : Nat) (w2 : World), i < l.length → Sep w [] w2 → Ret Tryz.prog g #[.agg (crvA (l.getD i (⟨none, 0, 0, [], none, 0, 0, []⟩ : Crv)))] w2 (fun v w3 => v = .bool (q (l.getD i (⟨none, 0, 0, [], none, 0, 0, []⟩ : Crv))) ∧ Sep w2 [] w3)) : Ret Tryz.prog 19 #[.slice la len cap, .func (.func g) #[] #[]] w (fun v w' => v = .bool (l.any q) ∧ Sep w [] w') := by
 have S0 := Sep.refl w
 refine Ret.named fun R hR => ?_
 refine Ret.of_J (N := 9) [(0, .slice la len cap), (1, .func (.func g) #[] #[])] Tryz.func19 rfl rfl (Nat.le_of_ble_eq_true (by kernel_rfl)) (by kernel_rfl) ?_
 refine J.run 8 K19a_0 [(6, .func (.func g) #[] #[]), (5, .slice la len cap)] w (by kernel_rfl) ?_
 refine J.callF 7 53 #[.slice la len cap, .func (.func g) #[] #[]] hb53 (by kernel_rfl) (indexCV0 la len cap l g  q _ (hI.sep S0) (by first | omega | (simp; omega)) hbg (hcall)) ?_
 rintro _ w1 ⟨rfl, T1⟩
 have S1 : Sep w [] w1 := S0.trans T1
 clear T1
 refine J.run 3 K19a_1 [(4, .bool (decide ((indexF q l) ≥ 0)))] w1 (by kernel_rfl) ?_
 refine J.ret Tryz.f19 [.bool (decide ((indexF q l) ≥ 0))] Tryz.func19 ⟨by kernel_rfl, trivial⟩ ?_
 refine hR _ _ ?_
 exact ⟨congrArg Value.bool (by first | exact indexF_nonneg), S1.nil⟩

noncomputable def K52a_0 : List Item := adv 13 [] (bodyOf Tryz.f52)
noncomputable def K52a_1 : List Item := adv 5 [] K52a_0
noncomputable def K52a_2 : List Item := adv 14 [true] K52a_1
noncomputable def K52a_3 : List Item := adv 1 [] (popK (popK (popK K52a_2)))
noncomputable def K52a_4 : List Item := adv 6 [true] K52a_3
noncomputable def K52a_5 : List Item := adv 5 [false] K52a_3
noncomputable def K52a_6 : List Item := adv 6 [false] K52a_1
set_option maxRecDepth 20000 in
set_option maxHeartbeats 20000000 in
theorem indexMP0 (la : Option Addr) (len cap : Nat) (l : List Mp) (g : FuncId) (q : Mp → Bool) (w : World) (hI : Recs mpE 3 w la len l) (hlen : len ≤ 9223372036854775807) (hbg : HasBody Tryz.prog g) (hcall : ∀ (i : Nat) (w2 : World), i < l.length → Sep w [] w2 → Ret Tryz.prog g #[.agg (mpA (l.getD i (⟨none, 0, 0, [], none, 0, 0, [], none, 0, 0, []⟩ : Mp)))] w2 (fun v w3 => v = .bool (q (l.getD i (⟨none, 0, 0, [], none, 0, 0, [], none, 0, 0, []⟩ : Mp))) ∧ Sep w2 [] w3)) : Ret Tryz.prog 52 #[.slice la len cap, .func (.func g) #[] #[]] w (fun v w' => v = iv (indexF q l) ∧ Sep w [] w') := by
 have S0 := Sep.refl w
 refine Ret.named fun R hR => ?_
 refine Ret.of_J (N := 19) [(0, .slice la len cap), (1, .func (.func g) #[] #[])] Tryz.func52 rfl rfl (Nat.le_of_ble_eq_true (by kernel_rfl)) (by kernel_rfl) ?_
 refine J.run 13 K52a_0 [(8, iv 0), (7, iv (len : Int)), (0, .slice la len cap), (1, .func (.func g) #[] #[])] w (by kernel_rfl) ?_
 have L52_1 : ∀ (mm_ : Nat) (i : Int) (w1 : World), (0 ≤ i) → (i ≤ (len : Int)) → (∀ j, j < (i).toNat → q (l.getD j (⟨none, 0, 0, [], none, 0, 0, [], none, 0, 0, []⟩ : Mp)) = false) → Sep w [] w1 → ((len : Int) - i).toNat = mm_ → J Tryz.prog 52 19 R K52a_0 [(8, iv i), (7, iv (len : Int)), (0, .slice la len cap), (1, .func (.func g) #[] #[])] w1 := by
  intro mm1
  induction mm1 using Nat.strongRecOn with
  | _ mm1 ih1 =>
  intro i w1 h0 h1 hq S1 hm1
  refine J.run 5 K52a_1 [(9, .bool (decide (i < (len : Int)))), (8, iv i), (7, iv (len : Int)), (0, .slice la len cap), (1, .func (.func g) #[] #[])] w1 (by kernel_rfl) ?_
  by_cases fk1 : i < (len : Int)
  ·skip
   refine J.head (.bool true) (congrArg Value.bool (decide_eq_true fk1)) ?_
   refine J.run 14 K52a_2 [(13, iv i), (12, .slice la len cap), (11, .func (.func g) #[] #[]), (5, iv i), (8, iv i), (7, iv (len : Int)), (0, .slice la len cap), (1, .func (.func g) #[] #[])] w1 (by kernel_rfl) ?_
   obtain ⟨p1, hp1, hc1⟩ := hI.at (⟨none, 0, 0, [], none, 0, 0, [], none, 0, 0, []⟩ : Mp) (i).toNat (by omega)
   refine J.ok (OK.index 14 25 3 la p1 len (i).toNat i (p1.add ((i).toNat * 3)) (by kernel_rfl) (by kernel_rfl) hp1 (by omega) (by omega) rfl) ?_
   refine J.ok (OK.ldCells 15 52 (p1.add ((i).toNat * 3)) (mpC (l.getD (i).toNat (⟨none, 0, 0, [], none, 0, 0, [], none, 0, 0, []⟩ : Mp))) (by kernel_rfl) (by kernel_rfl) (by kernel_rfl) (fun j_ v_ hj_ => S1.cell (hc1 j_ v_ hj_))) ?_
   refine J.callF 16 g #[.agg (mpA (l.getD (i).toNat (⟨none, 0, 0, [], none, 0, 0, [], none, 0, 0, []⟩ : Mp)))] hbg (by kernel_rfl) (hcall (i).toNat w1 (by have := hI.len_eq; omega) S1.nil) ?_
   rintro _ w2 ⟨rfl, T1⟩
   have S2 : Sep w [] w2 := S1.trans T1
   clear T1 S1
   refine J.run 1 K52a_3 [(16, .bool (q (l.getD (i).toNat (⟨none, 0, 0, [], none, 0, 0, [], none, 0, 0, []⟩ : Mp)))), (5, iv i), (8, iv i), (7, iv (len : Int)), (0, .slice la len cap), (1, .func (.func g) #[] #[])] w2 (by kernel_rfl) ?_
   rcases Bool.eq_false_or_eq_true (q (l.getD (i).toNat (⟨none, 0, 0, [], none, 0, 0, [], none, 0, 0, []⟩ : Mp))) with fk2 | fk2
   ·skip
    refine J.head (.bool true) (congrArg Value.bool fk2) ?_
    refine J.run 6 K52a_4 [(4, iv i)] w2 (by kernel_rfl) ?_
    refine J.ret Tryz.f52 [iv i] Tryz.func52 ⟨by kernel_rfl, trivial⟩ ?_
    refine hR _ _ ?_
    exact ⟨by rw [tup_one, indexF_some (⟨none, 0, 0, [], none, 0, 0, [], none, 0, 0, []⟩ : Mp) i.toNat (by have := hI.len_eq; omega) hq fk2, Int.toNat_of_nonneg h0], S2.nil⟩
   ·skip
    refine J.head (.bool false) (congrArg Value.bool fk2) ?_
    refine J.run 5 K52a_5 [(18, iv (IntKind.wrap .i64 (i + 1))), (7, iv (len : Int)), (0, .slice la len cap), (1, .func (.func g) #[] #[])] w2 (by kernel_rfl) ?_
    refine J.head (iv (i + 1)) (congrArg (Value.int .i64) (IntWalk.i64_in _ (by omega))) ?_
    refine J.run 3 K52a_0 [(8, iv (i + 1)), (7, iv (len : Int)), (0, .slice la len cap), (1, .func (.func g) #[] #[])] w2 (by kernel_rfl) ?_
    refine J.run 0 K52a_0 [(8, iv (i + 1)), (7, iv (len : Int)), (0, .slice la len cap), (1, .func (.func g) #[] #[])] w2 (by kernel_rfl) ?_
    exact ih1 _ (show ((len : Int) - (i + 1)).toNat < mm1 from by omega) (i + 1) w2 (by omega) (by omega) (by intro j hj; by_cases e : j = i.toNat; (subst e; exact fk2); exact hq j (by omega)) S2 rfl
  ·skip
   refine J.head (.bool false) (congrArg Value.bool (decide_eq_false fk1)) ?_
   refine J.run 6 K52a_6 [(4, iv (-1))] w1 (by kernel_rfl) ?_
   refine J.ret Tryz.f52 [iv (-1)] Tryz.func52 ⟨by kernel_rfl, trivial⟩ ?_
   refine hR _ _ ?_
   exact ⟨by rw [tup_one, indexF_none (⟨none, 0, 0, [], none, 0, 0, [], none, 0, 0, []⟩ : Mp) fun j hj => hq j (by have := hI.len_eq; omega)], S1.nil⟩
 exact L52_1 _ 0 w (by omega) (by omega) (by intro j hj; simp at hj) S0 rfl

noncomputable def K17a_0 : List Item := adv 8 [] (bodyOf Tryz.f17)
noncomputable def K17a_1 : List Item := adv 3 [] (popK K17a_0)
set_option maxRecDepth 20000 in
set_option maxHeartbeats 20000000 in
theorem containsMP0 (la : Option Addr) (len cap : Nat) (l : List Mp) (g : FuncId) (q : Mp → Bool) (w : World) (hI : Recs mpE 3 w la len l) (hlen : len ≤ 9223372036854775807) (hbg : HasBody Tryz.prog g) (hcall : ∀ (i : Nat) (w2 : World), i < l.length → Sep w [] w2 → Ret Tryz.prog g #[.agg (mpA (l.getD i (⟨none, 0, 0, [], none, 0, 0, [], none, 0, 0, []⟩ : Mp)))] w2 (fun v w3 => v = .bool (q (l.getD i (⟨none, 0, 0, [], none, 0, 0, [], none, 0, 0, []⟩ : Mp))) ∧ Sep w2 [] w3)) : Ret Tryz.prog 17 #[.slice la len cap, .func (.func g) #[] #[]] w (fun v w' => v = .bool (l.any q) ∧ Sep w [] w') := by
 have S0 := Sep.refl w
 refine Ret.named fun R hR => ?_
 refine Ret.of_J (N := 9) [(0, .slice la len cap), (1, .func (.func g) #[] #[])] Tryz.func17 rfl rfl (Nat.le_of_ble_eq_true (by kernel_rfl)) (by kernel_rfl) ?_
 refine J.run 8 K17a_0 [(6, .func (.func g) #[] #[]), (5, .slice la len cap)] w (by kernel_rfl) ?_
 refine J.callF 7 52 #[.slice la len cap, .func (.func g) #[] #[]] hb52 (by kernel_rfl) (indexMP0 la len cap l g  q _ (hI.sep S0) (by first | omega | (simp; omega)) hbg (hcall)) ?_
 rintro _ w1 ⟨rfl, T1⟩
 have S1 : Sep w [] w1 := S0.trans T1
 clear T1
 refine J.run 3 K17a_1 [(4, .bool (decide ((indexF q l) ≥ 0)))] w1 (by kernel_rfl) ?_
 refine J.ret Tryz.f17 [.bool (decide ((indexF q l) ≥ 0))] Tryz.func17 ⟨by kernel_rfl, trivial⟩ ?_
 refine hR _ _ ?_
 exact ⟨congrArg Value.bool (by first | exact indexF_nonneg), S1.nil⟩

noncomputable def K74a_0 : List Item := adv 13 [] (bodyOf Tryz.f74)
noncomputable def K74a_1 : List Item := adv 5 [] K74a_0
noncomputable def K74a_2 : List Item := adv 14 [true] K74a_1
noncomputable def K74a_3 : List Item := adv 1 [] (popK (popK (popK K74a_2)))
noncomputable def K74a_4 : List Item := adv 6 [true] K74a_3
noncomputable def K74a_5 : List Item := adv 5 [false] K74a_3
noncomputable def K74a_6 : List Item := adv 6 [false] K74a_1
set_option maxRecDepth 20000 in
set_option maxHeartbeats 20000000 in
theorem indexI1 (la : Option Addr) (len cap : Nat) (l : List Int) (g : FuncId) (c1 : Value) (q : Int → Bool) (w : World) (hI : Ones (Value.int .i64) w la len l) (hlen : len ≤ 9223372036854775807) (hbg : HasBody Tryz.prog g) (hcall : ∀ (i : Nat) (w2 : World), i < l.length → Sep w [] w2 → Ret Tryz.prog g #[iv (l.getD i 0), c1] w2 (fun v w3 => v = .bool (q (l.getD i 0)) ∧ Sep w2 [] w3)) : Ret Tryz.prog 74 #[.slice la len cap, .func (.func g) #[] #[c1]] w (fun v w' => v = iv (indexF q l) ∧ Sep w [] w') := by
 have S0 := Sep.refl w
 refine Ret.named fun R hR => ?_
 refine Ret.of_J (N := 19) [(0, .slice la len cap), (1, .func (.func g) #[] #[c1])] Tryz.func74 rfl rfl (Nat.le_of_ble_eq_true (by kernel_rfl)) (by kernel_rfl) ?_
 refine J.run 13 K74a_0 [(8, iv 0), (7, iv (len : Int)), (0, .slice la len cap), (1, .func (.func g) #[] #[c1])] w (by kernel_rfl) ?_
 have L74_1 : ∀ (mm_ : Nat) (i : Int) (w1 : World), (0 ≤ i) → (i ≤ (len : Int)) → (∀ j, j < (i).toNat → q (l.getD j 0) = false) → Sep w [] w1 → ((len : Int) - i).toNat = mm_ → J Tryz.prog 74 19 R K74a_0 [(8, iv i), (7, iv (len : Int)), (0, .slice la len cap), (1, .func (.func g) #[] #[c1])] w1 := by
  intro mm1
  induction mm1 using Nat.strongRecOn with
  | _ mm1 ih1 =>
  intro i w1 h0 h1 hq S1 hm1
  refine J.run 5 K74a_1 [(9, .bool (decide (i < (len : Int)))), (8, iv i), (7, iv (len : Int)), (0, .slice la len cap), (1, .func (.func g) #[] #[c1])] w1 (by kernel_rfl) ?_
  by_cases fk1 : i < (len : Int)
  ·skip
   refine J.head (.bool true) (congrArg Value.bool (decide_eq_true fk1)) ?_
   refine J.run 14 K74a_2 [(13, iv i), (12, .slice la len cap), (11, .func (.func g) #[] #[c1]), (5, iv i), (8, iv i), (7, iv (len : Int)), (0, .slice la len cap), (1, .func (.func g) #[] #[c1])] w1 (by kernel_rfl) ?_
   obtain ⟨p1, hp1, hc1⟩ := hI.at 0 (i).toNat (by omega)
   refine J.ok (OK.index 14 26 1 la p1 len (i).toNat i (p1.add (i).toNat) (by kernel_rfl) (by kernel_rfl) hp1 (by omega) (by omega) (by rw [Nat.mul_one])) ?_
   refine J.ok (OK.ldCell 15 3 (p1.add (i).toNat) (iv (l.getD (i).toNat 0)) (by kernel_rfl) (by kernel_rfl) (S1.cell hc1)) ?_
   refine J.callF 16 g #[iv (l.getD (i).toNat 0), c1] hbg (by kernel_rfl) (hcall (i).toNat w1 (by have := hI.len_eq; omega) S1.nil) ?_
   rintro _ w2 ⟨rfl, T1⟩
   have S2 : Sep w [] w2 := S1.trans T1
   clear T1 S1
   refine J.run 1 K74a_3 [(16, .bool (q (l.getD (i).toNat 0))), (5, iv i), (8, iv i), (7, iv (len : Int)), (0, .slice la len cap), (1, .func (.func g) #[] #[c1])] w2 (by kernel_rfl) ?_
   rcases Bool.eq_false_or_eq_true (q (l.getD (i).toNat 0)) with fk2 | fk2
   ·skip
    refine J.head (.bool true) (congrArg Value.bool fk2) ?_
    refine J.run 6 K74a_4 [(4, iv i)] w2 (by kernel_rfl) ?_
    refine J.ret Tryz.f74 [iv i] Tryz.func74 ⟨by kernel_rfl, trivial⟩ ?_
    refine hR _ _ ?_
    exact ⟨by rw [tup_one, indexF_some 0 i.toNat (by have := hI.len_eq; omega) hq fk2, Int.toNat_of_nonneg h0], S2.nil⟩
   ·skip
    refine J.head (.bool false) (congrArg Value.bool fk2) ?_
    refine J.run 5 K74a_5 [(18, iv (IntKind.wrap .i64 (i + 1))), (7, iv (len : Int)), (0, .slice la len cap), (1, .func (.func g) #[] #[c1])] w2 (by kernel_rfl) ?_
    refine J.head (iv (i + 1)) (congrArg (Value.int .i64) (IntWalk.i64_in _ (by omega))) ?_
    refine J.run 3 K74a_0 [(8, iv (i + 1)), (7, iv (len : Int)), (0, .slice la len cap), (1, .func (.func g) #[] #[c1])] w2 (by kernel_rfl) ?_
    refine J.run 0 K74a_0 [(8, iv (i + 1)), (7, iv (len : Int)), (0, .slice la len cap), (1, .func (.func g) #[] #[c1])] w2 (by kernel_rfl) ?_
    exact ih1 _ (show ((len : Int) - (i + 1)).toNat < mm1 from by omega) (i + 1) w2 (by omega) (by omega) (by intro j hj; by_cases e : j = i.toNat; (subst e; exact fk2); exact hq j (by omega)) S2 rfl
  ·skip
   refine J.head (.bool false) (congrArg Value.bool (decide_eq_false fk1)) ?_
   refine J.run 6 K74a_6 [(4, iv (-1))] w1 (by kernel_rfl) ?_
   refine J.ret Tryz.f74 [iv (-1)] Tryz.func74 ⟨by kernel_rfl, trivial⟩ ?_
   refine hR _ _ ?_
   exact ⟨by rw [tup_one, indexF_none 0 fun j hj => hq j (by have := hI.len_eq; omega)], S1.nil⟩
 exact L74_1 _ 0 w (by omega) (by omega) (by intro j hj; simp at hj) S0 rfl

noncomputable def K38a_0 : List Item := adv 8 [] (bodyOf Tryz.f38)
noncomputable def K38a_1 : List Item := adv 3 [] (popK K38a_0)
set_option maxRecDepth 20000 in
set_option maxHeartbeats 20000000 in
theorem containsI1 (la : Option Addr) (len cap : Nat) (l : List Int) (g : FuncId) (c1 : Value) (q : Int → Bool) (w : World) (hI : Ones (Value.int .i64) w la len l) (hlen : len ≤ 9223372036854775807) (hbg : HasBody Tryz.prog g) (hcall : ∀ (i : Nat) (w2 : World), i < l.length → Sep w [] w2 → Ret Tryz.prog g #[iv (l.getD i 0), c1] w2 (fun v w3 => v = .bool (q (l.getD i 0)) ∧ Sep w2 [] w3)) : Ret Tryz.prog 38 #[.slice la len cap, .func (.func g) #[] #[c1]] w (fun v w' => v = .bool (l.any q) ∧ Sep w [] w') := by
 have S0 := Sep.refl w
 refine Ret.named fun R hR => ?_
 refine Ret.of_J (N := 9) [(0, .slice la len cap), (1, .func (.func g) #[] #[c1])] Tryz.func38 rfl rfl (Nat.le_of_ble_eq_true (by kernel_rfl)) (by kernel_rfl) ?_
 refine J.run 8 K38a_0 [(6, .func (.func g) #[] #[c1]), (5, .slice la len cap)] w (by kernel_rfl) ?_
 refine J.callF 7 74 #[.slice la len cap, .func (.func g) #[] #[c1]] hb74 (by kernel_rfl) (indexI1 la len cap l g c1 q _ (hI.sep S0) (by first | omega | (simp; omega)) hbg (hcall)) ?_
 rintro _ w1 ⟨rfl, T1⟩
 have S1 : Sep w [] w1 := S0.trans T1
 clear T1
 refine J.run 3 K38a_1 [(4, .bool (decide ((indexF q l) ≥ 0)))] w1 (by kernel_rfl) ?_
 refine J.ret Tryz.f38 [.bool (decide ((indexF q l) ≥ 0))] Tryz.func38 ⟨by kernel_rfl, trivial⟩ ?_
 refine hR _ _ ?_
 exact ⟨congrArg Value.bool (by first | exact indexF_nonneg), S1.nil⟩

end Go.Proofs.YthfpejhonhaggaaGreatDoor

