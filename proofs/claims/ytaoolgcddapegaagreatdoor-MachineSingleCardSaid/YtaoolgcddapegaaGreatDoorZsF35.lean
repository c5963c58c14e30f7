/- Walks of functions of this seat, printed by a program over the engine. Conditions: as each theorem says. -/
import Derived.Test.YtaoolgcddapegaaGreatDoorZsF34
namespace Go.Proofs.YtaoolgcddapegaaGreatDoor
open Go.Eng Go.RowKit
set_option linter.unusedSimpArgs false
set_option linter.unusedVariables false
set_option maxRecDepth 20000
set_option maxHeartbeats 20000000
abbrev kvF35_1 : List Value := [iv 0, .bool false, iv 0, iv 0, iv 0, iv 0, iv 0, iv 0, iv 0, iv 0, iv 0]
theorem hb196 : HasBody Tryz.prog 196 := fun _ _ => by kernel_rfl

theorem within_any (r : Int) (t : Fxd) (w : World) (ht : fxdQ w t) (ft : fixB t = true) (rt : inT t r) : Ret Tryz.prog 196 #[.agg #[iv r, iv r], .agg (fxdA t)] w (fun v w' => v = .bool true ∧ Sep w [] w') := by
 refine Ret.st (N := 33) Tryz.func196 fun R hR S0 => ?_
 obtain ⟨q1, q2, q3, q4, q5, q6, q7, q8, q9, _⟩ := id ht
 refine J.nw 2 [] [] [] S0 2 [iv r, iv r] 218 fun b1 w1 S1 => ?_
 refine J.nw 0 [] [] [] S1 3 (fxdC t) 75 fun b2 w2 S2 => ?_
 refine J.lb 4 [] [] [] S2 0 rfl 8 (.agg (fxdA t)) ?_
 refine J.c0 0 [] [] [] S2 9 hb160 (lim_any t _ (fxdQ_sep ht S2)) fun w3 S3 => ?_
 have hlim := lim_bd (t)
 refine J.lb 8 [] [(6, iv (limHi t)), (5, iv (limLo t))] [] S3 0 rfl 12 (.agg (fxdA t)) ?_
 refine J.c0 0 [] [] [] S3 13 hb95 (fxvalid_any t _ (fxdQ_sep ht S3)) fun w4 S4 => ?_
 have fk2 : (fixB t) = true := ft
 refine J.h 1 [] [] [] 14 (.bool (fixB t)) (.bool true) (congrArg Value.bool fk2) ?_
 refine J.lb 1 [] [] [] S4 1 rfl 16 (iv r) ?_
 refine J.lb 1 [] [] [] S4 1 rfl 18 (iv r) ?_
 have fk4 : r ≤ r := by omega
 refine J.h 3 [] [] [] 21 (.bool (decide (r ≤ r))) (.bool true) (congrArg Value.bool (decide_eq_true fk4)) ?_
 refine J.lb 1 [] [] [] S4 1 rfl 23 (iv r) ?_
 have fk6 : r ≥ (limLo t) := by omega
 refine J.h 4 [] [] [] 27 (.bool (decide (r ≥ (limLo t)))) (.bool true) (congrArg Value.bool (decide_eq_true fk6)) ?_
 refine J.lb 1 [] [] [] S4 1 rfl 29 (iv r) ?_
 refine J.e 5 [.bool (decide (r ≤ (limHi t)))] Tryz.func196 (hR _ _ ?_)
 exact ⟨congrArg Value.bool (decide_eq_true (by omega)), S4.nil⟩

theorem hb163 : HasBody Tryz.prog 163 := fun _ _ => by kernel_rfl

theorem valid4_any (t : Fxd) (r : Int) (w : World) (ht : fxdQ w t) (ft : fixB t = true) (rt : inT t r) : Ret Tryz.prog 163 #[.agg (vlA t r)] w (fun v w' => v = .bool true ∧ Sep w [] w') := by
 refine Ret.st (N := 11) Tryz.func163 fun R hR S0 => ?_
 obtain ⟨q1, q2, q3, q4, q5, q6, q7, q8, q9, _⟩ := id ht
 refine J.nw 2 [] [] [] S0 1 (vlL t r) 82 fun b1 w1 S1 => ?_
 refine J.lb 5 [] [] [] S1 0 rfl 4 (iv r) ?_
 refine J.lb 1 [] [] [] S1 0 rfl 6 (iv r) ?_
 refine J.lb 2 [] [(7, .agg #[iv r, iv r])] [] S1 0 rfl 9 (.agg (fxdA t)) ?_
 refine J.c0 0 [] [] [] S1 10 hb196 (within_any r t _ (fxdQ_sep ht S1) ft rt) fun w2 S2 => ?_
 refine J.e 2 [.bool true] Tryz.func163 (hR _ _ ?_)
 exact ⟨rfl, S2.nil⟩

theorem hb194 : HasBody Tryz.prog 194 := fun _ _ => by kernel_rfl

theorem fit_any (op : Int) (a b t : Unt) (w : World) : Ret Tryz.prog 194 #[iv op, .agg (untA a), .agg (untA b), .agg (untA t)] w (fun v w' => v = .bool (fitOK op a b t) ∧ Sep w [] w') := by
 refine Ret.st (N := 42) Tryz.func194 fun R hR S0 => ?_
 refine J.nw 2 [] [] [] S0 5 (untC a) 73 fun b1 w1 S1 => ?_
 refine J.nw 0 [] [] [] S1 6 (untC b) 73 fun b2 w2 S2 => ?_
 refine J.nw 0 [] [] [] S2 7 (untC t) 73 fun b3 w3 S3 => ?_
 refine J.c 17 [] [(10, iv op)] [] 19 (op = 3) (fun fk1 => ?_) fun fk1 => ?_
 ·skip
  refine J.lb 2 [true] [] [] S3 2 rfl 22 (.agg (untA a)) ?_
  refine J.lb 0 [] [] [] S3 1 rfl 23 (.agg (untA b)) ?_
  refine J.c0 0 [] [] [] S3 24 hb186 (umul_any a b _) fun w4 S4 => ?_
  refine J.sb 3 [] [(26, iv (unE a b 1))] [] S4 2 rfl (untC (unX a b 1)) rfl fun w5 S5 => ?_
  refine J.c 8 [] [] [] 37 ((unE a b 1) = 0) (fun fk2 => ?_) fun fk2 => ?_
  ·skip
   refine J.lb 0 [] [] [] S5 2 rfl 38 (.agg (untA (unX a b 1))) ?_
   refine J.lb 0 [] [] [] S5 0 rfl 39 (.agg (untA t)) ?_
   refine J.ok (OK.eqUnt 40 (unX a b 1) t (by kernel_rfl)) ?_
   refine J.e 3 [.bool (unEq (unX a b 1) t)] Tryz.func194 (hR _ _ ?_)
   exact ⟨congrArg Value.bool (by unfold fitOK; (repeat first | rw [if_pos (by omega)] | rw [if_neg (by omega)]); first | rfl | (simp [fk2]; done) | (simp [fk2]; rfl)), S5.nil⟩
  refine J.e 6 [.bool false] Tryz.func194 (hR _ _ ?_)
  exact ⟨congrArg Value.bool (by unfold fitOK; (repeat first | rw [if_pos (by omega)] | rw [if_neg (by omega)]); first | rfl | (simp [fk2]; done) | (simp [fk2]; rfl)), S5.nil⟩
 refine J.c 6 [false] [] [] 27 (op = 4) (fun fk3 => ?_) fun fk3 => ?_
 ·skip
  refine J.lb 2 [true] [] [] S3 2 rfl 30 (.agg (untA a)) ?_
  refine J.lb 0 [] [] [] S3 1 rfl 31 (.agg (untA b)) ?_
  refine J.c0 0 [] [] [] S3 32 hb187 (udiv_any a b _) fun w6 S6 => ?_
  refine J.sb 3 [] [(34, iv (unE a b (-1)))] [] S6 2 rfl (untC (unX a b (-1))) rfl fun w7 S7 => ?_
  refine J.c 8 [] [] [] 37 ((unE a b (-1)) = 0) (fun fk4 => ?_) fun fk4 => ?_
  ·skip
   refine J.lb 0 [] [] [] S7 2 rfl 38 (.agg (untA (unX a b (-1)))) ?_
   refine J.lb 0 [] [] [] S7 0 rfl 39 (.agg (untA t)) ?_
   refine J.ok (OK.eqUnt 40 (unX a b (-1)) t (by kernel_rfl)) ?_
   refine J.e 3 [.bool (unEq (unX a b (-1)) t)] Tryz.func194 (hR _ _ ?_)
   exact ⟨congrArg Value.bool (by unfold fitOK; (repeat first | rw [if_pos (by omega)] | rw [if_neg (by omega)]); first | rfl | (simp [fk4]; done) | (simp [fk4]; rfl)), S7.nil⟩
  refine J.e 6 [.bool false] Tryz.func194 (hR _ _ ?_)
  exact ⟨congrArg Value.bool (by unfold fitOK; (repeat first | rw [if_pos (by omega)] | rw [if_neg (by omega)]); first | rfl | (simp [fk4]; done) | (simp [fk4]; rfl)), S7.nil⟩
 refine J.lb 3 [false] [] [] S3 2 rfl 11 (.agg (untA a)) ?_
 refine J.lb 0 [] [] [] S3 0 rfl 12 (.agg (untA t)) ?_
 refine J.ok (OK.eqUnt 13 a t (by kernel_rfl)) ?_
 refine J.b 1 [] [] [] 14 (unEq a t) (fun fk5 => ?_) fun fk5 => ?_
 ·skip
  refine J.lb 0 [] [] [] S3 1 rfl 15 (.agg (untA b)) ?_
  refine J.lb 0 [] [] [] S3 0 rfl 16 (.agg (untA t)) ?_
  refine J.ok (OK.eqUnt 17 b t (by kernel_rfl)) ?_
  refine J.e 3 [.bool (unEq b t)] Tryz.func194 (hR _ _ ?_)
  exact ⟨congrArg Value.bool (by unfold fitOK; (repeat first | rw [if_pos (by omega)] | rw [if_neg (by omega)]); first | rfl | (simp [fk5]; done) | (simp [fk5]; rfl)), S3.nil⟩
 refine J.e 6 [.bool false] Tryz.func194 (hR _ _ ?_)
 exact ⟨congrArg Value.bool (by unfold fitOK; (repeat first | rw [if_pos (by omega)] | rw [if_neg (by omega)]); first | rfl | (simp [fk5]; done) | (simp [fk5]; rfl)), S3.nil⟩

theorem hb162 : HasBody Tryz.prog 162 := fun _ _ => by kernel_rfl

theorem operate_any (op : Int) (ta : Fxd) (ra : Int) (tb : Fxd) (rb : Int) (t : Fxd) (w : World) (qa : fxdQ w ta) (fa : fixB ta = true) (ha : inT ta ra) (qb : fxdQ w tb) (fb : fixB tb = true) (hb : inT tb rb) (ht : fxdQ w t) (ft : fixB t = true) (ho : 1 ≤ op ∧ op ≤ 4) (hf : fitOK op (unitT ta) (unitT tb) (unitT t) = true) : Ret Tryz.prog 162 #[iv op, .agg (vlA ta ra), .agg (vlA tb rb), .agg (fxdA t)] w (fun v w' => v = .tuple #[.agg (vlA (opTy op tb rb t) (fopW op ta ra tb rb t)), iv (opE op tb rb)] ∧ Sep w [] w') := by
 refine Ret.st (N := 56) Tryz.func162 fun R hR S0 => ?_
 obtain ⟨q1, q2, q3, q4, q5, q6, q7, q8, q9, _⟩ := id qa
 obtain ⟨q10, q11, q12, q13, q14, q15, q16, q17, q18, _⟩ := id qb
 obtain ⟨q19, q20, q21, q22, q23, q24, q25, q26, q27, _⟩ := id ht
 refine J.nw 2 [] [] [] S0 5 (vlL ta ra) 82 fun b1 w1 S1 => ?_
 refine J.nw 0 [] [] [] S1 6 (vlL tb rb) 82 fun b2 w2 S2 => ?_
 refine J.nw 0 [] [] [] S2 7 (fxdC t) 75 fun b3 w3 S3 => ?_
 refine J.nw 0 [] [] [] S3 8 kvF35_1 82 fun b4 w4 S4 => ?_
 refine J.lb 5 [] [] [] S4 3 rfl 12 (.agg (vlA ta ra)) ?_
 refine J.c0 0 [] [] [] S4 13 hb163 (valid4_any ta ra _ (fxdQ_sep qa S4) fa ha) fun w5 S5 => ?_
 refine J.lb 2 [] [(15, .bool false)] [] S5 2 rfl 16 (.agg (vlA tb rb)) ?_
 refine J.c0 0 [] [] [] S5 17 hb163 (valid4_any tb rb _ (fxdQ_sep qb S5) fb hb) fun w6 S6 => ?_
 refine J.lb 3 [] [(20, .bool false)] [] S6 1 rfl 21 (.agg (fxdA t)) ?_
 refine J.c0 0 [] [] [] S6 22 hb95 (fxvalid_any t _ (fxdQ_sep ht S6)) fun w7 S7 => ?_
 have fk2 : (fixB t) = true := ft
 refine J.h 3 [] [] [] 24 (.bool (!(fixB t))) (.bool false) (congrArg Value.bool (by rw [fk2]; rfl)) ?_
 refine J.lb 8 [false] [(26, iv op)] [] S7 3 rfl 29 (.agg #[iv ta.gUnit_M, iv ta.gUnit_Kg, iv ta.gUnit_S, iv ta.gUnit_A, iv ta.gUnit_K]) ?_
 refine J.lb 2 [] [] [] S7 2 rfl 32 (.agg #[iv tb.gUnit_M, iv tb.gUnit_Kg, iv tb.gUnit_S, iv tb.gUnit_A, iv tb.gUnit_K]) ?_
 refine J.lb 1 [] [] [] S7 1 rfl 34 (.agg #[iv t.gUnit_M, iv t.gUnit_Kg, iv t.gUnit_S, iv t.gUnit_A, iv t.gUnit_K]) ?_
 refine J.c0 0 [] [] [] S7 35 hb194 (fit_any op (⟨ta.gUnit_M, ta.gUnit_Kg, ta.gUnit_S, ta.gUnit_A, ta.gUnit_K⟩ : Unt) (⟨tb.gUnit_M, tb.gUnit_Kg, tb.gUnit_S, tb.gUnit_A, tb.gUnit_K⟩ : Unt) (⟨t.gUnit_M, t.gUnit_Kg, t.gUnit_S, t.gUnit_A, t.gUnit_K⟩ : Unt) _) fun w8 S8 => ?_
 have fk4 : (fitOK op (⟨ta.gUnit_M, ta.gUnit_Kg, ta.gUnit_S, ta.gUnit_A, ta.gUnit_K⟩ : Unt) (⟨tb.gUnit_M, tb.gUnit_Kg, tb.gUnit_S, tb.gUnit_A, tb.gUnit_K⟩ : Unt) (⟨t.gUnit_M, t.gUnit_Kg, t.gUnit_S, t.gUnit_A, t.gUnit_K⟩ : Unt)) = true := hf
 refine J.h 2 [] [] [] 36 (.bool (!(fitOK op (⟨ta.gUnit_M, ta.gUnit_Kg, ta.gUnit_S, ta.gUnit_A, ta.gUnit_K⟩ : Unt) (⟨tb.gUnit_M, tb.gUnit_Kg, tb.gUnit_S, tb.gUnit_A, tb.gUnit_K⟩ : Unt) (⟨t.gUnit_M, t.gUnit_Kg, t.gUnit_S, t.gUnit_A, t.gUnit_K⟩ : Unt)))) (.bool false) (congrArg Value.bool (by rw [fk4]; rfl)) ?_
 refine J.lb 5 [false] [] [] S8 2 rfl 39 (.agg (vlA tb rb)) ?_
 refine J.c0 0 [] [] [] S8 40 hb164 (number_any tb rb _ fb hb) fun w9 S9 => ?_
 refine J.c 11 [] [(10, iv (numF tb rb))] [] 45 (op = 4) (fun fk5 => ?_) fun fk5 => ?_
 ·skip
  refine J.c 4 [] [] [] 48 ((numF tb rb) = 0) (fun fk6 => ?_) fun fk6 => ?_
  ·skip
   refine J.sb 4 [true] [] [] S9 0 rfl kvF35_1 rfl fun w10 S10 => ?_
   refine J.ez 2 [.agg #[iv 0, .bool false, iv 0, iv 0, iv 0, iv 0, iv 0, iv 0, iv 0, iv 0, iv 0], iv 10] Tryz.func162 (bk (S10.nth 0 rfl) bn) (hR _ _ ?_)
   obtain ⟨e1, e2, e3⟩ := op_zero (op := op) (ta := ta) (tb := tb) (t := t) (ra := ra) (rb := rb) (by omega)
   exact ⟨by rw [e1, e2, e3]; rfl, S10.nil⟩
  refine J.r 3 [false] [] [] ?_
  refine J.drawPlan (fun w_ => Sep w [box b3 (fxdC t) 75, box b2 (vlL tb rb) 82, box b1 (vlL ta ra) 82] w_) [(0, true), (1, true), (2, true), (4, true), (3, false), (5, false), (6, false), (7, true)] S9 Tryz.mixed (by kernel_rfl) (planOK_of (T := [(0, some 50, 1), (0, some 51, 32), (0, some 52, 64), (7, some 53, 7881299347898368), (0, some 54, 128), (24, some 55, 27021597764222976), (63, none, 36028797018964224), (127, some 9, 0)]) (by kernel_rfl) (by kernel_rfl)) ?_
  intro w11 S11
  refine PB.mk (S11.erase 0) ?_
  refine PL.take 0 50 (iv op) (fun _ _ => by kernel_rfl) ?_
  refine PL.takeOK 1 (fun w_ S_ => OK.ldBox S_ 2 51 82 0 (.agg (vlA ta ra)) (by kernel_rfl) rfl (by kernel_rfl)) rfl ?_
  refine PL.takeOK 2 (fun w_ S_ => OK.ldBox S_ 1 52 82 0 (.agg (vlA tb rb)) (by kernel_rfl) rfl (by kernel_rfl)) rfl ?_
  refine PL.takeOK 4 (fun w_ S_ => OK.ldBox S_ 0 54 75 0 (.agg (fxdA t)) (by kernel_rfl) rfl (by kernel_rfl)) rfl ?_
  refine PL.callF 53 195 #[iv op, .agg (vlA ta ra), .agg (vlA tb rb)] hb195 (by kernel_rfl) (combine_any op ta ra tb rb _ fa ha fb hb (by omega)) ?_
  rintro _ w12 ⟨rfl, T1⟩
  have S12 : Sep w [box b4 kvF35_1 82, box b3 (fxdC t) 75, box b2 (vlL tb rb) 82, box b1 (vlL ta ra) 82] w12 := S11.trans T1
  refine PB.mk (S12.erase 0) ?_
  refine PL.callF 55 193 #[.agg (exA (cmN op (numF ta ra) (ta).gDen (numF tb rb) (tb).gDen) (cmD op (ta).gDen (numF tb rb) (tb).gDen)), .agg (fxdA t)] hb193 (by kernel_rfl) (result_any (cmN op (numF ta ra) (ta).gDen (numF tb rb) (tb).gDen) (cmD op (ta).gDen (numF tb rb) (tb).gDen) t _ (fxdQ_sep ht S12) ft (cm_ok (num_ok fa ha) (num_ok fb hb) ho (fun _ => by omega))) ?_
  rintro _ w13 ⟨rfl, T2⟩
  have S13 : Sep w [box b4 kvF35_1 82, box b3 (fxdC t) 75, box b2 (vlL tb rb) 82, box b1 (vlL ta ra) 82] w13 := S12.trans T2
  have hrb := res_bd ((cmN op (numF ta ra) (ta).gDen (numF tb rb) (tb).gDen)) ((cmD op (ta).gDen (numF tb rb) (tb).gDen)) (t)
  refine PB.mk (S13.erase 0) ?_
  refine PL.stBox S13 0 82 0 (.agg (vlA t (resT (cmN op (numF ta ra) (ta).gDen (numF tb rb) (tb).gDen) (cmD op (ta).gDen (numF tb rb) (tb).gDen) t))) (vlL t (resT (cmN op (numF ta ra) (ta).gDen (numF tb rb) (tb).gDen) (cmD op (ta).gDen (numF tb rb) (tb).gDen) t)) [box b4 (vlL t (resT (cmN op (numF ta ra) (ta).gDen (numF tb rb) (tb).gDen) (cmD op (ta).gDen (numF tb rb) (tb).gDen) t)) 82, box b3 (fxdC t) 75, box b2 (vlL tb rb) 82, box b1 (vlL ta ra) 82] (by kernel_rfl) rfl (by kernel_rfl) (by kernel_rfl) rfl ?_
  intro w14 S14
  refine PB.mk (S14.erase 0) ?_
  refine PL.take 7 9 (iv 0) (fun _ _ => by kernel_rfl) ?_
  refine PL.done ?_
  refine J.ez 0 [.agg (vlA t (resT (cmN op (numF ta ra) (ta).gDen (numF tb rb) (tb).gDen) (cmD op (ta).gDen (numF tb rb) (tb).gDen) t)), iv 0] Tryz.func162 (bk (S14.nth 0 rfl) bn) (hR _ _ ?_)
  obtain ⟨e1, e2, e3⟩ := op_fine (op := op) (ta := ta) (tb := tb) (t := t) (ra := ra) (rb := rb) (by omega)
  exact ⟨by rw [e1, e2, e3]; rfl, S14.nil⟩
 refine J.r 7 [false] [] [] ?_
 refine J.drawPlan (fun w_ => Sep w [box b3 (fxdC t) 75, box b2 (vlL tb rb) 82, box b1 (vlL ta ra) 82] w_) [(0, true), (1, true), (2, true), (4, true), (3, false), (5, false), (6, false), (7, true)] S9 Tryz.mixed (by kernel_rfl) (planOK_of (T := [(0, some 50, 1), (0, some 51, 32), (0, some 52, 64), (7, some 53, 7881299347898368), (0, some 54, 128), (24, some 55, 27021597764222976), (63, none, 36028797018964224), (127, some 9, 0)]) (by kernel_rfl) (by kernel_rfl)) ?_
 intro w15 S15
 refine PB.mk (S15.erase 0) ?_
 refine PL.take 0 50 (iv op) (fun _ _ => by kernel_rfl) ?_
 refine PL.takeOK 1 (fun w_ S_ => OK.ldBox S_ 2 51 82 0 (.agg (vlA ta ra)) (by kernel_rfl) rfl (by kernel_rfl)) rfl ?_
 refine PL.takeOK 2 (fun w_ S_ => OK.ldBox S_ 1 52 82 0 (.agg (vlA tb rb)) (by kernel_rfl) rfl (by kernel_rfl)) rfl ?_
 refine PL.takeOK 4 (fun w_ S_ => OK.ldBox S_ 0 54 75 0 (.agg (fxdA t)) (by kernel_rfl) rfl (by kernel_rfl)) rfl ?_
 refine PL.callF 53 195 #[iv op, .agg (vlA ta ra), .agg (vlA tb rb)] hb195 (by kernel_rfl) (combine_any op ta ra tb rb _ fa ha fb hb (by omega)) ?_
 rintro _ w16 ⟨rfl, T3⟩
 have S16 : Sep w [box b4 kvF35_1 82, box b3 (fxdC t) 75, box b2 (vlL tb rb) 82, box b1 (vlL ta ra) 82] w16 := S15.trans T3
 refine PB.mk (S16.erase 0) ?_
 refine PL.callF 55 193 #[.agg (exA (cmN op (numF ta ra) (ta).gDen (numF tb rb) (tb).gDen) (cmD op (ta).gDen (numF tb rb) (tb).gDen)), .agg (fxdA t)] hb193 (by kernel_rfl) (result_any (cmN op (numF ta ra) (ta).gDen (numF tb rb) (tb).gDen) (cmD op (ta).gDen (numF tb rb) (tb).gDen) t _ (fxdQ_sep ht S16) ft (cm_ok (num_ok fa ha) (num_ok fb hb) ho (fun _ => by omega))) ?_
 rintro _ w17 ⟨rfl, T4⟩
 have S17 : Sep w [box b4 kvF35_1 82, box b3 (fxdC t) 75, box b2 (vlL tb rb) 82, box b1 (vlL ta ra) 82] w17 := S16.trans T4
 have hrb := res_bd ((cmN op (numF ta ra) (ta).gDen (numF tb rb) (tb).gDen)) ((cmD op (ta).gDen (numF tb rb) (tb).gDen)) (t)
 refine PB.mk (S17.erase 0) ?_
 refine PL.stBox S17 0 82 0 (.agg (vlA t (resT (cmN op (numF ta ra) (ta).gDen (numF tb rb) (tb).gDen) (cmD op (ta).gDen (numF tb rb) (tb).gDen) t))) (vlL t (resT (cmN op (numF ta ra) (ta).gDen (numF tb rb) (tb).gDen) (cmD op (ta).gDen (numF tb rb) (tb).gDen) t)) [box b4 (vlL t (resT (cmN op (numF ta ra) (ta).gDen (numF tb rb) (tb).gDen) (cmD op (ta).gDen (numF tb rb) (tb).gDen) t)) 82, box b3 (fxdC t) 75, box b2 (vlL tb rb) 82, box b1 (vlL ta ra) 82] (by kernel_rfl) rfl (by kernel_rfl) (by kernel_rfl) rfl ?_
 intro w18 S18
 refine PB.mk (S18.erase 0) ?_
 refine PL.take 7 9 (iv 0) (fun _ _ => by kernel_rfl) ?_
 refine PL.done ?_
 refine J.ez 0 [.agg (vlA t (resT (cmN op (numF ta ra) (ta).gDen (numF tb rb) (tb).gDen) (cmD op (ta).gDen (numF tb rb) (tb).gDen) t)), iv 0] Tryz.func162 (bk (S18.nth 0 rfl) bn) (hR _ _ ?_)
 obtain ⟨e1, e2, e3⟩ := op_fine (op := op) (ta := ta) (tb := tb) (t := t) (ra := ra) (rb := rb) (by omega)
 exact ⟨by rw [e1, e2, e3]; rfl, S18.nil⟩

theorem hb114 : HasBody Tryz.prog 114 := fun _ _ => by kernel_rfl

theorem fop1_any (ta : Fxd) (ra : Int) (tb : Fxd) (rb : Int) (t : Fxd) (w : World) (qa : fxdQ w ta) (fa : fixB ta = true) (ha : inT ta ra) (qb : fxdQ w tb) (fb : fixB tb = true) (hb : inT tb rb) (ht : fxdQ w t) (ft : fixB t = true) (hf : fitOK 1 (unitT ta) (unitT tb) (unitT t) = true) : Ret Tryz.prog 114 #[.agg (vlA ta ra), .agg (vlA tb rb), .agg (fxdA t)] w (fun v w' => v = .tuple #[.agg (vlA (opTy 1 tb rb t) (fopW 1 ta ra tb rb t)), iv (opE 1 tb rb)] ∧ Sep w [] w') := by
 refine Ret.st (N := 14) Tryz.func114 fun R hR S0 => ?_
 obtain ⟨q1, q2, q3, q4, q5, q6, q7, q8, q9, _⟩ := id qa
 obtain ⟨q10, q11, q12, q13, q14, q15, q16, q17, q18, _⟩ := id qb
 obtain ⟨q19, q20, q21, q22, q23, q24, q25, q26, q27, _⟩ := id ht
 refine J.nw 2 [] [] [] S0 3 (vlL ta ra) 82 fun b1 w1 S1 => ?_
 refine J.nw 0 [] [] [] S1 4 (vlL tb rb) 82 fun b2 w2 S2 => ?_
 refine J.nw 0 [] [] [] S2 5 (fxdC t) 75 fun b3 w3 S3 => ?_
 refine J.nw 0 [] [] [] S3 6 kvF35_1 82 fun b4 w4 S4 => ?_
 refine J.lb 4 [] [] [] S4 3 rfl 8 (.agg (vlA ta ra)) ?_
 refine J.lb 0 [] [] [] S4 2 rfl 9 (.agg (vlA tb rb)) ?_
 refine J.lb 0 [] [] [] S4 1 rfl 10 (.agg (fxdA t)) ?_
 refine J.c0 0 [] [] [] S4 11 hb162 (operate_any 1 ta ra tb rb t _ (fxdQ_sep qa S4) fa ha (fxdQ_sep qb S4) fb hb (fxdQ_sep ht S4) ft (by omega) hf) fun w5 S5 => ?_
 refine J.sb 2 [] [(13, iv (opE 1 tb rb))] [] S5 0 rfl (vlL (opTy 1 tb rb t) (fopW 1 ta ra tb rb t)) rfl fun w6 S6 => ?_
 refine J.ez 2 [.agg (vlA (opTy 1 tb rb t) (fopW 1 ta ra tb rb t)), iv (opE 1 tb rb)] Tryz.func114 (bk (S6.nth 0 rfl) bn) (hR _ _ ?_)
 exact ⟨rfl, S6.nil⟩

theorem hb115 : HasBody Tryz.prog 115 := fun _ _ => by kernel_rfl

theorem fop2_any (ta : Fxd) (ra : Int) (tb : Fxd) (rb : Int) (t : Fxd) (w : World) (qa : fxdQ w ta) (fa : fixB ta = true) (ha : inT ta ra) (qb : fxdQ w tb) (fb : fixB tb = true) (hb : inT tb rb) (ht : fxdQ w t) (ft : fixB t = true) (hf : fitOK 2 (unitT ta) (unitT tb) (unitT t) = true) : Ret Tryz.prog 115 #[.agg (vlA ta ra), .agg (vlA tb rb), .agg (fxdA t)] w (fun v w' => v = .tuple #[.agg (vlA (opTy 2 tb rb t) (fopW 2 ta ra tb rb t)), iv (opE 2 tb rb)] ∧ Sep w [] w') := by
 refine Ret.st (N := 14) Tryz.func115 fun R hR S0 => ?_
 obtain ⟨q1, q2, q3, q4, q5, q6, q7, q8, q9, _⟩ := id qa
 obtain ⟨q10, q11, q12, q13, q14, q15, q16, q17, q18, _⟩ := id qb
 obtain ⟨q19, q20, q21, q22, q23, q24, q25, q26, q27, _⟩ := id ht
 refine J.nw 2 [] [] [] S0 3 (vlL ta ra) 82 fun b1 w1 S1 => ?_
 refine J.nw 0 [] [] [] S1 4 (vlL tb rb) 82 fun b2 w2 S2 => ?_
 refine J.nw 0 [] [] [] S2 5 (fxdC t) 75 fun b3 w3 S3 => ?_
 refine J.nw 0 [] [] [] S3 6 kvF35_1 82 fun b4 w4 S4 => ?_
 refine J.lb 4 [] [] [] S4 3 rfl 8 (.agg (vlA ta ra)) ?_
 refine J.lb 0 [] [] [] S4 2 rfl 9 (.agg (vlA tb rb)) ?_
 refine J.lb 0 [] [] [] S4 1 rfl 10 (.agg (fxdA t)) ?_
 refine J.c0 0 [] [] [] S4 11 hb162 (operate_any 2 ta ra tb rb t _ (fxdQ_sep qa S4) fa ha (fxdQ_sep qb S4) fb hb (fxdQ_sep ht S4) ft (by omega) hf) fun w5 S5 => ?_
 refine J.sb 2 [] [(13, iv (opE 2 tb rb))] [] S5 0 rfl (vlL (opTy 2 tb rb t) (fopW 2 ta ra tb rb t)) rfl fun w6 S6 => ?_
 refine J.ez 2 [.agg (vlA (opTy 2 tb rb t) (fopW 2 ta ra tb rb t)), iv (opE 2 tb rb)] Tryz.func115 (bk (S6.nth 0 rfl) bn) (hR _ _ ?_)
 exact ⟨rfl, S6.nil⟩

theorem hb116 : HasBody Tryz.prog 116 := fun _ _ => by kernel_rfl

theorem fop3_any (ta : Fxd) (ra : Int) (tb : Fxd) (rb : Int) (t : Fxd) (w : World) (qa : fxdQ w ta) (fa : fixB ta = true) (ha : inT ta ra) (qb : fxdQ w tb) (fb : fixB tb = true) (hb : inT tb rb) (ht : fxdQ w t) (ft : fixB t = true) (hf : fitOK 3 (unitT ta) (unitT tb) (unitT t) = true) : Ret Tryz.prog 116 #[.agg (vlA ta ra), .agg (vlA tb rb), .agg (fxdA t)] w (fun v w' => v = .tuple #[.agg (vlA (opTy 3 tb rb t) (fopW 3 ta ra tb rb t)), iv (opE 3 tb rb)] ∧ Sep w [] w') := by
 refine Ret.st (N := 14) Tryz.func116 fun R hR S0 => ?_
 obtain ⟨q1, q2, q3, q4, q5, q6, q7, q8, q9, _⟩ := id qa
 obtain ⟨q10, q11, q12, q13, q14, q15, q16, q17, q18, _⟩ := id qb
 obtain ⟨q19, q20, q21, q22, q23, q24, q25, q26, q27, _⟩ := id ht
 refine J.nw 2 [] [] [] S0 3 (vlL ta ra) 82 fun b1 w1 S1 => ?_
 refine J.nw 0 [] [] [] S1 4 (vlL tb rb) 82 fun b2 w2 S2 => ?_
 refine J.nw 0 [] [] [] S2 5 (fxdC t) 75 fun b3 w3 S3 => ?_
 refine J.nw 0 [] [] [] S3 6 kvF35_1 82 fun b4 w4 S4 => ?_
 refine J.lb 4 [] [] [] S4 3 rfl 8 (.agg (vlA ta ra)) ?_
 refine J.lb 0 [] [] [] S4 2 rfl 9 (.agg (vlA tb rb)) ?_
 refine J.lb 0 [] [] [] S4 1 rfl 10 (.agg (fxdA t)) ?_
 refine J.c0 0 [] [] [] S4 11 hb162 (operate_any 3 ta ra tb rb t _ (fxdQ_sep qa S4) fa ha (fxdQ_sep qb S4) fb hb (fxdQ_sep ht S4) ft (by omega) hf) fun w5 S5 => ?_
 refine J.sb 2 [] [(13, iv (opE 3 tb rb))] [] S5 0 rfl (vlL (opTy 3 tb rb t) (fopW 3 ta ra tb rb t)) rfl fun w6 S6 => ?_
 refine J.ez 2 [.agg (vlA (opTy 3 tb rb t) (fopW 3 ta ra tb rb t)), iv (opE 3 tb rb)] Tryz.func116 (bk (S6.nth 0 rfl) bn) (hR _ _ ?_)
 exact ⟨rfl, S6.nil⟩

theorem hb117 : HasBody Tryz.prog 117 := fun _ _ => by kernel_rfl

theorem fop4_any (ta : Fxd) (ra : Int) (tb : Fxd) (rb : Int) (t : Fxd) (w : World) (qa : fxdQ w ta) (fa : fixB ta = true) (ha : inT ta ra) (qb : fxdQ w tb) (fb : fixB tb = true) (hb : inT tb rb) (ht : fxdQ w t) (ft : fixB t = true) (hf : fitOK 4 (unitT ta) (unitT tb) (unitT t) = true) : Ret Tryz.prog 117 #[.agg (vlA ta ra), .agg (vlA tb rb), .agg (fxdA t)] w (fun v w' => v = .tuple #[.agg (vlA (opTy 4 tb rb t) (fopW 4 ta ra tb rb t)), iv (opE 4 tb rb)] ∧ Sep w [] w') := by
 refine Ret.st (N := 14) Tryz.func117 fun R hR S0 => ?_
 obtain ⟨q1, q2, q3, q4, q5, q6, q7, q8, q9, _⟩ := id qa
 obtain ⟨q10, q11, q12, q13, q14, q15, q16, q17, q18, _⟩ := id qb
 obtain ⟨q19, q20, q21, q22, q23, q24, q25, q26, q27, _⟩ := id ht
 refine J.nw 2 [] [] [] S0 3 (vlL ta ra) 82 fun b1 w1 S1 => ?_
 refine J.nw 0 [] [] [] S1 4 (vlL tb rb) 82 fun b2 w2 S2 => ?_
 refine J.nw 0 [] [] [] S2 5 (fxdC t) 75 fun b3 w3 S3 => ?_
 refine J.nw 0 [] [] [] S3 6 kvF35_1 82 fun b4 w4 S4 => ?_
 refine J.lb 4 [] [] [] S4 3 rfl 8 (.agg (vlA ta ra)) ?_
 refine J.lb 0 [] [] [] S4 2 rfl 9 (.agg (vlA tb rb)) ?_
 refine J.lb 0 [] [] [] S4 1 rfl 10 (.agg (fxdA t)) ?_
 refine J.c0 0 [] [] [] S4 11 hb162 (operate_any 4 ta ra tb rb t _ (fxdQ_sep qa S4) fa ha (fxdQ_sep qb S4) fb hb (fxdQ_sep ht S4) ft (by omega) hf) fun w5 S5 => ?_
 refine J.sb 2 [] [(13, iv (opE 4 tb rb))] [] S5 0 rfl (vlL (opTy 4 tb rb t) (fopW 4 ta ra tb rb t)) rfl fun w6 S6 => ?_
 refine J.ez 2 [.agg (vlA (opTy 4 tb rb t) (fopW 4 ta ra tb rb t)), iv (opE 4 tb rb)] Tryz.func117 (bk (S6.nth 0 rfl) bn) (hR _ _ ?_)
 exact ⟨rfl, S6.nil⟩

theorem hb161 : HasBody Tryz.prog 161 := fun _ _ => by kernel_rfl

theorem change_any (ta : Fxd) (ra : Int) (t : Fxd) (sg : Int) (w : World) (qa : fxdQ w ta) (fa : fixB ta = true) (ha : inT ta ra) (ht : fxdQ w t) (ft : fixB t = true) (hs : sg = 1 ∨ sg = -1) (hu : unEq (unitT ta) (unitT t) = true) : Ret Tryz.prog 161 #[.agg (vlA ta ra), .agg (fxdA t), iv sg] w (fun v w' => v = .tuple #[.agg (vlA t (resT (numF ta ra * sg) ta.gDen t)), iv 0] ∧ Sep w [] w') := by
 refine Ret.st (N := 40) Tryz.func161 fun R hR S0 => ?_
 obtain ⟨q1, q2, q3, q4, q5, q6, q7, q8, q9, _⟩ := id qa
 obtain ⟨q10, q11, q12, q13, q14, q15, q16, q17, q18, _⟩ := id ht
 have hoa := num_ok fa ha
 have hob : -4503600701112320 ≤ numF ta ra * sg ∧ numF ta ra * sg ≤ 4503600701112320 := by rcases hs with e | e <;> rw [e] <;> omega
 refine J.nw 2 [] [] [] S0 3 (vlL ta ra) 82 fun b1 w1 S1 => ?_
 refine J.nw 0 [] [] [] S1 4 (fxdC t) 75 fun b2 w2 S2 => ?_
 refine J.nw 0 [] [] [] S2 6 kvF35_1 82 fun b3 w3 S3 => ?_
 refine J.lb 5 [] [] [] S3 2 rfl 10 (.agg (vlA ta ra)) ?_
 refine J.c0 0 [] [] [] S3 11 hb163 (valid4_any ta ra _ (fxdQ_sep qa S3) fa ha) fun w4 S4 => ?_
 refine J.lb 2 [] [(13, .bool false)] [] S4 1 rfl 14 (.agg (fxdA t)) ?_
 refine J.c0 0 [] [] [] S4 15 hb95 (fxvalid_any t _ (fxdQ_sep ht S4)) fun w5 S5 => ?_
 have fk2 : (fixB t) = true := ft
 refine J.h 3 [] [] [] 17 (.bool (!(fixB t))) (.bool false) (congrArg Value.bool (by rw [fk2]; rfl)) ?_
 refine J.lb 7 [false] [] [] S5 2 rfl 21 (.agg #[iv ta.gUnit_M, iv ta.gUnit_Kg, iv ta.gUnit_S, iv ta.gUnit_A, iv ta.gUnit_K]) ?_
 refine J.lb 1 [] [] [] S5 1 rfl 23 (.agg #[iv t.gUnit_M, iv t.gUnit_Kg, iv t.gUnit_S, iv t.gUnit_A, iv t.gUnit_K]) ?_
 refine J.ok (OK.neUnt 24 (unitT ta) (unitT t) (by kernel_rfl)) ?_
 have fk4 : (unEq (unitT ta) (unitT t)) = true := hu
 refine J.h 1 [] [] [] 24 (.bool (!(unEq (unitT ta) (unitT t)))) (.bool false) (congrArg Value.bool (by rw [fk4]; rfl)) ?_
 refine J.lb 4 [false] [] [] S5 2 rfl 27 (.agg (vlA ta ra)) ?_
 refine J.c0 0 [] [] [] S5 28 hb164 (number_any ta ra _ fa ha) fun w6 S6 => ?_
 refine J.r 7 [] [(9, iv ((ta).gDen)), (8, iv (numF ta ra))] [] ?_
 refine J.drawPlan (fun w_ => Sep w [box b2 (fxdC t) 75, box b1 (vlL ta ra) 82] w_) [(0, true), (2, true), (4, true), (7, true), (1, false), (3, false), (5, false), (6, true), (8, false), (9, false), (10, true)] S6 Tryz.mixed (by kernel_rfl) (planOK_of (T := [(0, some 31, 256), (1, some 32, 2147483648), (0, some 33, 4), (6, some 34, 12884901888), (0, some 35, 512), (24, some 36, 34359738368), (40, some 37, 85899345920), (0, some 38, 16), (224, some 39, 412316860416), (511, none, 549755813952), (1023, some 7, 0)]) (by kernel_rfl) (by kernel_rfl)) ?_
 intro w7 S7
 refine PB.mk (S7.erase 0) ?_
 refine PL.take 0 31 (iv (numF ta ra)) (fun _ _ => by kernel_rfl) ?_
 refine PL.take 2 33 (iv sg) (fun _ _ => by kernel_rfl) ?_
 refine PL.take 4 35 (iv ((ta).gDen)) (fun _ _ => by kernel_rfl) ?_
 refine PL.takeOK 7 (fun w_ S_ => OK.ldBox S_ 0 38 75 0 (.agg (fxdA t)) (by kernel_rfl) rfl (by kernel_rfl)) rfl ?_
 refine PL.callF 32 165 #[iv (numF ta ra)] hb165 (by kernel_rfl) (of4_any (numF ta ra) _ (by omega)) ?_
 rintro _ w8 ⟨rfl, T1⟩
 have S8 : Sep w [box b3 kvF35_1 82, box b2 (fxdC t) 75, box b1 (vlL ta ra) 82] w8 := S7.trans T1
 refine PB.mk (S8.erase 0) ?_
 refine PL.callF 34 166 #[.agg (wvA (numF ta ra)), iv sg] hb166 (by kernel_rfl) (wtimes_any (numF ta ra) sg _ (by constructor <;> omega) (by omega)) ?_
 rintro _ w9 ⟨rfl, T2⟩
 have S9 : Sep w [box b3 kvF35_1 82, box b2 (fxdC t) 75, box b1 (vlL ta ra) 82] w9 := S8.trans T2
 refine PB.mk (S9.erase 0) ?_
 refine PL.callF 36 165 #[iv ((ta).gDen)] hb165 (by kernel_rfl) (of4_any ((ta).gDen) _ (by omega)) ?_
 rintro _ w10 ⟨rfl, T3⟩
 have S10 : Sep w [box b3 kvF35_1 82, box b2 (fxdC t) 75, box b1 (vlL ta ra) 82] w10 := S9.trans T3
 refine PB.mk (S10.erase 0) ?_
 refine PL.take 6 37 (.agg (exA ((numF ta ra) * sg) ((ta).gDen))) (fun _ _ => by kernel_rfl) ?_
 refine PL.callF 39 193 #[.agg (exA ((numF ta ra) * sg) ((ta).gDen)), .agg (fxdA t)] hb193 (by kernel_rfl) (result_any ((numF ta ra) * sg) ((ta).gDen) t _ (fxdQ_sep ht S10) ft ⟨by omega, by omega⟩) ?_
 rintro _ w11 ⟨rfl, T4⟩
 have S11 : Sep w [box b3 kvF35_1 82, box b2 (fxdC t) 75, box b1 (vlL ta ra) 82] w11 := S10.trans T4
 have hrb := res_bd (((numF ta ra) * sg)) (((ta).gDen)) (t)
 refine PB.mk (S11.erase 0) ?_
 refine PL.stBox S11 0 82 0 (.agg (vlA t (resT ((numF ta ra) * sg) ((ta).gDen) t))) (vlL t (resT ((numF ta ra) * sg) ((ta).gDen) t)) [box b3 (vlL t (resT ((numF ta ra) * sg) ((ta).gDen) t)) 82, box b2 (fxdC t) 75, box b1 (vlL ta ra) 82] (by kernel_rfl) rfl (by kernel_rfl) (by kernel_rfl) rfl ?_
 intro w12 S12
 refine PB.mk (S12.erase 0) ?_
 refine PL.take 10 7 (iv 0) (fun _ _ => by kernel_rfl) ?_
 refine PL.done ?_
 refine J.ez 0 [.agg (vlA t (resT ((numF ta ra) * sg) ((ta).gDen) t)), iv 0] Tryz.func161 (bk (S12.nth 0 rfl) bn) (hR _ _ ?_)
 exact ⟨rfl, S12.nil⟩

theorem hb112 : HasBody Tryz.prog 112 := fun _ _ => by kernel_rfl

theorem fneg_any (ta : Fxd) (ra : Int) (t : Fxd) (w : World) (qa : fxdQ w ta) (fa : fixB ta = true) (ha : inT ta ra) (ht : fxdQ w t) (ft : fixB t = true) (hu : unEq (unitT ta) (unitT t) = true) : Ret Tryz.prog 112 #[.agg (vlA ta ra), .agg (fxdA t)] w (fun v w' => v = .tuple #[.agg (vlA t (resT (numF ta ra * (-1)) ta.gDen t)), iv 0] ∧ Sep w [] w') := by
 refine Ret.st (N := 11) Tryz.func112 fun R hR S0 => ?_
 obtain ⟨q1, q2, q3, q4, q5, q6, q7, q8, q9, _⟩ := id qa
 obtain ⟨q10, q11, q12, q13, q14, q15, q16, q17, q18, _⟩ := id ht
 refine J.nw 2 [] [] [] S0 2 (vlL ta ra) 82 fun b1 w1 S1 => ?_
 refine J.nw 0 [] [] [] S1 3 (fxdC t) 75 fun b2 w2 S2 => ?_
 refine J.nw 0 [] [] [] S2 4 kvF35_1 82 fun b3 w3 S3 => ?_
 refine J.lb 4 [] [] [] S3 2 rfl 6 (.agg (vlA ta ra)) ?_
 refine J.lb 0 [] [] [] S3 1 rfl 7 (.agg (fxdA t)) ?_
 refine J.c0 0 [] [] [] S3 8 hb161 (change_any ta ra t (-1) _ (fxdQ_sep qa S3) fa ha (fxdQ_sep ht S3) ft (by omega) hu) fun w4 S4 => ?_
 refine J.sb 2 [] [(10, iv 0)] [] S4 0 rfl (vlL t (resT (numF ta ra * -1) ta.gDen t)) rfl fun w5 S5 => ?_
 refine J.ez 2 [.agg (vlA t (resT (numF ta ra * -1) ta.gDen t)), iv 0] Tryz.func112 (bk (S5.nth 0 rfl) bn) (hR _ _ ?_)
 exact ⟨rfl, S5.nil⟩

theorem hb113 : HasBody Tryz.prog 113 := fun _ _ => by kernel_rfl

theorem fconv_any (ta : Fxd) (ra : Int) (t : Fxd) (w : World) (qa : fxdQ w ta) (fa : fixB ta = true) (ha : inT ta ra) (ht : fxdQ w t) (ft : fixB t = true) (hu : unEq (unitT ta) (unitT t) = true) : Ret Tryz.prog 113 #[.agg (vlA ta ra), .agg (fxdA t)] w (fun v w' => v = .tuple #[.agg (vlA t (resT (numF ta ra * 1) ta.gDen t)), iv 0] ∧ Sep w [] w') := by
 refine Ret.st (N := 11) Tryz.func113 fun R hR S0 => ?_
 obtain ⟨q1, q2, q3, q4, q5, q6, q7, q8, q9, _⟩ := id qa
 obtain ⟨q10, q11, q12, q13, q14, q15, q16, q17, q18, _⟩ := id ht
 refine J.nw 2 [] [] [] S0 2 (vlL ta ra) 82 fun b1 w1 S1 => ?_
 refine J.nw 0 [] [] [] S1 3 (fxdC t) 75 fun b2 w2 S2 => ?_
 refine J.nw 0 [] [] [] S2 4 kvF35_1 82 fun b3 w3 S3 => ?_
 refine J.lb 4 [] [] [] S3 2 rfl 6 (.agg (vlA ta ra)) ?_
 refine J.lb 0 [] [] [] S3 1 rfl 7 (.agg (fxdA t)) ?_
 refine J.c0 0 [] [] [] S3 8 hb161 (change_any ta ra t 1 _ (fxdQ_sep qa S3) fa ha (fxdQ_sep ht S3) ft (by omega) hu) fun w4 S4 => ?_
 refine J.sb 2 [] [(10, iv 0)] [] S4 0 rfl (vlL t (resT (numF ta ra * 1) ta.gDen t)) rfl fun w5 S5 => ?_
 refine J.ez 2 [.agg (vlA t (resT (numF ta ra * 1) ta.gDen t)), iv 0] Tryz.func113 (bk (S5.nth 0 rfl) bn) (hR _ _ ?_)
 exact ⟨rfl, S5.nil⟩

theorem hb118 : HasBody Tryz.prog 118 := fun _ _ => by kernel_rfl

theorem fless_any (ta : Fxd) (ra : Int) (tb : Fxd) (rb : Int) (w : World) (qa : fxdQ w ta) (fa : fixB ta = true) (ha : inT ta ra) (qb : fxdQ w tb) (fb : fixB tb = true) (hb : inT tb rb) (hu : unEq (unitT ta) (unitT tb) = true) : Ret Tryz.prog 118 #[.agg (vlA ta ra), .agg (vlA tb rb)] w (fun v w' => v = .tuple #[.bool (!decide (numF tb rb * ta.gDen ≤ numF ta ra * tb.gDen)), iv 0] ∧ Sep w [] w') := by
 refine Ret.st (N := 45) Tryz.func118 fun R hR S0 => ?_
 obtain ⟨q1, q2, q3, q4, q5, q6, q7, q8, q9, _⟩ := id qa
 obtain ⟨q10, q11, q12, q13, q14, q15, q16, q17, q18, _⟩ := id qb
 have hoa := num_ok fa ha
 have hob := num_ok fb hb
 have hp0 := mul_bi (x := numF ta ra) (y := tb.gDen) 4503600701112320 1048576 (by omega) (by omega)
 have hp1 := mul_bi (x := numF tb rb) (y := ta.gDen) 4503600701112320 1048576 (by omega) (by omega)
 refine J.nw 2 [] [] [] S0 2 (vlL ta ra) 82 fun b1 w1 S1 => ?_
 refine J.nw 0 [] [] [] S1 3 (vlL tb rb) 82 fun b2 w2 S2 => ?_
 refine J.lb 6 [] [] [] S2 1 rfl 10 (.agg (vlA ta ra)) ?_
 refine J.c0 0 [] [] [] S2 11 hb163 (valid4_any ta ra _ (fxdQ_sep qa S2) fa ha) fun w3 S3 => ?_
 refine J.lb 2 [] [(13, .bool false)] [] S3 0 rfl 14 (.agg (vlA tb rb)) ?_
 refine J.c0 0 [] [] [] S3 15 hb163 (valid4_any tb rb _ (fxdQ_sep qb S3) fb hb) fun w4 S4 => ?_
 refine J.lb 10 [false] [] [] S4 1 rfl 20 (.agg #[iv ta.gUnit_M, iv ta.gUnit_Kg, iv ta.gUnit_S, iv ta.gUnit_A, iv ta.gUnit_K]) ?_
 refine J.lb 2 [] [] [] S4 0 rfl 23 (.agg #[iv tb.gUnit_M, iv tb.gUnit_Kg, iv tb.gUnit_S, iv tb.gUnit_A, iv tb.gUnit_K]) ?_
 refine J.ok (OK.neUnt 24 (unitT ta) (unitT tb) (by kernel_rfl)) ?_
 have fk2 : (unEq (unitT ta) (unitT tb)) = true := hu
 refine J.h 1 [] [] [] 24 (.bool (!(unEq (unitT ta) (unitT tb)))) (.bool false) (congrArg Value.bool (by rw [fk2]; rfl)) ?_
 refine J.lb 4 [false] [] [] S4 1 rfl 26 (.agg (vlA ta ra)) ?_
 refine J.c0 0 [] [] [] S4 27 hb164 (number_any ta ra _ fa ha) fun w5 S5 => ?_
 refine J.lb 8 [] [(7, iv ((ta).gDen)), (6, iv (numF ta ra))] [] S5 0 rfl 31 (.agg (vlA tb rb)) ?_
 refine J.c0 0 [] [] [] S5 32 hb164 (number_any tb rb _ fb hb) fun w6 S6 => ?_
 refine J.c0 9 [] [(9, iv ((tb).gDen))] [] S6 36 hb165 (of4_any (numF tb rb) _ (by omega)) fun w7 S7 => ?_
 refine J.c0 1 [] [] [] S7 38 hb166 (wtimes_any (numF tb rb) ((ta).gDen) _ (by constructor <;> omega) (by omega)) fun w8 S8 => ?_
 refine J.c0 1 [] [] [] S8 40 hb165 (of4_any (numF ta ra) _ (by omega)) fun w9 S9 => ?_
 refine J.c0 1 [] [] [] S9 42 hb166 (wtimes_any (numF ta ra) ((tb).gDen) _ (by constructor <;> omega) (by omega)) fun w10 S10 => ?_
 refine J.c0 0 [] [] [] S10 43 hb167 (watmost_any ((numF tb rb) * ((ta).gDen)) ((numF ta ra) * ((tb).gDen)) _ (by constructor <;> omega) (by constructor <;> omega)) fun w11 S11 => ?_
 refine J.e 4 [.bool (!(decide (((numF tb rb) * ((ta).gDen)) ≤ ((numF ta ra) * ((tb).gDen))))), iv 0] Tryz.func118 (hR _ _ ?_)
 exact ⟨rfl, S11.nil⟩

end Go.Proofs.YtaoolgcddapegaaGreatDoor

namespace Go.Proofs.YtaoolgcddapegaaGreatDoor
open Go.Eng Go.RowKit
set_option linter.unusedSimpArgs false
set_option linter.unusedVariables false
set_option maxRecDepth 20000
set_option maxHeartbeats 20000000
/-! layer 7: the lag -/
def lagB (y r sh : Int) : Bool := decide (-1099511627776 ≤ y ∧ y ≤ 1099511627776) && decide (0 ≤ r) && decide (r < 2 ^ sh.toNat)
def lagY (y r x sh : Int) : Int := y + (x - y + r) / 2 ^ sh.toNat
def lagR (y r x sh : Int) : Int := x - y + r - (x - y + r) / 2 ^ sh.toNat * 2 ^ sh.toNat
def lagE (y r sh : Int) : Int := if lagB y r sh then 0 else 1
def lagP (y r x sh : Int) : Int := if lagB y r sh then lagY y r x sh else 0
def lagQ (y r x sh : Int) : Int := if lagB y r sh then lagR y r x sh else 0
theorem lag_yes {y r x sh : Int} (h : lagB y r sh = true) : lagE y r sh = 0 ∧ lagP y r x sh = lagY y r x sh ∧ lagQ y r x sh = lagR y r x sh := by unfold lagE lagP lagQ; rw [h]; exact ⟨rfl, rfl, rfl⟩
theorem lag_no {y r x sh : Int} (h : lagB y r sh = false) : lagE y r sh = 1 ∧ lagP y r x sh = 0 ∧ lagQ y r x sh = 0 := by unfold lagE lagP lagQ; rw [h]; exact ⟨rfl, rfl, rfl⟩
theorem lagB_no {y r sh : Int} (h : ¬ (-1099511627776 ≤ y ∧ y ≤ 1099511627776) ∨ r < 0 ∨ 2 ^ sh.toNat ≤ r) : lagB y r sh = false := by
  unfold lagB
  rcases h with h | h | h
  · rw [decide_eq_false h]; rfl
  · rw [decide_eq_false (show ¬ 0 ≤ r by omega)]; simp
  · rw [decide_eq_false (show ¬ r < 2 ^ sh.toNat by omega)]; simp
theorem lagB_yes {y r sh : Int} (h1 : -1099511627776 ≤ y ∧ y ≤ 1099511627776) (h2 : 0 ≤ r) (h3 : r < 2 ^ sh.toNat) : lagB y r sh = true := by
  unfold lagB; rw [decide_eq_true h1, decide_eq_true h2, decide_eq_true h3]; rfl
theorem lagB_zero (sh : Int) : lagB 0 0 sh = true := lagB_yes (by omega) (by omega) (by exact_mod_cast Nat.two_pow_pos _)
theorem lagE_iff {y r sh : Int} : lagE y r sh = 0 ↔ lagB y r sh = true := by unfold lagE; split <;> simp_all
theorem lag_bd {n : Int} {k : Nat} (h : -4398046511104 ≤ n ∧ n ≤ 4398046511104) : (-4398046511104 ≤ n / 2 ^ k ∧ n / 2 ^ k ≤ 4398046511104) ∧ n / 2 ^ k * 2 ^ k ≤ n ∧ n < n / 2 ^ k * 2 ^ k + 2 ^ k := by
  have hp : (1 : Int) ≤ 2 ^ k := by exact_mod_cast Nat.one_le_two_pow
  have h1 := Int.mul_ediv_add_emod n (2 ^ k)
  have h2 := Int.emod_nonneg n (show (2 : Int) ^ k ≠ 0 by omega)
  have h3 := Int.emod_lt_of_pos n (show (0 : Int) < 2 ^ k by omega)
  rw [Int.mul_comm] at h1
  refine ⟨⟨?_, ?_⟩, by omega, by omega⟩
  · exact Int.le_ediv_of_mul_le (by omega) (by omega)
  · refine Int.le_of_lt_add_one (Int.ediv_lt_of_lt_mul (by omega) ?_)
    have := Int.mul_le_mul_of_nonneg_left hp (show (0 : Int) ≤ 4398046511105 by omega); omega
theorem pow_20 (sh : Int) (h : 0 ≤ sh ∧ sh ≤ 20) : (1 : Int) ≤ 2 ^ sh.toNat ∧ (2 : Int) ^ sh.toNat ≤ 1048576 := by
  have h1 : (1 : Int) ≤ 2 ^ sh.toNat := by exact_mod_cast Nat.one_le_two_pow
  have h2 : (2 : Int) ^ sh.toNat ≤ 2 ^ 20 := by exact_mod_cast Nat.pow_le_pow_right (by omega) (by omega)
  omega
theorem shr_p {x y : Int} (hy : 0 ≤ y ∧ y ≤ 64) : Int.fdiv x (2 ^ (min y.toNat 64)) = x / 2 ^ y.toNat := by
  rw [show min y.toNat 64 = y.toNat by omega, Int.fdiv_eq_ediv_of_nonneg _ (by exact_mod_cast Nat.zero_le _)]
theorem shl_p {x y : Int} (hy : 0 ≤ y ∧ y ≤ 64) (h : -9223372036854775808 ≤ x * 2 ^ y.toNat ∧ x * 2 ^ y.toNat ≤ 9223372036854775807) : IntKind.wrap .i64 (x * 2 ^ (min y.toNat 64)) = x * 2 ^ y.toNat := by
  rw [show min y.toNat 64 = y.toNat by omega]; exact IntWalk.i64_in _ h
/-! an instruction -/
def arN (t : Fxd) (x : Int) : Int := numF t (clampT t x)
def arE (op : Int) (tb : Fxd) (y : Int) : Int := if op = 8 ∧ arN tb y = 0 then 10 else 0
def arV (op : Int) (ta tb t : Fxd) (x y : Int) : Int :=
  if op = 9 then resT (arN ta x * -1) ta.gDen t else if op = 10 then resT (arN ta x * 1) ta.gDen t
  else if op = 13 then (if arN ta x * tb.gDen < arN tb y * ta.gDen then 1 else 0) else if op = 14 then (if arN ta x * tb.gDen = arN tb y * ta.gDen then 1 else 0)
  else if arE op tb y = 0 then opV (op - 4) ta (clampT ta x) tb (clampT tb y) t else 0
def tr01 (b : Bool) : Int := if b then 1 else 0
def exE (p : Prg) (i : Ins) (rs : List Int) : Int := if typedP i.gOp then arE i.gOp (tyB p i.gOp i.gK) (rs.getD i.gC.toNat 0) else 0
def lgOK (i : Ins) (cs : List Int) : Bool := lagB (cs.getD (i.gK / 32).toNat 0) (cs.getD (i.gK / 32 + 1).toNat 0) (i.gK % 32)
def lgX (x : Int) : Int := min (max x (-1099511627776)) 1099511627776
def lgY (i : Ins) (cs : List Int) (x : Int) : Int := if lgOK i cs then lagY (cs.getD (i.gK / 32).toNat 0) (cs.getD (i.gK / 32 + 1).toNat 0) (lgX x) (i.gK % 32) else lagY 0 0 (lgX x) (i.gK % 32)
def lgR (i : Ins) (cs : List Int) (x : Int) : Int := if lgOK i cs then lagR (cs.getD (i.gK / 32).toNat 0) (cs.getD (i.gK / 32 + 1).toNat 0) (lgX x) (i.gK % 32) else lagR 0 0 (lgX x) (i.gK % 32)
def lgC (i : Ins) (cs : List Int) (x : Int) : List Int := (cs.set (i.gK / 32).toNat (lgY i cs x)).set (i.gK / 32 + 1).toNat (lgR i cs x)
def exV (p : Prg) (i : Ins) (rs cs : List Int) : Int :=
  if i.gOp = 1 then i.gK else if i.gOp = 2 then cs.getD i.gK.toNat 0 else if i.gOp = 4 then rs.getD i.gB.toNat 0 else if i.gOp = 11 then min (rs.getD i.gB.toNat 0) (rs.getD i.gC.toNat 0)
  else if i.gOp = 12 then max (rs.getD i.gB.toNat 0) (rs.getD i.gC.toNat 0) else if i.gOp = 15 then tr01 (decide (rs.getD i.gB.toNat 0 < rs.getD i.gC.toNat 0)) else if i.gOp = 16 then tr01 (!decide (rs.getD i.gB.toNat 0 = 0) && !decide (rs.getD i.gC.toNat 0 = 0))
  else if i.gOp = 17 then tr01 (!decide (rs.getD i.gB.toNat 0 = 0) || !decide (rs.getD i.gC.toNat 0 = 0)) else if i.gOp = 18 then tr01 (decide (rs.getD i.gB.toNat 0 = 0))
  else if i.gOp = 19 then (if rs.getD i.gK.toNat 0 = 0 then rs.getD i.gC.toNat 0 else rs.getD i.gB.toNat 0) else if i.gOp = 20 then atV (p.gCurves_l.getD i.gK.toNat (⟨none, 0, 0, [], none, 0, 0, []⟩ : Crv)) (rs.getD i.gB.toNat 0)
  else if i.gOp = 21 then atF (p.gMaps_l.getD i.gK.toNat (⟨none, 0, 0, [], none, 0, 0, [], none, 0, 0, []⟩ : Mp)) (rs.getD i.gB.toNat 0) (rs.getD i.gC.toNat 0) else if i.gOp = 22 then lgY i cs (rs.getD i.gB.toNat 0)
  else arV i.gOp (tyA p i.gOp i.gK) (tyB p i.gOp i.gK) (tyC p i.gOp i.gK) (rs.getD i.gB.toNat 0) (rs.getD i.gC.toNat 0)
def exR (p : Prg) (i : Ins) (rs cs : List Int) : List Int := if exE p i rs ≠ 0 ∨ i.gOp = 3 then rs else rs.set i.gA.toNat (exV p i rs cs)
def exC (i : Ins) (rs cs : List Int) : List Int := if i.gOp = 3 then cs.set i.gK.toNat (rs.getD i.gA.toNat 0) else if i.gOp = 22 then lgC i cs (rs.getD i.gB.toNat 0) else cs
theorem exR_len (p : Prg) (i : Ins) (rs cs : List Int) : (exR p i rs cs).length = rs.length := by unfold exR; split <;> simp
theorem exC_len (i : Ins) (rs cs : List Int) : (exC i rs cs).length = cs.length := by unfold exC lgC; split <;> (try split) <;> simp
theorem ar_op {op k : Int} {ta tb t : Fxd} {x y : Int} (h : op = k + 4) (hk : 1 ≤ k ∧ k ≤ 4) : arV op ta tb t x y = fopW k ta (clampT ta x) tb (clampT tb y) t ∧ arE op tb y = opE k tb (clampT tb y) := by
  subst h
  have e : arE (k + 4) tb y = opE k tb (clampT tb y) := by
    unfold arE opE arN
    by_cases h : k = 4 ∧ numF tb (clampT tb y) = 0
    · rw [if_pos h, if_pos ⟨by omega, h.2⟩]
    · rw [if_neg h, if_neg (fun e => h ⟨by omega, e.2⟩)]
  refine ⟨?_, e⟩
  unfold arV fopW
  rw [if_neg (by omega), if_neg (by omega), if_neg (by omega), if_neg (by omega), e, show k + 4 - 4 = k by omega]
theorem unEq_symm {a b : Unt} (h : unEq a b = true) : unEq b a = true := unEq_iff.2 (unEq_iff.1 h).symm
theorem fits_typed {p : Prg} {i : Ins} (h : fitsI p i = true) (ht : typedP i.gOp) : tyOK p i.gOp i.gK = true ∧ unitsB i.gOp (unitT (tyA p i.gOp i.gK)) (unitT (tyB p i.gOp i.gK)) (unitT (tyC p i.gOp i.gK)) = true := by
  unfold fitsI namedB at h
  rw [if_neg (by omega), if_neg (by omega), if_neg (by omega), if_neg (by omega), if_pos ht] at h
  simp only [Bool.and_eq_true] at h
  exact h.2
theorem tyN_fix {p : Prg} {k : Int} (hv : p.gTypes_l.all fixB = true) (hl : p.gTypes_l.length = p.gTypes_n) (hk : 0 ≤ k) (h : k < (p.gTypes_n : Int)) : fixB (tyN p k) = true := (all_getD fx0).1 hv k.toNat (by omega)
theorem ar_facts {p : Prg} {i : Ins} (hv : validP p = true) (hl : p.gTypes_l.length = p.gTypes_n) (hf : fitsI p i = true) (ht : typedP i.gOp) (hk : 0 ≤ i.gK) :
    fixB (tyA p i.gOp i.gK) = true ∧ (i.gOp ≠ 9 ∧ i.gOp ≠ 10 → fixB (tyB p i.gOp i.gK) = true) ∧ (i.gOp ≠ 13 ∧ i.gOp ≠ 14 → fixB (tyC p i.gOp i.gK) = true) ∧ unitsB i.gOp (unitT (tyA p i.gOp i.gK)) (unitT (tyB p i.gOp i.gK)) (unitT (tyC p i.gOp i.gK)) = true := by
  obtain ⟨hok, hu⟩ := fits_typed hf ht
  obtain ⟨e1, e2, e3⟩ := ty_yes hok
  have h := tyOK_iff.1 hok
  have ha := (validP_facts hv).2.1
  refine ⟨by rw [e1]; exact tyN_fix ha hl (by omega) (by omega), fun h2 => ?_, fun h3 => ?_, hu⟩
  · rw [e2, if_pos h2]; exact tyN_fix ha hl (by omega) (by omega)
  · rw [e3, if_pos h3]; exact tyN_fix ha hl (by omega) (by omega)
theorem un_neg {op : Int} {a b t : Unt} (h : unitsB op a b t = true) (ho : op = 9 ∨ op = 10) : unEq a t = true := by
  unfold unitsB at h; rw [if_neg (by omega), if_neg (by omega), if_neg (by omega), if_pos ho] at h; exact h
theorem un_cmp {op : Int} {a b t : Unt} (h : unitsB op a b t = true) (ho : op = 13 ∨ op = 14) : unEq a b = true := by
  unfold unitsB at h; rw [if_neg (by omega), if_neg (by omega), if_neg (by omega), if_neg (by omega)] at h; exact h
theorem ar_less {op : Int} {ta tb t : Fxd} {x y : Int} (h : op = 13) : arV op ta tb t x y = tr01 (!decide (numF tb (clampT tb y) * ta.gDen ≤ numF ta (clampT ta x) * tb.gDen)) ∧ arE op tb y = 0 := by
  subst h; refine ⟨?_, rfl⟩
  unfold arV tr01 arN
  rw [if_neg (by omega), if_neg (by omega), if_pos rfl]
  by_cases h : numF tb (clampT tb y) * ta.gDen ≤ numF ta (clampT ta x) * tb.gDen
  · rw [if_neg (by omega), decide_eq_true h]; rfl
  · rw [if_pos (by omega), decide_eq_false h]; rfl
theorem ar_eq {op : Int} {ta tb t : Fxd} {x y : Int} (h : op = 14) {b : Bool} (hb : b = true ↔ numF tb (clampT tb y) * ta.gDen ≤ numF ta (clampT ta x) * tb.gDen ∧ numF ta (clampT ta x) * tb.gDen ≤ numF tb (clampT tb y) * ta.gDen) : arV op ta tb t x y = tr01 b ∧ arE op tb y = 0 := by
  subst h; refine ⟨?_, rfl⟩
  unfold arV tr01 arN
  rw [if_neg (by omega), if_neg (by omega), if_neg (by omega), if_pos rfl]
  by_cases h : numF ta (clampT ta x) * tb.gDen = numF tb (clampT tb y) * ta.gDen
  · rw [if_pos h, if_pos (hb.2 (by omega))]
  · rw [if_neg h, if_neg (fun e => h (by have := hb.1 e; omega))]
theorem ar_neg {op : Int} {ta tb t : Fxd} {x y : Int} (h : op = 9) : arV op ta tb t x y = resT (numF ta (clampT ta x) * (-1)) ta.gDen t ∧ arE op tb y = 0 := by subst h; exact ⟨rfl, rfl⟩
theorem ar_conv {op : Int} {ta tb t : Fxd} {x y : Int} (h : op = 10) : arV op ta tb t x y = resT (numF ta (clampT ta x) * 1) ta.gDen t ∧ arE op tb y = 0 := by subst h; exact ⟨rfl, rfl⟩
theorem bneD (a b : Int) : (a != b) = !decide (a = b) := rfl
theorem beqD (a b : Int) : (a == b) = decide (a = b) := rfl
theorem op_facts {p : Prg} {i : Ins} (h : namedB p i = true) : (i.gOp = 2 ∨ i.gOp = 3 → i.gK < p.gCells) ∧ (i.gOp = 20 → i.gK < (p.gCurves_n : Int)) ∧ (i.gOp = 21 → i.gK < (p.gMaps_n : Int)) ∧ (i.gOp = 22 → i.gK / 32 + 1 < p.gCells) := by
  unfold namedB at h
  refine ⟨fun e => ?_, fun e => ?_, fun e => ?_, fun e => ?_⟩
  · rw [if_pos e] at h; exact of_decide_eq_true h
  · rw [if_neg (by omega), if_pos e] at h; exact of_decide_eq_true h
  · rw [if_neg (by omega), if_neg (by omega), if_pos e] at h; exact of_decide_eq_true h
  · rw [if_neg (by omega), if_neg (by omega), if_neg (by omega), if_pos e] at h; exact of_decide_eq_true h
/-! steps and runs -/
def goodP (p : Prg) (n : Nat) : Bool := validP p && decide ((n : Int) = p.gCells)
theorem goodP_iff {p : Prg} {n : Nat} : goodP p n = true ↔ validP p = true ∧ (n : Int) = p.gCells := by unfold goodP; rw [Bool.and_eq_true, decide_eq_true_iff]
def codeI (p : Prg) (k : Int) : Ins := p.gCode_l.getD k.toNat ins0
def inC (p : Prg) (l xs : List Int) : Nat → List Int
  | 0 => l
  | k + 1 => (inC p l xs k).set (p.gInputs_l.getD k 0).toNat (xs.getD k 0)
theorem inC_len (p : Prg) (l xs : List Int) : ∀ k, (inC p l xs k).length = l.length
  | 0 => rfl
  | k + 1 => by rw [inC, List.length_set]; exact inC_len p l xs k
/-- the registers and cells after k instructions -/
def rnF (p : Prg) (rs cs : List Int) : Nat → List Int × List Int
  | 0 => (rs, cs)
  | k + 1 => (exR p (codeI p k) (rnF p rs cs k).1 (rnF p rs cs k).2, exC (codeI p k) (rnF p rs cs k).1 (rnF p rs cs k).2)
/-- the first error among k instructions -/
def rnE (p : Prg) (rs cs : List Int) : Nat → Int
  | 0 => 0
  | k + 1 => if rnE p rs cs k = 0 then exE p (codeI p k) (rnF p rs cs k).1 else rnE p rs cs k
theorem rnF_len (p : Prg) (rs cs : List Int) : ∀ k, (rnF p rs cs k).1.length = rs.length ∧ (rnF p rs cs k).2.length = cs.length
  | 0 => ⟨rfl, rfl⟩
  | k + 1 => ⟨by rw [rnF, exR_len]; exact (rnF_len p rs cs k).1, by rw [rnF, exC_len]; exact (rnF_len p rs cs k).2⟩
theorem rnE_stop {p : Prg} {rs cs : List Int} {k : Nat} (h : rnE p rs cs k ≠ 0) : ∀ n, k ≤ n → rnE p rs cs n = rnE p rs cs k
  | 0, hn => by rw [show k = 0 by omega]
  | n + 1, hn => by
    by_cases e : k = n + 1
    · rw [e]
    · have ih := rnE_stop h n (by omega)
      rw [rnE, ih, if_neg h]
abbrev zR : List Int := List.replicate 16 0
def rgE (p : Prg) (n : Nat) (l xs : List Int) : Int := if goodP p n && decide (xs.length = p.gInputs_n) then rnE p zR (inC p l xs p.gInputs_n) p.gCode_n else 1
def rgS (p : Prg) (l xs : List Int) : List Int × List Int := rnF p zR (inC p l xs p.gInputs_n) p.gCode_n
def outC (p : Prg) (cs : List Int) (k : Nat) : List Int := (p.gOutputs_l.take k).map fun c => cs.getD c.toNat 0
def runR (p : Prg) (n : Nat) (l xs : List Int) : List Int := if rgE p n l xs = 0 then (rgS p l xs).1 else zR
def runC (p : Prg) (n : Nat) (l xs : List Int) : List Int := if rgE p n l xs = 0 then (rgS p l xs).2 else []
def runO (p : Prg) (n : Nat) (l xs : List Int) : List Int := if rgE p n l xs = 0 then outC p (rgS p l xs).2 p.gOutputs_n else []
def stE (p : Prg) (n : Nat) (rs : List Int) (k : Int) : Int := if goodP p n then (if k < 0 ∨ (p.gCode_n : Int) ≤ k then 2 else exE p (codeI p k) rs) else 1
def stR (p : Prg) (n : Nat) (rs cs : List Int) (k : Int) : List Int := if stE p n rs k = 0 then exR p (codeI p k) rs cs else zR
def stC (p : Prg) (n : Nat) (rs cs : List Int) (k : Int) : List Int := if stE p n rs k = 0 then exC (codeI p k) rs cs else []
def stN (p : Prg) (n : Nat) (rs : List Int) (k : Int) : Int := if stE p n rs k = 0 then k + 1 else 0
theorem st_bad {p : Prg} {n : Nat} {rs cs : List Int} {k e : Int} (h : stE p n rs k = e) (he : e ≠ 0) : stR p n rs cs k = zR ∧ stC p n rs cs k = [] ∧ stN p n rs k = 0 := by
  unfold stR stC stN; rw [h, if_neg he, if_neg he, if_neg he]; exact ⟨rfl, rfl, rfl⟩
theorem st_ok {p : Prg} {n : Nat} {rs cs : List Int} {k : Int} (h : stE p n rs k = 0) : stR p n rs cs k = exR p (codeI p k) rs cs ∧ stC p n rs cs k = exC (codeI p k) rs cs ∧ stN p n rs k = k + 1 := by
  unfold stR stC stN; rw [h]; exact ⟨rfl, rfl, rfl⟩
theorem run_bad {p : Prg} {n : Nat} {l xs : List Int} {e : Int} (h : rgE p n l xs = e) (he : e ≠ 0) : runR p n l xs = zR ∧ runC p n l xs = [] ∧ runO p n l xs = [] := by
  unfold runR runC runO; rw [h, if_neg he, if_neg he, if_neg he]; exact ⟨rfl, rfl, rfl⟩
theorem run_ok {p : Prg} {n : Nat} {l xs : List Int} (h : rgE p n l xs = 0) : runR p n l xs = (rgS p l xs).1 ∧ runC p n l xs = (rgS p l xs).2 ∧ runO p n l xs = outC p (rgS p l xs).2 p.gOutputs_n := by
  unfold runR runC runO; rw [h]; exact ⟨rfl, rfl, rfl⟩

theorem hb159 : HasBody Tryz.prog 159 := fun _ _ => by kernel_rfl

theorem fvalue_any (x : Int) (w : World) : Ret Tryz.prog 159 #[iv x] w (fun v w' => v = .bool (decide (-1099511627776 ≤ x ∧ x ≤ 1099511627776)) ∧ Sep w [] w') := by
 refine Ret.st (N := 9) Tryz.func159 fun R hR S0 => ?_
 refine J.c 9 [] [] [] 5 (x ≥ (-1099511627776)) (fun fk1 => ?_) fun fk1 => ?_
 ·skip
  refine J.e 5 [.bool (decide (x ≤ 1099511627776))] Tryz.func159 (hR _ _ ?_)
  exact ⟨congrArg Value.bool (by rw [Bool.eq_iff_iff]; simp; omega), S0.nil⟩
 refine J.e 5 [.bool false] Tryz.func159 (hR _ _ ?_)
 exact ⟨congrArg Value.bool (by rw [Bool.eq_iff_iff]; simp; omega), S0.nil⟩

theorem hb109 : HasBody Tryz.prog 109 := fun _ _ => by kernel_rfl

theorem flag_any (y r x sh : Int) (w : World) (hs : 0 ≤ sh ∧ sh ≤ 20) (hx : -1099511627776 ≤ x ∧ x ≤ 1099511627776) : Ret Tryz.prog 109 #[.agg #[iv y, iv r], iv x, iv sh] w (fun v w' => v = .tuple #[.agg #[iv (lagP y r x sh), iv (lagQ y r x sh)], iv (lagE y r sh)] ∧ Sep w [] w') := by
 refine Ret.st (N := 61) Tryz.func109 fun R hR S0 => ?_
 have hpw := pow_bd (k := sh.toNat) (by omega)
 have hbd : 0 ≤ r → r < 2 ^ sh.toNat → -1099511627776 ≤ y ∧ y ≤ 1099511627776 → _ := fun h1_ h2_ h3_ => lag_bd (n := x - y + r) (k := sh.toNat) (by have := pow_20 sh hs; omega)
 have hp20 := pow_20 sh hs
 refine J.nw 2 [] [] [] S0 3 [iv y, iv r] 97 fun b1 w1 S1 => ?_
 refine J.nw 0 [] [] [] S1 6 [iv 0, iv 0] 97 fun b2 w2 S2 => ?_
 have fk2 : ¬ (sh < 0) := by omega
 refine J.h 9 [] [] [] 13 (.bool (decide (sh < 0))) (.bool false) (congrArg Value.bool (decide_eq_false fk2)) ?_
 have fk4 : ¬ (sh > 20) := by omega
 refine J.h 5 [] [] [] 10 (.bool (decide (sh > 20))) (.bool false) (congrArg Value.bool (decide_eq_false fk4)) ?_
 refine J.r 2 [false] [] [] ?_
 rcases Bool.eq_false_or_eq_true (decide (-1099511627776 ≤ y ∧ y ≤ 1099511627776)) with fk5 | fk5
 rotate_left
 ·skip
  have fb3 := of_decide_eq_false fk5
  refine J.drawPlan (fun w_ => Sep w [box b2 [iv 0, iv 0] 97, box b1 [iv y, iv r] 97] w_) [(0, true), (1, true), (2, false), (3, true), (4, true), (5, true), (6, true), (7, true), (8, true), (9, true), (10, true), (11, true), (12, true), (13, true), (14, true), (15, true), (16, true)] S2 Tryz.mixed (by kernel_rfl) (planOK_of (T := [(0, some 19, 8), (1, some 20, 524288), (2, some 21, 1048576), (4, some 22, 2097152), (12, some 23, 4194304), (16, some 24, 8388616), (48, some 25, 25165824), (80, some 26, 41943040), (144, some 27, 75497472), (272, some 28, 134217728), (512, some 29, 268435464), (1536, some 30, 805306368), (512, some 31, 268435460), (4608, some 32, 2415919104), (10752, some 33, 5637144576), (16896, some 34, 8858370048), (33280, some 18, 17179869184)]) (by kernel_rfl) (by kernel_rfl)) ?_
  intro w12 S12
  refine PB.mk S12 ?_
  refine PL.take 0 19 (pv b1) (fun _ _ => by kernel_rfl) ?_
  refine PL.takeOK 1 (fun w_ S_ => OK.ldBox S_ 1 20 3 0 (iv y) (by kernel_rfl) rfl (by kernel_rfl)) rfl ?_
  refine PL.callF 21 159 #[iv y] hb159 (by kernel_rfl) (fvalue_any y _) ?_
  rintro _ w13 ⟨rfl, T3⟩
  have S13 : Sep w [box b2 [iv 0, iv 0] 97, box b1 [iv y, iv r] 97] w13 := S12.trans T3
  clear T3 S12
  refine PB.head (.bool false) (congrArg Value.bool fk5) ?_
  refine PB.mk S13 ?_
  refine PL.take 3 22 (.bool true) (fun _ _ => by kernel_rfl) ?_
  refine PL.take 4 23 (.bool true) (fun _ _ => by kernel_rfl) ?_
  refine PL.takePass 5 (some 24) (by kernel_rfl) ?_
  refine PL.takePass 6 (some 25) (by kernel_rfl) ?_
  refine PL.takePass 7 (some 26) (by kernel_rfl) ?_
  refine PL.take 8 27 (.bool true) (fun _ _ => by kernel_rfl) ?_
  refine PL.take 9 28 (.bool true) (fun _ _ => by kernel_rfl) ?_
  refine PL.takePass 10 (some 29) (by kernel_rfl) ?_
  refine PL.takePass 11 (some 30) (by kernel_rfl) ?_
  refine PL.takePass 12 (some 31) (by kernel_rfl) ?_
  refine PL.takePass 13 (some 32) (by kernel_rfl) ?_
  refine PL.takePass 14 (some 33) (by kernel_rfl) ?_
  refine PL.take 15 34 (.bool true) (fun _ _ => by kernel_rfl) ?_
  refine PL.take 16 18 (.bool true) (fun _ _ => by kernel_rfl) ?_
  refine PL.done ?_
  refine J.sb 4 [true] [] [] S13 0 rfl [iv 0, iv 0] rfl fun w14 S14 => ?_
  refine J.ez 2 [.agg #[iv 0, iv 0], iv 1] Tryz.func109 (bk (S14.nth 0 rfl) bn) (hR _ _ ?_)
  obtain ⟨e1, e2, e3⟩ := lag_no (x := x) (lagB_no (y := y) (r := r) (sh := sh) (by omega))
  exact ⟨by rw [e1, e2, e3]; rfl, S14.nil⟩
 have fb1 := of_decide_eq_true fk5
 by_cases fk6 : r < 0
 ·skip
  refine J.drawPlan (fun w_ => Sep w [box b2 [iv 0, iv 0] 97, box b1 [iv y, iv r] 97] w_) [(0, true), (1, true), (2, false), (3, true), (4, true), (5, true), (6, true), (7, true), (8, true), (9, true), (10, true), (11, true), (12, true), (13, true), (14, true), (15, true), (16, true)] S2 Tryz.mixed (by kernel_rfl) (planOK_of (T := [(0, some 19, 8), (1, some 20, 524288), (2, some 21, 1048576), (4, some 22, 2097152), (12, some 23, 4194304), (16, some 24, 8388616), (48, some 25, 25165824), (80, some 26, 41943040), (144, some 27, 75497472), (272, some 28, 134217728), (512, some 29, 268435464), (1536, some 30, 805306368), (512, some 31, 268435460), (4608, some 32, 2415919104), (10752, some 33, 5637144576), (16896, some 34, 8858370048), (33280, some 18, 17179869184)]) (by kernel_rfl) (by kernel_rfl)) ?_
  intro w3 S3
  refine PB.mk S3 ?_
  refine PL.take 0 19 (pv b1) (fun _ _ => by kernel_rfl) ?_
  refine PL.takeOK 1 (fun w_ S_ => OK.ldBox S_ 1 20 3 0 (iv y) (by kernel_rfl) rfl (by kernel_rfl)) rfl ?_
  refine PL.callF 21 159 #[iv y] hb159 (by kernel_rfl) (fvalue_any y _) ?_
  rintro _ w4 ⟨rfl, T1⟩
  have S4 : Sep w [box b2 [iv 0, iv 0] 97, box b1 [iv y, iv r] 97] w4 := S3.trans T1
  clear T1 S3
  refine PB.head (.bool true) (congrArg Value.bool fk5) ?_
  refine PB.mk S4 ?_
  refine PL.take 3 22 (.bool false) (fun _ _ => by kernel_rfl) ?_
  refine PL.take 4 23 (.bool false) (fun _ _ => by kernel_rfl) ?_
  refine PL.take 5 24 (.pointer (some ⟨b1, 1, none⟩)) (fun _ _ => by kernel_rfl) ?_
  refine PL.takeOK 6 (fun w_ S_ => OK.ldBox S_ 1 25 3 1 (iv r) (by kernel_rfl) rfl (by kernel_rfl)) rfl ?_
  refine PL.take 7 26 (.bool (decide (r < 0))) (fun _ _ => by kernel_rfl) ?_
  refine PL.head (.bool true) (congrArg Value.bool (decide_eq_true fk6)) ?_
  refine PL.take 8 27 (.bool true) (fun _ _ => by kernel_rfl) ?_
  refine PL.take 9 28 (.bool true) (fun _ _ => by kernel_rfl) ?_
  refine PL.takePass 10 (some 29) (by kernel_rfl) ?_
  refine PL.takePass 11 (some 30) (by kernel_rfl) ?_
  refine PL.takePass 12 (some 31) (by kernel_rfl) ?_
  refine PL.takePass 13 (some 32) (by kernel_rfl) ?_
  refine PL.takePass 14 (some 33) (by kernel_rfl) ?_
  refine PL.take 15 34 (.bool true) (fun _ _ => by kernel_rfl) ?_
  refine PL.take 16 18 (.bool true) (fun _ _ => by kernel_rfl) ?_
  refine PL.done ?_
  refine J.sb 4 [true] [] [] S4 0 rfl [iv 0, iv 0] rfl fun w5 S5 => ?_
  refine J.ez 2 [.agg #[iv 0, iv 0], iv 1] Tryz.func109 (bk (S5.nth 0 rfl) bn) (hR _ _ ?_)
  obtain ⟨e1, e2, e3⟩ := lag_no (x := x) (lagB_no (y := y) (r := r) (sh := sh) (by omega))
  exact ⟨by rw [e1, e2, e3]; rfl, S5.nil⟩
 refine J.drawPlan (fun w_ => Sep w [box b2 [iv 0, iv 0] 97, box b1 [iv y, iv r] 97] w_) [(0, true), (1, true), (2, false), (3, true), (4, true), (5, true), (6, true), (7, true), (8, true), (9, true), (10, true), (11, true), (12, true), (13, true), (14, true), (15, true), (16, true)] S2 Tryz.mixed (by kernel_rfl) (planOK_of (T := [(0, some 19, 8), (1, some 20, 524288), (2, some 21, 1048576), (4, some 22, 2097152), (12, some 23, 4194304), (16, some 24, 8388616), (48, some 25, 25165824), (80, some 26, 41943040), (144, some 27, 75497472), (272, some 28, 134217728), (512, some 29, 268435464), (1536, some 30, 805306368), (512, some 31, 268435460), (4608, some 32, 2415919104), (10752, some 33, 5637144576), (16896, some 34, 8858370048), (33280, some 18, 17179869184)]) (by kernel_rfl) (by kernel_rfl)) ?_
 intro w6 S6
 refine PB.mk S6 ?_
 refine PL.take 0 19 (pv b1) (fun _ _ => by kernel_rfl) ?_
 refine PL.takeOK 1 (fun w_ S_ => OK.ldBox S_ 1 20 3 0 (iv y) (by kernel_rfl) rfl (by kernel_rfl)) rfl ?_
 refine PL.callF 21 159 #[iv y] hb159 (by kernel_rfl) (fvalue_any y _) ?_
 rintro _ w7 ⟨rfl, T2⟩
 have S7 : Sep w [box b2 [iv 0, iv 0] 97, box b1 [iv y, iv r] 97] w7 := S6.trans T2
 clear T2 S6
 refine PB.head (.bool true) (congrArg Value.bool fk5) ?_
 refine PB.mk S7 ?_
 refine PL.take 3 22 (.bool false) (fun _ _ => by kernel_rfl) ?_
 refine PL.take 4 23 (.bool false) (fun _ _ => by kernel_rfl) ?_
 refine PL.take 5 24 (.pointer (some ⟨b1, 1, none⟩)) (fun _ _ => by kernel_rfl) ?_
 refine PL.takeOK 6 (fun w_ S_ => OK.ldBox S_ 1 25 3 1 (iv r) (by kernel_rfl) rfl (by kernel_rfl)) rfl ?_
 refine PL.take 7 26 (.bool (decide (r < 0))) (fun _ _ => by kernel_rfl) ?_
 refine PL.head (.bool false) (congrArg Value.bool (decide_eq_false fk6)) ?_
 refine PL.take 8 27 (.bool false) (fun _ _ => by kernel_rfl) ?_
 refine PL.take 9 28 (.bool false) (fun _ _ => by kernel_rfl) ?_
 refine PL.take 10 29 (.pointer (some ⟨b1, 1, none⟩)) (fun _ _ => by kernel_rfl) ?_
 refine PL.takeOK 11 (fun w_ S_ => OK.ldBox S_ 1 30 3 1 (iv r) (by kernel_rfl) rfl (by kernel_rfl)) rfl ?_
 refine PL.take 12 31 (iv sh) (fun _ _ => by kernel_rfl) ?_
 refine PL.takeOK 13 (fun w_ S_ => OK.shl 32 .i64 1 sh (2 ^ (sh).toNat) (by kernel_rfl) (by omega) ((by rw [lim_shl (by omega) (by omega), Int.one_mul]))) rfl ?_
 refine PL.take 14 33 (.bool (decide (r ≥ (2 ^ (sh).toNat)))) (fun _ _ => by kernel_rfl) ?_
 refine PL.take 15 34 (.bool (decide (r ≥ (2 ^ (sh).toNat)))) (fun _ _ => by kernel_rfl) ?_
 refine PL.take 16 18 (.bool (decide (r ≥ (2 ^ (sh).toNat)))) (fun _ _ => by kernel_rfl) ?_
 refine PL.done ?_
 refine J.c 0 [] [] [] 18 (r ≥ (2 ^ (sh).toNat)) (fun fk7 => ?_) fun fk7 => ?_
 ·skip
  refine J.sb 4 [true] [] [] S7 0 rfl [iv 0, iv 0] rfl fun w8 S8 => ?_
  refine J.ez 2 [.agg #[iv 0, iv 0], iv 1] Tryz.func109 (bk (S8.nth 0 rfl) bn) (hR _ _ ?_)
  obtain ⟨e1, e2, e3⟩ := lag_no (x := x) (lagB_no (y := y) (r := r) (sh := sh) (by omega))
  exact ⟨by rw [e1, e2, e3]; rfl, S8.nil⟩
 have hlb := hbd (by omega) (by omega) (by omega)
 refine J.c0 4 [false] [] [] S7 38 hb159 (fvalue_any x _) fun w9 S9 => ?_
 have fk9 : (decide (-1099511627776 ≤ x ∧ x ≤ 1099511627776)) = true := decide_eq_true hx
 refine J.h 3 [] [] [] 36 (.bool (!(decide (-1099511627776 ≤ x ∧ x ≤ 1099511627776)))) (.bool false) (congrArg Value.bool (by rw [fk9]; rfl)) ?_
 refine J.lb 7 [false] [(41, iv x)] [] S9 1 rfl 43 (iv y) ?_
 refine J.wi 1 [] [] [] 44 (x - y) ?_
 refine J.lb 1 [] [] [] S9 1 rfl 46 (iv r) ?_
 refine J.wi 1 [] [] [] 47 ((x - y) + r) ?_
 refine J.r 6 [] [(49, iv sh), (48, iv ((x - y) + r)), (8, iv ((x - y) + r))] [] ?_
 refine J.ok (OK.shr 50 .i64 ((x - y) + r) sh (((x - y) + r) / 2 ^ (sh).toNat) (by kernel_rfl) (by omega) ((shr_p (by omega)))) ?_
 refine J.r 3 [] [(9, iv (((x - y) + r) / 2 ^ (sh).toNat))] [] ?_
 refine J.drawTail S9 10 Tryz.mixed (by kernel_rfl) (by kernel_rfl) ?_
 intro w10 S10
 refine SL.r 51 (pv b1) ?_
 refine SL.lb S10 1 rfl 52 (iv y) ?_
 refine SL.r 53 (iv (((x - y) + r) / 2 ^ (sh).toNat)) ?_
 refine SL.r 54 (iv (IntKind.wrap .i64 (y + (((x - y) + r) / 2 ^ (sh).toNat)))) ?_
 refine SL.head (iv (y + (((x - y) + r) / 2 ^ (sh).toNat))) (congrArg (Value.int .i64) (IntWalk.i64_in _ (by omega))) ?_
 refine SL.r 55 (iv ((x - y) + r)) ?_
 refine SL.r 56 (iv (((x - y) + r) / 2 ^ (sh).toNat)) ?_
 refine SL.r 57 (iv sh) ?_
 refine SL.ok (by decide) (OK.shl 58 .i64 (((x - y) + r) / 2 ^ (sh).toNat) sh ((((x - y) + r) / 2 ^ (sh).toNat) * 2 ^ (sh).toNat) (by kernel_rfl) (by omega) ((shl_p (by omega) (by omega)))) ?_
 refine SL.r 59 (iv (IntKind.wrap .i64 (((x - y) + r) - ((((x - y) + r) / 2 ^ (sh).toNat) * 2 ^ (sh).toNat)))) ?_
 refine SL.head (iv (((x - y) + r) - ((((x - y) + r) / 2 ^ (sh).toNat) * 2 ^ (sh).toNat))) (congrArg (Value.int .i64) (IntWalk.i64_in _ (by omega))) ?_
 refine SL.r 60 (.agg #[iv (y + (((x - y) + r) / 2 ^ (sh).toNat)), iv (((x - y) + r) - ((((x - y) + r) / 2 ^ (sh).toNat) * 2 ^ (sh).toNat))]) ?_
 refine SL.done ?_
 refine TL.stBox S10 0 97 0 (.agg #[iv (y + (((x - y) + r) / 2 ^ (sh).toNat)), iv (((x - y) + r) - ((((x - y) + r) / 2 ^ (sh).toNat) * 2 ^ (sh).toNat))]) [iv (y + (((x - y) + r) / 2 ^ (sh).toNat)), iv (((x - y) + r) - ((((x - y) + r) / 2 ^ (sh).toNat) * 2 ^ (sh).toNat))] [box b2 [iv (y + (((x - y) + r) / 2 ^ (sh).toNat)), iv (((x - y) + r) - ((((x - y) + r) / 2 ^ (sh).toNat) * 2 ^ (sh).toNat))] 97, box b1 [iv y, iv r] 97] (by kernel_rfl) rfl (by kernel_rfl) (by kernel_rfl) rfl ?_
 intro w11 S11
 refine TL.r 7 (iv 0) ?_
 refine TL.done (by kernel_rfl) ?_
 refine J.ez 0 [.agg #[iv (y + (((x - y) + r) / 2 ^ (sh).toNat)), iv (((x - y) + r) - ((((x - y) + r) / 2 ^ (sh).toNat) * 2 ^ (sh).toNat))], iv 0] Tryz.func109 (bk (S11.nth 0 rfl) bn) (hR _ _ ?_)
 obtain ⟨e1, e2, e3⟩ := lag_yes (x := x) (lagB_yes (y := y) (r := r) (sh := sh) (by omega) (by omega) (by omega))
 exact ⟨by rw [e1, e2, e3]; rfl, S11.nil⟩

theorem hb62 : HasBody Tryz.prog 62 := fun _ _ => by kernel_rfl

theorem truth_any (b : Bool) (w : World) : Ret Tryz.prog 62 #[.bool b] w (fun v w' => v = iv (tr01 b) ∧ Sep w [] w') := by
 refine Ret.st (N := 4) Tryz.func62 fun R hR S0 => ?_
 refine J.b 9 [] [] [] 3 b (fun fk1 => ?_) fun fk1 => ?_
 ·skip
  refine J.e 5 [iv 1] Tryz.func62 (hR _ _ ?_)
  exact ⟨congrArg (Value.int .i64) (by unfold tr01; rw [fk1]; rfl), S0.nil⟩
 refine J.e 6 [iv 0] Tryz.func62 (hR _ _ ?_)
 exact ⟨congrArg (Value.int .i64) (by unfold tr01; rw [fk1]; rfl), S0.nil⟩

theorem hb111 : HasBody Tryz.prog 111 := fun _ _ => by kernel_rfl

theorem mvalue_any (t : Fxd) (x : Int) (w : World) (ht : fxdQ w t) : Ret Tryz.prog 111 #[.agg (fxdA t), iv x] w (fun v w' => v = .agg (vlA t (clampT t x)) ∧ Sep w [] w') := by
 refine Ret.st (N := 19) Tryz.func111 fun R hR S0 => ?_
 obtain ⟨q1, q2, q3, q4, q5, q6, q7, q8, q9, _⟩ := id ht
 refine J.nw 2 [] [] [] S0 2 (fxdC t) 75 fun b1 w1 S1 => ?_
 refine J.nw 0 [] [] [] S1 4 [iv 0, .bool false, iv 0, iv 0, iv 0, iv 0, iv 0, iv 0, iv 0, iv 0, iv 0] 82 fun b2 w2 S2 => ?_
 refine J.lb 3 [] [] [] S2 1 rfl 8 (.agg (fxdA t)) ?_
 refine J.c0 0 [] [] [] S2 9 hb160 (lim_any t _ (fxdQ_sep ht S2)) fun w3 S3 => ?_
 have hlim := lim_bd (t)
 refine J.lb 8 [] [(6, iv (limHi t)), (5, iv (limLo t))] [] S3 1 rfl 12 (.agg (fxdA t)) ?_
 refine J.h 3 [] [] [] 15 (iv (if (limLo t) > x then (limLo t) else x)) (iv (max x (limLo t))) (congrArg (Value.int .i64) (by omega)) ?_
 refine J.h 2 [] [] [] 17 (iv (if (limHi t) < (max x (limLo t)) then (limHi t) else (max x (limLo t)))) (iv (min (max x (limLo t)) (limHi t))) (congrArg (Value.int .i64) (by omega)) ?_
 refine J.sb 1 [] [] [] S3 0 rfl (vlL t (min (max x (limLo t)) (limHi t))) rfl fun w4 S4 => ?_
 refine J.ez 1 [.agg (vlA t (min (max x (limLo t)) (limHi t)))] Tryz.func111 (bk (S4.nth 0 rfl) bn) (hR _ _ ?_)
 exact ⟨rfl, S4.nil⟩

end Go.Proofs.YtaoolgcddapegaaGreatDoor

