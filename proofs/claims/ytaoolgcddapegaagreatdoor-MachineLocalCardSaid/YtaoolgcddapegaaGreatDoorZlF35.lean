/- Walks of functions of this seat, printed by a program over the engine. Conditions: as each theorem says. -/
import Derived.Test.YtaoolgcddapegaaGreatDoorZlF34
namespace Go.Proofs.YtaoolgcddapegaaGreatDoor
open Go.Eng Go.RowKit
set_option linter.unusedSimpArgs false
set_option linter.unusedVariables false
set_option maxRecDepth 20000
set_option maxHeartbeats 20000000
abbrev kvF35_1 : List Value := [iv 0, .bool false, iv 0, iv 0, iv 0, iv 0, iv 0, iv 0, iv 0, iv 0, iv 0]
theorem hb196 : HasBody Tryz.prog 196 := fun _ _ => by kernel_rfl

theorem within_any (r : Int) (t : Fxd) (w : World) (ht : fxdQ w t) (ft : fixB t = true) (rt : inT t r) : Ret Tryz.prog 196 #[.agg #[iv r, iv r], .agg (fxdA t)] w (fun v w' => v = .bool true ∧ Sep w [] w') := by
 refine Ret.st (N := 33) Tryz.func196 fun R hR S0 => ?_
 obtain ⟨q1, q2, q3, q4, q5, q6, q7, q8, q9, _⟩ := id ht
 refine J.nw 2 [] [] [] S0 2 [iv r, iv r] 218 fun b1 w1 S1 => ?_
 refine J.nw 0 [] [] [] S1 3 (fxdC t) 75 fun b2 w2 S2 => ?_
 refine J.lb 4 [] [] [] S2 0 rfl 8 (.agg (fxdA t)) ?_
 refine J.c0 0 [] [] [] S2 9 hb160 (lim_any t _ (fxdQ_sep ht S2)) fun w3 S3 => ?_
 have hlim := lim_bd (t)
 refine J.lb 8 [] [(6, iv (limHi t)), (5, iv (limLo t))] [] S3 0 rfl 12 (.agg (fxdA t)) ?_
 refine J.c0 0 [] [] [] S3 13 hb95 (fxvalid_any t _ (fxdQ_sep ht S3)) fun w4 S4 => ?_
 have fk2 : (fixB t) = true := ft
 refine J.h 1 [] [] [] 14 (.bool (fixB t)) (.bool true) (congrArg Value.bool fk2) ?_
 refine J.lb 1 [] [] [] S4 1 rfl 16 (iv r) ?_
 refine J.lb 1 [] [] [] S4 1 rfl 18 (iv r) ?_
 have fk4 : r ≤ r := by omega
 refine J.h 3 [] [] [] 21 (.bool (decide (r ≤ r))) (.bool true) (congrArg Value.bool (decide_eq_true fk4)) ?_
 refine J.lb 1 [] [] [] S4 1 rfl 23 (iv r) ?_
 have fk6 : r ≥ (limLo t) := by omega
 refine J.h 4 [] [] [] 27 (.bool (decide (r ≥ (limLo t)))) (.bool true) (congrArg Value.bool (decide_eq_true fk6)) ?_
 refine J.lb 1 [] [] [] S4 1 rfl 29 (iv r) ?_
 refine J.e 5 [.bool (decide (r ≤ (limHi t)))] Tryz.func196 (hR _ _ ?_)
 exact ⟨congrArg Value.bool (decide_eq_true (by omega)), S4.nil⟩

theorem hb163 : HasBody Tryz.prog 163 := fun _ _ => by kernel_rfl

theorem valid4_any (t : Fxd) (r : Int) (w : World) (ht : fxdQ w t) (ft : fixB t = true) (rt : inT t r) : Ret Tryz.prog 163 #[.agg #[iv t.gBits, .bool t.gSigned, iv t.gNum, iv t.gOff, iv t.gDen, iv t.gUnit_M, iv t.gUnit_Kg, iv t.gUnit_S, iv t.gUnit_A, iv t.gUnit_K, iv r]] w (fun v w' => v = .bool true ∧ Sep w [] w') := by
 refine Ret.st (N := 11) Tryz.func163 fun R hR S0 => ?_
 obtain ⟨q1, q2, q3, q4, q5, q6, q7, q8, q9, _⟩ := id ht
 refine J.nw 2 [] [] [] S0 1 [iv t.gBits, .bool t.gSigned, iv t.gNum, iv t.gOff, iv t.gDen, iv t.gUnit_M, iv t.gUnit_Kg, iv t.gUnit_S, iv t.gUnit_A, iv t.gUnit_K, iv r] 82 fun b1 w1 S1 => ?_
 refine J.lb 5 [] [] [] S1 0 rfl 4 (iv r) ?_
 refine J.lb 1 [] [] [] S1 0 rfl 6 (iv r) ?_
 refine J.lb 2 [] [(7, .agg #[iv r, iv r])] [] S1 0 rfl 9 (.agg (fxdA t)) ?_
 refine J.c0 0 [] [] [] S1 10 hb196 (within_any r t _ (fxdQ_sep ht S1) ft rt) fun w2 S2 => ?_
 refine J.e 2 [.bool true] Tryz.func163 (hR _ _ ?_)
 exact ⟨rfl, S2.nil⟩

theorem hb194 : HasBody Tryz.prog 194 := fun _ _ => by kernel_rfl

theorem fit_any (op : Int) (a b t : Unt) (w : World) : Ret Tryz.prog 194 #[iv op, .agg (untA a), .agg (untA b), .agg (untA t)] w (fun v w' => v = .bool (fitOK op a b t) ∧ Sep w [] w') := by
 refine Ret.st (N := 42) Tryz.func194 fun R hR S0 => ?_
 refine J.nw 2 [] [] [] S0 5 (untC a) 73 fun b1 w1 S1 => ?_
 refine J.nw 0 [] [] [] S1 6 (untC b) 73 fun b2 w2 S2 => ?_
 refine J.nw 0 [] [] [] S2 7 (untC t) 73 fun b3 w3 S3 => ?_
 refine J.c 17 [] [(10, iv op)] [] 19 (op = 3) (fun fk1 => ?_) fun fk1 => ?_
 ·skip
  refine J.lb 2 [true] [] [] S3 2 rfl 22 (.agg (untA a)) ?_
  refine J.lb 0 [] [] [] S3 1 rfl 23 (.agg (untA b)) ?_
  refine J.c0 0 [] [] [] S3 24 hb186 (umul_any a b _) fun w4 S4 => ?_
  refine J.sb 3 [] [(26, iv (unE a b 1))] [] S4 2 rfl (untC (unX a b 1)) rfl fun w5 S5 => ?_
  refine J.c 8 [] [] [] 37 ((unE a b 1) = 0) (fun fk2 => ?_) fun fk2 => ?_
  ·skip
   refine J.lb 0 [] [] [] S5 2 rfl 38 (.agg (untA (unX a b 1))) ?_
   refine J.lb 0 [] [] [] S5 0 rfl 39 (.agg (untA t)) ?_
   refine J.ok (OK.eqS 40 true 73 (untA (unX a b 1)) (untA t) ((((unX a b 1).gM) == t.gM) && ((((unX a b 1).gKg) == t.gKg) && ((((unX a b 1).gS) == t.gS) && ((((unX a b 1).gA) == t.gA) && ((((unX a b 1).gK) == t.gK) && true))))) (by kernel_rfl) (by kernel_rfl) (by kernel_rfl) ((((unX a b 1).gM) == t.gM) && ((((unX a b 1).gKg) == t.gKg) && ((((unX a b 1).gS) == t.gS) && ((((unX a b 1).gA) == t.gA) && (((unX a b 1).gK) == t.gK))))) (by simp)) ?_
   refine J.e 3 [.bool ((((unX a b 1).gM) == t.gM) && ((((unX a b 1).gKg) == t.gKg) && ((((unX a b 1).gS) == t.gS) && ((((unX a b 1).gA) == t.gA) && (((unX a b 1).gK) == t.gK)))))] Tryz.func194 (hR _ _ ?_)
   exact ⟨congrArg Value.bool (by unfold fitOK; (repeat first | rw [if_pos (by omega)] | rw [if_neg (by omega)]); first | rfl | (simp [unEq, fk2]; done) | (simp [unEq, fk2]; rfl)), S5.nil⟩
  refine J.e 6 [.bool false] Tryz.func194 (hR _ _ ?_)
  exact ⟨congrArg Value.bool (by unfold fitOK; (repeat first | rw [if_pos (by omega)] | rw [if_neg (by omega)]); first | rfl | (simp [unEq, fk2]; done) | (simp [unEq, fk2]; rfl)), S5.nil⟩
 refine J.c 6 [false] [] [] 27 (op = 4) (fun fk3 => ?_) fun fk3 => ?_
 ·skip
  refine J.lb 2 [true] [] [] S3 2 rfl 30 (.agg (untA a)) ?_
  refine J.lb 0 [] [] [] S3 1 rfl 31 (.agg (untA b)) ?_
  refine J.c0 0 [] [] [] S3 32 hb187 (udiv_any a b _) fun w6 S6 => ?_
  refine J.sb 3 [] [(34, iv (unE a b (-1)))] [] S6 2 rfl (untC (unX a b (-1))) rfl fun w7 S7 => ?_
  refine J.c 8 [] [] [] 37 ((unE a b (-1)) = 0) (fun fk4 => ?_) fun fk4 => ?_
  ·skip
   refine J.lb 0 [] [] [] S7 2 rfl 38 (.agg (untA (unX a b (-1)))) ?_
   refine J.lb 0 [] [] [] S7 0 rfl 39 (.agg (untA t)) ?_
   refine J.ok (OK.eqS 40 true 73 (untA (unX a b (-1))) (untA t) ((((unX a b (-1)).gM) == t.gM) && ((((unX a b (-1)).gKg) == t.gKg) && ((((unX a b (-1)).gS) == t.gS) && ((((unX a b (-1)).gA) == t.gA) && ((((unX a b (-1)).gK) == t.gK) && true))))) (by kernel_rfl) (by kernel_rfl) (by kernel_rfl) ((((unX a b (-1)).gM) == t.gM) && ((((unX a b (-1)).gKg) == t.gKg) && ((((unX a b (-1)).gS) == t.gS) && ((((unX a b (-1)).gA) == t.gA) && (((unX a b (-1)).gK) == t.gK))))) (by simp)) ?_
   refine J.e 3 [.bool ((((unX a b (-1)).gM) == t.gM) && ((((unX a b (-1)).gKg) == t.gKg) && ((((unX a b (-1)).gS) == t.gS) && ((((unX a b (-1)).gA) == t.gA) && (((unX a b (-1)).gK) == t.gK)))))] Tryz.func194 (hR _ _ ?_)
   exact ⟨congrArg Value.bool (by unfold fitOK; (repeat first | rw [if_pos (by omega)] | rw [if_neg (by omega)]); first | rfl | (simp [unEq, fk4]; done) | (simp [unEq, fk4]; rfl)), S7.nil⟩
  refine J.e 6 [.bool false] Tryz.func194 (hR _ _ ?_)
  exact ⟨congrArg Value.bool (by unfold fitOK; (repeat first | rw [if_pos (by omega)] | rw [if_neg (by omega)]); first | rfl | (simp [unEq, fk4]; done) | (simp [unEq, fk4]; rfl)), S7.nil⟩
 refine J.lb 3 [false] [] [] S3 2 rfl 11 (.agg (untA a)) ?_
 refine J.lb 0 [] [] [] S3 0 rfl 12 (.agg (untA t)) ?_
 refine J.ok (OK.eqS 13 true 73 (untA a) (untA t) ((a.gM == t.gM) && ((a.gKg == t.gKg) && ((a.gS == t.gS) && ((a.gA == t.gA) && ((a.gK == t.gK) && true))))) (by kernel_rfl) (by kernel_rfl) (by kernel_rfl) ((a.gM == t.gM) && ((a.gKg == t.gKg) && ((a.gS == t.gS) && ((a.gA == t.gA) && (a.gK == t.gK))))) (by simp)) ?_
 refine J.b 1 [] [] [] 14 ((a.gM == t.gM) && ((a.gKg == t.gKg) && ((a.gS == t.gS) && ((a.gA == t.gA) && (a.gK == t.gK))))) (fun fk5 => ?_) fun fk5 => ?_
 ·skip
  refine J.lb 0 [] [] [] S3 1 rfl 15 (.agg (untA b)) ?_
  refine J.lb 0 [] [] [] S3 0 rfl 16 (.agg (untA t)) ?_
  refine J.ok (OK.eqS 17 true 73 (untA b) (untA t) ((b.gM == t.gM) && ((b.gKg == t.gKg) && ((b.gS == t.gS) && ((b.gA == t.gA) && ((b.gK == t.gK) && true))))) (by kernel_rfl) (by kernel_rfl) (by kernel_rfl) ((b.gM == t.gM) && ((b.gKg == t.gKg) && ((b.gS == t.gS) && ((b.gA == t.gA) && (b.gK == t.gK))))) (by simp)) ?_
  refine J.e 3 [.bool ((b.gM == t.gM) && ((b.gKg == t.gKg) && ((b.gS == t.gS) && ((b.gA == t.gA) && (b.gK == t.gK)))))] Tryz.func194 (hR _ _ ?_)
  exact ⟨congrArg Value.bool (by unfold fitOK; (repeat first | rw [if_pos (by omega)] | rw [if_neg (by omega)]); first | rfl | (simp [unEq, fk5]; done) | (simp [unEq, fk5]; rfl)), S3.nil⟩
 refine J.e 6 [.bool false] Tryz.func194 (hR _ _ ?_)
 exact ⟨congrArg Value.bool (by unfold fitOK; (repeat first | rw [if_pos (by omega)] | rw [if_neg (by omega)]); first | rfl | (simp [unEq, fk5]; done) | (simp [unEq, fk5]; rfl)), S3.nil⟩

theorem hb162 : HasBody Tryz.prog 162 := fun _ _ => by kernel_rfl

theorem operate_any (op : Int) (ta : Fxd) (ra : Int) (tb : Fxd) (rb : Int) (t : Fxd) (w : World) (qa : fxdQ w ta) (fa : fixB ta = true) (ha : inT ta ra) (qb : fxdQ w tb) (fb : fixB tb = true) (hb : inT tb rb) (ht : fxdQ w t) (ft : fixB t = true) (ho : 1 ≤ op ∧ op ≤ 4) (hf : fitOK op (unitT ta) (unitT tb) (unitT t) = true) : Ret Tryz.prog 162 #[iv op, .agg #[iv ta.gBits, .bool ta.gSigned, iv ta.gNum, iv ta.gOff, iv ta.gDen, iv ta.gUnit_M, iv ta.gUnit_Kg, iv ta.gUnit_S, iv ta.gUnit_A, iv ta.gUnit_K, iv ra], .agg #[iv tb.gBits, .bool tb.gSigned, iv tb.gNum, iv tb.gOff, iv tb.gDen, iv tb.gUnit_M, iv tb.gUnit_Kg, iv tb.gUnit_S, iv tb.gUnit_A, iv tb.gUnit_K, iv rb], .agg (fxdA t)] w (fun v w' => v = .tuple #[.agg #[iv ((opTy op tb rb t).gBits), .bool ((opTy op tb rb t).gSigned), iv ((opTy op tb rb t).gNum), iv ((opTy op tb rb t).gOff), iv ((opTy op tb rb t).gDen), iv ((opTy op tb rb t).gUnit_M), iv ((opTy op tb rb t).gUnit_Kg), iv ((opTy op tb rb t).gUnit_S), iv ((opTy op tb rb t).gUnit_A), iv ((opTy op tb rb t).gUnit_K), iv (fopW op ta ra tb rb t)], iv (opE op tb rb)] ∧ Sep w [] w') := by
 refine Ret.st (N := 56) Tryz.func162 fun R hR S0 => ?_
 obtain ⟨q1, q2, q3, q4, q5, q6, q7, q8, q9, _⟩ := id qa
 obtain ⟨q10, q11, q12, q13, q14, q15, q16, q17, q18, _⟩ := id qb
 obtain ⟨q19, q20, q21, q22, q23, q24, q25, q26, q27, _⟩ := id ht
 refine J.nw 2 [] [] [] S0 5 [iv ta.gBits, .bool ta.gSigned, iv ta.gNum, iv ta.gOff, iv ta.gDen, iv ta.gUnit_M, iv ta.gUnit_Kg, iv ta.gUnit_S, iv ta.gUnit_A, iv ta.gUnit_K, iv ra] 82 fun b1 w1 S1 => ?_
 refine J.nw 0 [] [] [] S1 6 [iv tb.gBits, .bool tb.gSigned, iv tb.gNum, iv tb.gOff, iv tb.gDen, iv tb.gUnit_M, iv tb.gUnit_Kg, iv tb.gUnit_S, iv tb.gUnit_A, iv tb.gUnit_K, iv rb] 82 fun b2 w2 S2 => ?_
 refine J.nw 0 [] [] [] S2 7 (fxdC t) 75 fun b3 w3 S3 => ?_
 refine J.nw 0 [] [] [] S3 8 kvF35_1 82 fun b4 w4 S4 => ?_
 refine J.lb 5 [] [] [] S4 3 rfl 12 (.agg #[iv ta.gBits, .bool ta.gSigned, iv ta.gNum, iv ta.gOff, iv ta.gDen, iv ta.gUnit_M, iv ta.gUnit_Kg, iv ta.gUnit_S, iv ta.gUnit_A, iv ta.gUnit_K, iv ra]) ?_
 refine J.c0 0 [] [] [] S4 13 hb163 (valid4_any ta ra _ (fxdQ_sep qa S4) fa ha) fun w5 S5 => ?_
 refine J.lb 2 [] [(15, .bool false)] [] S5 2 rfl 16 (.agg #[iv tb.gBits, .bool tb.gSigned, iv tb.gNum, iv tb.gOff, iv tb.gDen, iv tb.gUnit_M, iv tb.gUnit_Kg, iv tb.gUnit_S, iv tb.gUnit_A, iv tb.gUnit_K, iv rb]) ?_
 refine J.c0 0 [] [] [] S5 17 hb163 (valid4_any tb rb _ (fxdQ_sep qb S5) fb hb) fun w6 S6 => ?_
 refine J.lb 3 [] [(20, .bool false)] [] S6 1 rfl 21 (.agg (fxdA t)) ?_
 refine J.c0 0 [] [] [] S6 22 hb95 (fxvalid_any t _ (fxdQ_sep ht S6)) fun w7 S7 => ?_
 have fk2 : (fixB t) = true := ft
 refine J.h 3 [] [] [] 24 (.bool (!(fixB t))) (.bool false) (congrArg Value.bool (by rw [fk2]; rfl)) ?_
 refine J.lb 8 [false] [(26, iv op)] [] S7 3 rfl 29 (.agg #[iv ta.gUnit_M, iv ta.gUnit_Kg, iv ta.gUnit_S, iv ta.gUnit_A, iv ta.gUnit_K]) ?_
 refine J.lb 2 [] [] [] S7 2 rfl 32 (.agg #[iv tb.gUnit_M, iv tb.gUnit_Kg, iv tb.gUnit_S, iv tb.gUnit_A, iv tb.gUnit_K]) ?_
 refine J.lb 1 [] [] [] S7 1 rfl 34 (.agg #[iv t.gUnit_M, iv t.gUnit_Kg, iv t.gUnit_S, iv t.gUnit_A, iv t.gUnit_K]) ?_
 refine J.c0 0 [] [] [] S7 35 hb194 (fit_any op (⟨ta.gUnit_M, ta.gUnit_Kg, ta.gUnit_S, ta.gUnit_A, ta.gUnit_K⟩ : Unt) (⟨tb.gUnit_M, tb.gUnit_Kg, tb.gUnit_S, tb.gUnit_A, tb.gUnit_K⟩ : Unt) (⟨t.gUnit_M, t.gUnit_Kg, t.gUnit_S, t.gUnit_A, t.gUnit_K⟩ : Unt) _) fun w8 S8 => ?_
 have fk4 : (fitOK op (⟨ta.gUnit_M, ta.gUnit_Kg, ta.gUnit_S, ta.gUnit_A, ta.gUnit_K⟩ : Unt) (⟨tb.gUnit_M, tb.gUnit_Kg, tb.gUnit_S, tb.gUnit_A, tb.gUnit_K⟩ : Unt) (⟨t.gUnit_M, t.gUnit_Kg, t.gUnit_S, t.gUnit_A, t.gUnit_K⟩ : Unt)) = true := hf
 refine J.h 2 [] [] [] 36 (.bool (!(fitOK op (⟨ta.gUnit_M, ta.gUnit_Kg, ta.gUnit_S, ta.gUnit_A, ta.gUnit_K⟩ : Unt) (⟨tb.gUnit_M, tb.gUnit_Kg, tb.gUnit_S, tb.gUnit_A, tb.gUnit_K⟩ : Unt) (⟨t.gUnit_M, t.gUnit_Kg, t.gUnit_S, t.gUnit_A, t.gUnit_K⟩ : Unt)))) (.bool false) (congrArg Value.bool (by rw [fk4]; rfl)) ?_
 refine J.lb 5 [false] [] [] S8 2 rfl 39 (.agg #[iv tb.gBits, .bool tb.gSigned, iv tb.gNum, iv tb.gOff, iv tb.gDen, iv tb.gUnit_M, iv tb.gUnit_Kg, iv tb.gUnit_S, iv tb.gUnit_A, iv tb.gUnit_K, iv rb]) ?_
 refine J.c0 0 [] [] [] S8 40 hb164 (number_any tb rb _ fb hb) fun w9 S9 => ?_
 refine J.c 11 [] [(10, iv (numF tb rb))] [] 45 (op = 4) (fun fk5 => ?_) fun fk5 => ?_
 ·skip
  refine J.c 4 [] [] [] 48 ((numF tb rb) = 0) (fun fk6 => ?_) fun fk6 => ?_
  ·skip
   refine J.sb 4 [true] [] [] S9 0 rfl kvF35_1 rfl fun w10 S10 => ?_
   refine J.ez 2 [.agg #[iv 0, .bool false, iv 0, iv 0, iv 0, iv 0, iv 0, iv 0, iv 0, iv 0, iv 0], iv 10] Tryz.func162 (bk (S10.nth 0 rfl) bn) (hR _ _ ?_)
   obtain ⟨e1, e2, e3⟩ := op_zero (op := op) (ta := ta) (tb := tb) (t := t) (ra := ra) (rb := rb) (by omega)
   exact ⟨by rw [e1, e2, e3]; rfl, S10.nil⟩
  refine J.r 3 [false] [] [] ?_
  refine J.drawPlan (fun w_ => Sep w [box b3 (fxdC t) 75, box b2 [iv tb.gBits, .bool tb.gSigned, iv tb.gNum, iv tb.gOff, iv tb.gDen, iv tb.gUnit_M, iv tb.gUnit_Kg, iv tb.gUnit_S, iv tb.gUnit_A, iv tb.gUnit_K, iv rb] 82, box b1 [iv ta.gBits, .bool ta.gSigned, iv ta.gNum, iv ta.gOff, iv ta.gDen, iv ta.gUnit_M, iv ta.gUnit_Kg, iv ta.gUnit_S, iv ta.gUnit_A, iv ta.gUnit_K, iv ra] 82] w_) [(0, true), (1, true), (2, true), (4, true), (3, false), (5, false), (6, false), (7, true)] S9 Tryz.mixed (by kernel_rfl) (planOK_of (T := [(0, some 50, 1), (0, some 51, 32), (0, some 52, 64), (7, some 53, 7881299347898368), (0, some 54, 128), (24, some 55, 27021597764222976), (63, none, 36028797018964224), (127, some 9, 0)]) (by kernel_rfl) (by kernel_rfl)) ?_
  intro w11 S11
  refine PB.mk (S11.erase 0) ?_
  refine PL.take 0 50 (iv op) (fun _ _ => by kernel_rfl) ?_
  refine PL.takeOK 1 (fun w_ S_ => OK.ldBox S_ 2 51 82 0 (.agg #[iv ta.gBits, .bool ta.gSigned, iv ta.gNum, iv ta.gOff, iv ta.gDen, iv ta.gUnit_M, iv ta.gUnit_Kg, iv ta.gUnit_S, iv ta.gUnit_A, iv ta.gUnit_K, iv ra]) (by kernel_rfl) rfl (by kernel_rfl)) rfl ?_
  refine PL.takeOK 2 (fun w_ S_ => OK.ldBox S_ 1 52 82 0 (.agg #[iv tb.gBits, .bool tb.gSigned, iv tb.gNum, iv tb.gOff, iv tb.gDen, iv tb.gUnit_M, iv tb.gUnit_Kg, iv tb.gUnit_S, iv tb.gUnit_A, iv tb.gUnit_K, iv rb]) (by kernel_rfl) rfl (by kernel_rfl)) rfl ?_
  refine PL.takeOK 4 (fun w_ S_ => OK.ldBox S_ 0 54 75 0 (.agg (fxdA t)) (by kernel_rfl) rfl (by kernel_rfl)) rfl ?_
  refine PL.callF 53 195 #[iv op, .agg #[iv ta.gBits, .bool ta.gSigned, iv ta.gNum, iv ta.gOff, iv ta.gDen, iv ta.gUnit_M, iv ta.gUnit_Kg, iv ta.gUnit_S, iv ta.gUnit_A, iv ta.gUnit_K, iv ra], .agg #[iv tb.gBits, .bool tb.gSigned, iv tb.gNum, iv tb.gOff, iv tb.gDen, iv tb.gUnit_M, iv tb.gUnit_Kg, iv tb.gUnit_S, iv tb.gUnit_A, iv tb.gUnit_K, iv rb]] hb195 (by kernel_rfl) (combine_any op ta ra tb rb _ fa ha fb hb (by omega)) ?_
  rintro _ w12 ⟨rfl, T1⟩
  have S12 : Sep w [box b4 kvF35_1 82, box b3 (fxdC t) 75, box b2 [iv tb.gBits, .bool tb.gSigned, iv tb.gNum, iv tb.gOff, iv tb.gDen, iv tb.gUnit_M, iv tb.gUnit_Kg, iv tb.gUnit_S, iv tb.gUnit_A, iv tb.gUnit_K, iv rb] 82, box b1 [iv ta.gBits, .bool ta.gSigned, iv ta.gNum, iv ta.gOff, iv ta.gDen, iv ta.gUnit_M, iv ta.gUnit_Kg, iv ta.gUnit_S, iv ta.gUnit_A, iv ta.gUnit_K, iv ra] 82] w12 := S11.trans T1
  refine PB.mk (S12.erase 0) ?_
  refine PL.callF 55 193 #[.agg #[.int .u64 (hiW (cmN op (numF ta ra) (ta).gDen (numF tb rb) (tb).gDen)), .int .u64 (loW (cmN op (numF ta ra) (ta).gDen (numF tb rb) (tb).gDen)), .int .u64 (hiW (cmD op (ta).gDen (numF tb rb) (tb).gDen)), .int .u64 (loW (cmD op (ta).gDen (numF tb rb) (tb).gDen))], .agg (fxdA t)] hb193 (by kernel_rfl) (result_any (cmN op (numF ta ra) (ta).gDen (numF tb rb) (tb).gDen) (cmD op (ta).gDen (numF tb rb) (tb).gDen) t _ (fxdQ_sep ht S12) ft (cm_ok (num_ok fa ha) (num_ok fb hb) ho (fun _ => by omega))) ?_
  rintro _ w13 ⟨rfl, T2⟩
  have S13 : Sep w [box b4 kvF35_1 82, box b3 (fxdC t) 75, box b2 [iv tb.gBits, .bool tb.gSigned, iv tb.gNum, iv tb.gOff, iv tb.gDen, iv tb.gUnit_M, iv tb.gUnit_Kg, iv tb.gUnit_S, iv tb.gUnit_A, iv tb.gUnit_K, iv rb] 82, box b1 [iv ta.gBits, .bool ta.gSigned, iv ta.gNum, iv ta.gOff, iv ta.gDen, iv ta.gUnit_M, iv ta.gUnit_Kg, iv ta.gUnit_S, iv ta.gUnit_A, iv ta.gUnit_K, iv ra] 82] w13 := S12.trans T2
  have hrb := res_bd ((cmN op (numF ta ra) (ta).gDen (numF tb rb) (tb).gDen)) ((cmD op (ta).gDen (numF tb rb) (tb).gDen)) (t)
  refine PB.mk (S13.erase 0) ?_
  refine PL.stBox S13 0 82 0 (.agg #[iv t.gBits, .bool t.gSigned, iv t.gNum, iv t.gOff, iv t.gDen, iv t.gUnit_M, iv t.gUnit_Kg, iv t.gUnit_S, iv t.gUnit_A, iv t.gUnit_K, iv (resT (cmN op (numF ta ra) (ta).gDen (numF tb rb) (tb).gDen) (cmD op (ta).gDen (numF tb rb) (tb).gDen) t)]) [iv t.gBits, .bool t.gSigned, iv t.gNum, iv t.gOff, iv t.gDen, iv t.gUnit_M, iv t.gUnit_Kg, iv t.gUnit_S, iv t.gUnit_A, iv t.gUnit_K, iv (resT (cmN op (numF ta ra) (ta).gDen (numF tb rb) (tb).gDen) (cmD op (ta).gDen (numF tb rb) (tb).gDen) t)] [box b4 [iv t.gBits, .bool t.gSigned, iv t.gNum, iv t.gOff, iv t.gDen, iv t.gUnit_M, iv t.gUnit_Kg, iv t.gUnit_S, iv t.gUnit_A, iv t.gUnit_K, iv (resT (cmN op (numF ta ra) (ta).gDen (numF tb rb) (tb).gDen) (cmD op (ta).gDen (numF tb rb) (tb).gDen) t)] 82, box b3 (fxdC t) 75, box b2 [iv tb.gBits, .bool tb.gSigned, iv tb.gNum, iv tb.gOff, iv tb.gDen, iv tb.gUnit_M, iv tb.gUnit_Kg, iv tb.gUnit_S, iv tb.gUnit_A, iv tb.gUnit_K, iv rb] 82, box b1 [iv ta.gBits, .bool ta.gSigned, iv ta.gNum, iv ta.gOff, iv ta.gDen, iv ta.gUnit_M, iv ta.gUnit_Kg, iv ta.gUnit_S, iv ta.gUnit_A, iv ta.gUnit_K, iv ra] 82] (by kernel_rfl) rfl (by kernel_rfl) (by kernel_rfl) rfl ?_
  intro w14 S14
  refine PB.mk (S14.erase 0) ?_
  refine PL.take 7 9 (iv 0) (fun _ _ => by kernel_rfl) ?_
  refine PL.done ?_
  refine J.ez 0 [.agg #[iv t.gBits, .bool t.gSigned, iv t.gNum, iv t.gOff, iv t.gDen, iv t.gUnit_M, iv t.gUnit_Kg, iv t.gUnit_S, iv t.gUnit_A, iv t.gUnit_K, iv (resT (cmN op (numF ta ra) (ta).gDen (numF tb rb) (tb).gDen) (cmD op (ta).gDen (numF tb rb) (tb).gDen) t)], iv 0] Tryz.func162 (bk (S14.nth 0 rfl) bn) (hR _ _ ?_)
  obtain ⟨e1, e2, e3⟩ := op_fine (op := op) (ta := ta) (tb := tb) (t := t) (ra := ra) (rb := rb) (by omega)
  exact ⟨by rw [e1, e2, e3]; rfl, S14.nil⟩
 refine J.r 7 [false] [] [] ?_
 refine J.drawPlan (fun w_ => Sep w [box b3 (fxdC t) 75, box b2 [iv tb.gBits, .bool tb.gSigned, iv tb.gNum, iv tb.gOff, iv tb.gDen, iv tb.gUnit_M, iv tb.gUnit_Kg, iv tb.gUnit_S, iv tb.gUnit_A, iv tb.gUnit_K, iv rb] 82, box b1 [iv ta.gBits, .bool ta.gSigned, iv ta.gNum, iv ta.gOff, iv ta.gDen, iv ta.gUnit_M, iv ta.gUnit_Kg, iv ta.gUnit_S, iv ta.gUnit_A, iv ta.gUnit_K, iv ra] 82] w_) [(0, true), (1, true), (2, true), (4, true), (3, false), (5, false), (6, false), (7, true)] S9 Tryz.mixed (by kernel_rfl) (planOK_of (T := [(0, some 50, 1), (0, some 51, 32), (0, some 52, 64), (7, some 53, 7881299347898368), (0, some 54, 128), (24, some 55, 27021597764222976), (63, none, 36028797018964224), (127, some 9, 0)]) (by kernel_rfl) (by kernel_rfl)) ?_
 intro w15 S15
 refine PB.mk (S15.erase 0) ?_
 refine PL.take 0 50 (iv op) (fun _ _ => by kernel_rfl) ?_
 refine PL.takeOK 1 (fun w_ S_ => OK.ldBox S_ 2 51 82 0 (.agg #[iv ta.gBits, .bool ta.gSigned, iv ta.gNum, iv ta.gOff, iv ta.gDen, iv ta.gUnit_M, iv ta.gUnit_Kg, iv ta.gUnit_S, iv ta.gUnit_A, iv ta.gUnit_K, iv ra]) (by kernel_rfl) rfl (by kernel_rfl)) rfl ?_
 refine PL.takeOK 2 (fun w_ S_ => OK.ldBox S_ 1 52 82 0 (.agg #[iv tb.gBits, .bool tb.gSigned, iv tb.gNum, iv tb.gOff, iv tb.gDen, iv tb.gUnit_M, iv tb.gUnit_Kg, iv tb.gUnit_S, iv tb.gUnit_A, iv tb.gUnit_K, iv rb]) (by kernel_rfl) rfl (by kernel_rfl)) rfl ?_
 refine PL.takeOK 4 (fun w_ S_ => OK.ldBox S_ 0 54 75 0 (.agg (fxdA t)) (by kernel_rfl) rfl (by kernel_rfl)) rfl ?_
 refine PL.callF 53 195 #[iv op, .agg #[iv ta.gBits, .bool ta.gSigned, iv ta.gNum, iv ta.gOff, iv ta.gDen, iv ta.gUnit_M, iv ta.gUnit_Kg, iv ta.gUnit_S, iv ta.gUnit_A, iv ta.gUnit_K, iv ra], .agg #[iv tb.gBits, .bool tb.gSigned, iv tb.gNum, iv tb.gOff, iv tb.gDen, iv tb.gUnit_M, iv tb.gUnit_Kg, iv tb.gUnit_S, iv tb.gUnit_A, iv tb.gUnit_K, iv rb]] hb195 (by kernel_rfl) (combine_any op ta ra tb rb _ fa ha fb hb (by omega)) ?_
 rintro _ w16 ⟨rfl, T3⟩
 have S16 : Sep w [box b4 kvF35_1 82, box b3 (fxdC t) 75, box b2 [iv tb.gBits, .bool tb.gSigned, iv tb.gNum, iv tb.gOff, iv tb.gDen, iv tb.gUnit_M, iv tb.gUnit_Kg, iv tb.gUnit_S, iv tb.gUnit_A, iv tb.gUnit_K, iv rb] 82, box b1 [iv ta.gBits, .bool ta.gSigned, iv ta.gNum, iv ta.gOff, iv ta.gDen, iv ta.gUnit_M, iv ta.gUnit_Kg, iv ta.gUnit_S, iv ta.gUnit_A, iv ta.gUnit_K, iv ra] 82] w16 := S15.trans T3
 refine PB.mk (S16.erase 0) ?_
 refine PL.callF 55 193 #[.agg #[.int .u64 (hiW (cmN op (numF ta ra) (ta).gDen (numF tb rb) (tb).gDen)), .int .u64 (loW (cmN op (numF ta ra) (ta).gDen (numF tb rb) (tb).gDen)), .int .u64 (hiW (cmD op (ta).gDen (numF tb rb) (tb).gDen)), .int .u64 (loW (cmD op (ta).gDen (numF tb rb) (tb).gDen))], .agg (fxdA t)] hb193 (by kernel_rfl) (result_any (cmN op (numF ta ra) (ta).gDen (numF tb rb) (tb).gDen) (cmD op (ta).gDen (numF tb rb) (tb).gDen) t _ (fxdQ_sep ht S16) ft (cm_ok (num_ok fa ha) (num_ok fb hb) ho (fun _ => by omega))) ?_
 rintro _ w17 ⟨rfl, T4⟩
 have S17 : Sep w [box b4 kvF35_1 82, box b3 (fxdC t) 75, box b2 [iv tb.gBits, .bool tb.gSigned, iv tb.gNum, iv tb.gOff, iv tb.gDen, iv tb.gUnit_M, iv tb.gUnit_Kg, iv tb.gUnit_S, iv tb.gUnit_A, iv tb.gUnit_K, iv rb] 82, box b1 [iv ta.gBits, .bool ta.gSigned, iv ta.gNum, iv ta.gOff, iv ta.gDen, iv ta.gUnit_M, iv ta.gUnit_Kg, iv ta.gUnit_S, iv ta.gUnit_A, iv ta.gUnit_K, iv ra] 82] w17 := S16.trans T4
 have hrb := res_bd ((cmN op (numF ta ra) (ta).gDen (numF tb rb) (tb).gDen)) ((cmD op (ta).gDen (numF tb rb) (tb).gDen)) (t)
 refine PB.mk (S17.erase 0) ?_
 refine PL.stBox S17 0 82 0 (.agg #[iv t.gBits, .bool t.gSigned, iv t.gNum, iv t.gOff, iv t.gDen, iv t.gUnit_M, iv t.gUnit_Kg, iv t.gUnit_S, iv t.gUnit_A, iv t.gUnit_K, iv (resT (cmN op (numF ta ra) (ta).gDen (numF tb rb) (tb).gDen) (cmD op (ta).gDen (numF tb rb) (tb).gDen) t)]) [iv t.gBits, .bool t.gSigned, iv t.gNum, iv t.gOff, iv t.gDen, iv t.gUnit_M, iv t.gUnit_Kg, iv t.gUnit_S, iv t.gUnit_A, iv t.gUnit_K, iv (resT (cmN op (numF ta ra) (ta).gDen (numF tb rb) (tb).gDen) (cmD op (ta).gDen (numF tb rb) (tb).gDen) t)] [box b4 [iv t.gBits, .bool t.gSigned, iv t.gNum, iv t.gOff, iv t.gDen, iv t.gUnit_M, iv t.gUnit_Kg, iv t.gUnit_S, iv t.gUnit_A, iv t.gUnit_K, iv (resT (cmN op (numF ta ra) (ta).gDen (numF tb rb) (tb).gDen) (cmD op (ta).gDen (numF tb rb) (tb).gDen) t)] 82, box b3 (fxdC t) 75, box b2 [iv tb.gBits, .bool tb.gSigned, iv tb.gNum, iv tb.gOff, iv tb.gDen, iv tb.gUnit_M, iv tb.gUnit_Kg, iv tb.gUnit_S, iv tb.gUnit_A, iv tb.gUnit_K, iv rb] 82, box b1 [iv ta.gBits, .bool ta.gSigned, iv ta.gNum, iv ta.gOff, iv ta.gDen, iv ta.gUnit_M, iv ta.gUnit_Kg, iv ta.gUnit_S, iv ta.gUnit_A, iv ta.gUnit_K, iv ra] 82] (by kernel_rfl) rfl (by kernel_rfl) (by kernel_rfl) rfl ?_
 intro w18 S18
 refine PB.mk (S18.erase 0) ?_
 refine PL.take 7 9 (iv 0) (fun _ _ => by kernel_rfl) ?_
 refine PL.done ?_
 refine J.ez 0 [.agg #[iv t.gBits, .bool t.gSigned, iv t.gNum, iv t.gOff, iv t.gDen, iv t.gUnit_M, iv t.gUnit_Kg, iv t.gUnit_S, iv t.gUnit_A, iv t.gUnit_K, iv (resT (cmN op (numF ta ra) (ta).gDen (numF tb rb) (tb).gDen) (cmD op (ta).gDen (numF tb rb) (tb).gDen) t)], iv 0] Tryz.func162 (bk (S18.nth 0 rfl) bn) (hR _ _ ?_)
 obtain ⟨e1, e2, e3⟩ := op_fine (op := op) (ta := ta) (tb := tb) (t := t) (ra := ra) (rb := rb) (by omega)
 exact ⟨by rw [e1, e2, e3]; rfl, S18.nil⟩

theorem hb114 : HasBody Tryz.prog 114 := fun _ _ => by kernel_rfl

theorem fop1_any (ta : Fxd) (ra : Int) (tb : Fxd) (rb : Int) (t : Fxd) (w : World) (qa : fxdQ w ta) (fa : fixB ta = true) (ha : inT ta ra) (qb : fxdQ w tb) (fb : fixB tb = true) (hb : inT tb rb) (ht : fxdQ w t) (ft : fixB t = true) (hf : fitOK 1 (unitT ta) (unitT tb) (unitT t) = true) : Ret Tryz.prog 114 #[.agg #[iv ta.gBits, .bool ta.gSigned, iv ta.gNum, iv ta.gOff, iv ta.gDen, iv ta.gUnit_M, iv ta.gUnit_Kg, iv ta.gUnit_S, iv ta.gUnit_A, iv ta.gUnit_K, iv ra], .agg #[iv tb.gBits, .bool tb.gSigned, iv tb.gNum, iv tb.gOff, iv tb.gDen, iv tb.gUnit_M, iv tb.gUnit_Kg, iv tb.gUnit_S, iv tb.gUnit_A, iv tb.gUnit_K, iv rb], .agg (fxdA t)] w (fun v w' => v = .tuple #[.agg #[iv ((opTy 1 tb rb t).gBits), .bool ((opTy 1 tb rb t).gSigned), iv ((opTy 1 tb rb t).gNum), iv ((opTy 1 tb rb t).gOff), iv ((opTy 1 tb rb t).gDen), iv ((opTy 1 tb rb t).gUnit_M), iv ((opTy 1 tb rb t).gUnit_Kg), iv ((opTy 1 tb rb t).gUnit_S), iv ((opTy 1 tb rb t).gUnit_A), iv ((opTy 1 tb rb t).gUnit_K), iv (fopW 1 ta ra tb rb t)], iv (opE 1 tb rb)] ∧ Sep w [] w') := by
 refine Ret.st (N := 14) Tryz.func114 fun R hR S0 => ?_
 obtain ⟨q1, q2, q3, q4, q5, q6, q7, q8, q9, _⟩ := id qa
 obtain ⟨q10, q11, q12, q13, q14, q15, q16, q17, q18, _⟩ := id qb
 obtain ⟨q19, q20, q21, q22, q23, q24, q25, q26, q27, _⟩ := id ht
 refine J.nw 2 [] [] [] S0 3 [iv ta.gBits, .bool ta.gSigned, iv ta.gNum, iv ta.gOff, iv ta.gDen, iv ta.gUnit_M, iv ta.gUnit_Kg, iv ta.gUnit_S, iv ta.gUnit_A, iv ta.gUnit_K, iv ra] 82 fun b1 w1 S1 => ?_
 refine J.nw 0 [] [] [] S1 4 [iv tb.gBits, .bool tb.gSigned, iv tb.gNum, iv tb.gOff, iv tb.gDen, iv tb.gUnit_M, iv tb.gUnit_Kg, iv tb.gUnit_S, iv tb.gUnit_A, iv tb.gUnit_K, iv rb] 82 fun b2 w2 S2 => ?_
 refine J.nw 0 [] [] [] S2 5 (fxdC t) 75 fun b3 w3 S3 => ?_
 refine J.nw 0 [] [] [] S3 6 kvF35_1 82 fun b4 w4 S4 => ?_
 refine J.lb 4 [] [] [] S4 3 rfl 8 (.agg #[iv ta.gBits, .bool ta.gSigned, iv ta.gNum, iv ta.gOff, iv ta.gDen, iv ta.gUnit_M, iv ta.gUnit_Kg, iv ta.gUnit_S, iv ta.gUnit_A, iv ta.gUnit_K, iv ra]) ?_
 refine J.lb 0 [] [] [] S4 2 rfl 9 (.agg #[iv tb.gBits, .bool tb.gSigned, iv tb.gNum, iv tb.gOff, iv tb.gDen, iv tb.gUnit_M, iv tb.gUnit_Kg, iv tb.gUnit_S, iv tb.gUnit_A, iv tb.gUnit_K, iv rb]) ?_
 refine J.lb 0 [] [] [] S4 1 rfl 10 (.agg (fxdA t)) ?_
 refine J.c0 0 [] [] [] S4 11 hb162 (operate_any 1 ta ra tb rb t _ (fxdQ_sep qa S4) fa ha (fxdQ_sep qb S4) fb hb (fxdQ_sep ht S4) ft (by omega) hf) fun w5 S5 => ?_
 refine J.sb 2 [] [(13, iv (opE 1 tb rb))] [] S5 0 rfl [iv ((opTy 1 tb rb t).gBits), .bool ((opTy 1 tb rb t).gSigned), iv ((opTy 1 tb rb t).gNum), iv ((opTy 1 tb rb t).gOff), iv ((opTy 1 tb rb t).gDen), iv ((opTy 1 tb rb t).gUnit_M), iv ((opTy 1 tb rb t).gUnit_Kg), iv ((opTy 1 tb rb t).gUnit_S), iv ((opTy 1 tb rb t).gUnit_A), iv ((opTy 1 tb rb t).gUnit_K), iv (fopW 1 ta ra tb rb t)] rfl fun w6 S6 => ?_
 refine J.ez 2 [.agg #[iv ((opTy 1 tb rb t).gBits), .bool ((opTy 1 tb rb t).gSigned), iv ((opTy 1 tb rb t).gNum), iv ((opTy 1 tb rb t).gOff), iv ((opTy 1 tb rb t).gDen), iv ((opTy 1 tb rb t).gUnit_M), iv ((opTy 1 tb rb t).gUnit_Kg), iv ((opTy 1 tb rb t).gUnit_S), iv ((opTy 1 tb rb t).gUnit_A), iv ((opTy 1 tb rb t).gUnit_K), iv (fopW 1 ta ra tb rb t)], iv (opE 1 tb rb)] Tryz.func114 (bk (S6.nth 0 rfl) bn) (hR _ _ ?_)
 exact ⟨rfl, S6.nil⟩

theorem hb115 : HasBody Tryz.prog 115 := fun _ _ => by kernel_rfl

theorem fop2_any (ta : Fxd) (ra : Int) (tb : Fxd) (rb : Int) (t : Fxd) (w : World) (qa : fxdQ w ta) (fa : fixB ta = true) (ha : inT ta ra) (qb : fxdQ w tb) (fb : fixB tb = true) (hb : inT tb rb) (ht : fxdQ w t) (ft : fixB t = true) (hf : fitOK 2 (unitT ta) (unitT tb) (unitT t) = true) : Ret Tryz.prog 115 #[.agg #[iv ta.gBits, .bool ta.gSigned, iv ta.gNum, iv ta.gOff, iv ta.gDen, iv ta.gUnit_M, iv ta.gUnit_Kg, iv ta.gUnit_S, iv ta.gUnit_A, iv ta.gUnit_K, iv ra], .agg #[iv tb.gBits, .bool tb.gSigned, iv tb.gNum, iv tb.gOff, iv tb.gDen, iv tb.gUnit_M, iv tb.gUnit_Kg, iv tb.gUnit_S, iv tb.gUnit_A, iv tb.gUnit_K, iv rb], .agg (fxdA t)] w (fun v w' => v = .tuple #[.agg #[iv ((opTy 2 tb rb t).gBits), .bool ((opTy 2 tb rb t).gSigned), iv ((opTy 2 tb rb t).gNum), iv ((opTy 2 tb rb t).gOff), iv ((opTy 2 tb rb t).gDen), iv ((opTy 2 tb rb t).gUnit_M), iv ((opTy 2 tb rb t).gUnit_Kg), iv ((opTy 2 tb rb t).gUnit_S), iv ((opTy 2 tb rb t).gUnit_A), iv ((opTy 2 tb rb t).gUnit_K), iv (fopW 2 ta ra tb rb t)], iv (opE 2 tb rb)] ∧ Sep w [] w') := by
 refine Ret.st (N := 14) Tryz.func115 fun R hR S0 => ?_
 obtain ⟨q1, q2, q3, q4, q5, q6, q7, q8, q9, _⟩ := id qa
 obtain ⟨q10, q11, q12, q13, q14, q15, q16, q17, q18, _⟩ := id qb
 obtain ⟨q19, q20, q21, q22, q23, q24, q25, q26, q27, _⟩ := id ht
 refine J.nw 2 [] [] [] S0 3 [iv ta.gBits, .bool ta.gSigned, iv ta.gNum, iv ta.gOff, iv ta.gDen, iv ta.gUnit_M, iv ta.gUnit_Kg, iv ta.gUnit_S, iv ta.gUnit_A, iv ta.gUnit_K, iv ra] 82 fun b1 w1 S1 => ?_
 refine J.nw 0 [] [] [] S1 4 [iv tb.gBits, .bool tb.gSigned, iv tb.gNum, iv tb.gOff, iv tb.gDen, iv tb.gUnit_M, iv tb.gUnit_Kg, iv tb.gUnit_S, iv tb.gUnit_A, iv tb.gUnit_K, iv rb] 82 fun b2 w2 S2 => ?_
 refine J.nw 0 [] [] [] S2 5 (fxdC t) 75 fun b3 w3 S3 => ?_
 refine J.nw 0 [] [] [] S3 6 kvF35_1 82 fun b4 w4 S4 => ?_
 refine J.lb 4 [] [] [] S4 3 rfl 8 (.agg #[iv ta.gBits, .bool ta.gSigned, iv ta.gNum, iv ta.gOff, iv ta.gDen, iv ta.gUnit_M, iv ta.gUnit_Kg, iv ta.gUnit_S, iv ta.gUnit_A, iv ta.gUnit_K, iv ra]) ?_
 refine J.lb 0 [] [] [] S4 2 rfl 9 (.agg #[iv tb.gBits, .bool tb.gSigned, iv tb.gNum, iv tb.gOff, iv tb.gDen, iv tb.gUnit_M, iv tb.gUnit_Kg, iv tb.gUnit_S, iv tb.gUnit_A, iv tb.gUnit_K, iv rb]) ?_
 refine J.lb 0 [] [] [] S4 1 rfl 10 (.agg (fxdA t)) ?_
 refine J.c0 0 [] [] [] S4 11 hb162 (operate_any 2 ta ra tb rb t _ (fxdQ_sep qa S4) fa ha (fxdQ_sep qb S4) fb hb (fxdQ_sep ht S4) ft (by omega) hf) fun w5 S5 => ?_
 refine J.sb 2 [] [(13, iv (opE 2 tb rb))] [] S5 0 rfl [iv ((opTy 2 tb rb t).gBits), .bool ((opTy 2 tb rb t).gSigned), iv ((opTy 2 tb rb t).gNum), iv ((opTy 2 tb rb t).gOff), iv ((opTy 2 tb rb t).gDen), iv ((opTy 2 tb rb t).gUnit_M), iv ((opTy 2 tb rb t).gUnit_Kg), iv ((opTy 2 tb rb t).gUnit_S), iv ((opTy 2 tb rb t).gUnit_A), iv ((opTy 2 tb rb t).gUnit_K), iv (fopW 2 ta ra tb rb t)] rfl fun w6 S6 => ?_
 refine J.ez 2 [.agg #[iv ((opTy 2 tb rb t).gBits), .bool ((opTy 2 tb rb t).gSigned), iv ((opTy 2 tb rb t).gNum), iv ((opTy 2 tb rb t).gOff), iv ((opTy 2 tb rb t).gDen), iv ((opTy 2 tb rb t).gUnit_M), iv ((opTy 2 tb rb t).gUnit_Kg), iv ((opTy 2 tb rb t).gUnit_S), iv ((opTy 2 tb rb t).gUnit_A), iv ((opTy 2 tb rb t).gUnit_K), iv (fopW 2 ta ra tb rb t)], iv (opE 2 tb rb)] Tryz.func115 (bk (S6.nth 0 rfl) bn) (hR _ _ ?_)
 exact ⟨rfl, S6.nil⟩

theorem hb116 : HasBody Tryz.prog 116 := fun _ _ => by kernel_rfl

theorem fop3_any (ta : Fxd) (ra : Int) (tb : Fxd) (rb : Int) (t : Fxd) (w : World) (qa : fxdQ w ta) (fa : fixB ta = true) (ha : inT ta ra) (qb : fxdQ w tb) (fb : fixB tb = true) (hb : inT tb rb) (ht : fxdQ w t) (ft : fixB t = true) (hf : fitOK 3 (unitT ta) (unitT tb) (unitT t) = true) : Ret Tryz.prog 116 #[.agg #[iv ta.gBits, .bool ta.gSigned, iv ta.gNum, iv ta.gOff, iv ta.gDen, iv ta.gUnit_M, iv ta.gUnit_Kg, iv ta.gUnit_S, iv ta.gUnit_A, iv ta.gUnit_K, iv ra], .agg #[iv tb.gBits, .bool tb.gSigned, iv tb.gNum, iv tb.gOff, iv tb.gDen, iv tb.gUnit_M, iv tb.gUnit_Kg, iv tb.gUnit_S, iv tb.gUnit_A, iv tb.gUnit_K, iv rb], .agg (fxdA t)] w (fun v w' => v = .tuple #[.agg #[iv ((opTy 3 tb rb t).gBits), .bool ((opTy 3 tb rb t).gSigned), iv ((opTy 3 tb rb t).gNum), iv ((opTy 3 tb rb t).gOff), iv ((opTy 3 tb rb t).gDen), iv ((opTy 3 tb rb t).gUnit_M), iv ((opTy 3 tb rb t).gUnit_Kg), iv ((opTy 3 tb rb t).gUnit_S), iv ((opTy 3 tb rb t).gUnit_A), iv ((opTy 3 tb rb t).gUnit_K), iv (fopW 3 ta ra tb rb t)], iv (opE 3 tb rb)] ∧ Sep w [] w') := by
 refine Ret.st (N := 14) Tryz.func116 fun R hR S0 => ?_
 obtain ⟨q1, q2, q3, q4, q5, q6, q7, q8, q9, _⟩ := id qa
 obtain ⟨q10, q11, q12, q13, q14, q15, q16, q17, q18, _⟩ := id qb
 obtain ⟨q19, q20, q21, q22, q23, q24, q25, q26, q27, _⟩ := id ht
 refine J.nw 2 [] [] [] S0 3 [iv ta.gBits, .bool ta.gSigned, iv ta.gNum, iv ta.gOff, iv ta.gDen, iv ta.gUnit_M, iv ta.gUnit_Kg, iv ta.gUnit_S, iv ta.gUnit_A, iv ta.gUnit_K, iv ra] 82 fun b1 w1 S1 => ?_
 refine J.nw 0 [] [] [] S1 4 [iv tb.gBits, .bool tb.gSigned, iv tb.gNum, iv tb.gOff, iv tb.gDen, iv tb.gUnit_M, iv tb.gUnit_Kg, iv tb.gUnit_S, iv tb.gUnit_A, iv tb.gUnit_K, iv rb] 82 fun b2 w2 S2 => ?_
 refine J.nw 0 [] [] [] S2 5 (fxdC t) 75 fun b3 w3 S3 => ?_
 refine J.nw 0 [] [] [] S3 6 kvF35_1 82 fun b4 w4 S4 => ?_
 refine J.lb 4 [] [] [] S4 3 rfl 8 (.agg #[iv ta.gBits, .bool ta.gSigned, iv ta.gNum, iv ta.gOff, iv ta.gDen, iv ta.gUnit_M, iv ta.gUnit_Kg, iv ta.gUnit_S, iv ta.gUnit_A, iv ta.gUnit_K, iv ra]) ?_
 refine J.lb 0 [] [] [] S4 2 rfl 9 (.agg #[iv tb.gBits, .bool tb.gSigned, iv tb.gNum, iv tb.gOff, iv tb.gDen, iv tb.gUnit_M, iv tb.gUnit_Kg, iv tb.gUnit_S, iv tb.gUnit_A, iv tb.gUnit_K, iv rb]) ?_
 refine J.lb 0 [] [] [] S4 1 rfl 10 (.agg (fxdA t)) ?_
 refine J.c0 0 [] [] [] S4 11 hb162 (operate_any 3 ta ra tb rb t _ (fxdQ_sep qa S4) fa ha (fxdQ_sep qb S4) fb hb (fxdQ_sep ht S4) ft (by omega) hf) fun w5 S5 => ?_
 refine J.sb 2 [] [(13, iv (opE 3 tb rb))] [] S5 0 rfl [iv ((opTy 3 tb rb t).gBits), .bool ((opTy 3 tb rb t).gSigned), iv ((opTy 3 tb rb t).gNum), iv ((opTy 3 tb rb t).gOff), iv ((opTy 3 tb rb t).gDen), iv ((opTy 3 tb rb t).gUnit_M), iv ((opTy 3 tb rb t).gUnit_Kg), iv ((opTy 3 tb rb t).gUnit_S), iv ((opTy 3 tb rb t).gUnit_A), iv ((opTy 3 tb rb t).gUnit_K), iv (fopW 3 ta ra tb rb t)] rfl fun w6 S6 => ?_
 refine J.ez 2 [.agg #[iv ((opTy 3 tb rb t).gBits), .bool ((opTy 3 tb rb t).gSigned), iv ((opTy 3 tb rb t).gNum), iv ((opTy 3 tb rb t).gOff), iv ((opTy 3 tb rb t).gDen), iv ((opTy 3 tb rb t).gUnit_M), iv ((opTy 3 tb rb t).gUnit_Kg), iv ((opTy 3 tb rb t).gUnit_S), iv ((opTy 3 tb rb t).gUnit_A), iv ((opTy 3 tb rb t).gUnit_K), iv (fopW 3 ta ra tb rb t)], iv (opE 3 tb rb)] Tryz.func116 (bk (S6.nth 0 rfl) bn) (hR _ _ ?_)
 exact ⟨rfl, S6.nil⟩

theorem hb117 : HasBody Tryz.prog 117 := fun _ _ => by kernel_rfl

theorem fop4_any (ta : Fxd) (ra : Int) (tb : Fxd) (rb : Int) (t : Fxd) (w : World) (qa : fxdQ w ta) (fa : fixB ta = true) (ha : inT ta ra) (qb : fxdQ w tb) (fb : fixB tb = true) (hb : inT tb rb) (ht : fxdQ w t) (ft : fixB t = true) (hf : fitOK 4 (unitT ta) (unitT tb) (unitT t) = true) : Ret Tryz.prog 117 #[.agg #[iv ta.gBits, .bool ta.gSigned, iv ta.gNum, iv ta.gOff, iv ta.gDen, iv ta.gUnit_M, iv ta.gUnit_Kg, iv ta.gUnit_S, iv ta.gUnit_A, iv ta.gUnit_K, iv ra], .agg #[iv tb.gBits, .bool tb.gSigned, iv tb.gNum, iv tb.gOff, iv tb.gDen, iv tb.gUnit_M, iv tb.gUnit_Kg, iv tb.gUnit_S, iv tb.gUnit_A, iv tb.gUnit_K, iv rb], .agg (fxdA t)] w (fun v w' => v = .tuple #[.agg #[iv ((opTy 4 tb rb t).gBits), .bool ((opTy 4 tb rb t).gSigned), iv ((opTy 4 tb rb t).gNum), iv ((opTy 4 tb rb t).gOff), iv ((opTy 4 tb rb t).gDen), iv ((opTy 4 tb rb t).gUnit_M), iv ((opTy 4 tb rb t).gUnit_Kg), iv ((opTy 4 tb rb t).gUnit_S), iv ((opTy 4 tb rb t).gUnit_A), iv ((opTy 4 tb rb t).gUnit_K), iv (fopW 4 ta ra tb rb t)], iv (opE 4 tb rb)] ∧ Sep w [] w') := by
 refine Ret.st (N := 14) Tryz.func117 fun R hR S0 => ?_
 obtain ⟨q1, q2, q3, q4, q5, q6, q7, q8, q9, _⟩ := id qa
 obtain ⟨q10, q11, q12, q13, q14, q15, q16, q17, q18, _⟩ := id qb
 obtain ⟨q19, q20, q21, q22, q23, q24, q25, q26, q27, _⟩ := id ht
 refine J.nw 2 [] [] [] S0 3 [iv ta.gBits, .bool ta.gSigned, iv ta.gNum, iv ta.gOff, iv ta.gDen, iv ta.gUnit_M, iv ta.gUnit_Kg, iv ta.gUnit_S, iv ta.gUnit_A, iv ta.gUnit_K, iv ra] 82 fun b1 w1 S1 => ?_
 refine J.nw 0 [] [] [] S1 4 [iv tb.gBits, .bool tb.gSigned, iv tb.gNum, iv tb.gOff, iv tb.gDen, iv tb.gUnit_M, iv tb.gUnit_Kg, iv tb.gUnit_S, iv tb.gUnit_A, iv tb.gUnit_K, iv rb] 82 fun b2 w2 S2 => ?_
 refine J.nw 0 [] [] [] S2 5 (fxdC t) 75 fun b3 w3 S3 => ?_
 refine J.nw 0 [] [] [] S3 6 kvF35_1 82 fun b4 w4 S4 => ?_
 refine J.lb 4 [] [] [] S4 3 rfl 8 (.agg #[iv ta.gBits, .bool ta.gSigned, iv ta.gNum, iv ta.gOff, iv ta.gDen, iv ta.gUnit_M, iv ta.gUnit_Kg, iv ta.gUnit_S, iv ta.gUnit_A, iv ta.gUnit_K, iv ra]) ?_
 refine J.lb 0 [] [] [] S4 2 rfl 9 (.agg #[iv tb.gBits, .bool tb.gSigned, iv tb.gNum, iv tb.gOff, iv tb.gDen, iv tb.gUnit_M, iv tb.gUnit_Kg, iv tb.gUnit_S, iv tb.gUnit_A, iv tb.gUnit_K, iv rb]) ?_
 refine J.lb 0 [] [] [] S4 1 rfl 10 (.agg (fxdA t)) ?_
 refine J.c0 0 [] [] [] S4 11 hb162 (operate_any 4 ta ra tb rb t _ (fxdQ_sep qa S4) fa ha (fxdQ_sep qb S4) fb hb (fxdQ_sep ht S4) ft (by omega) hf) fun w5 S5 => ?_
 refine J.sb 2 [] [(13, iv (opE 4 tb rb))] [] S5 0 rfl [iv ((opTy 4 tb rb t).gBits), .bool ((opTy 4 tb rb t).gSigned), iv ((opTy 4 tb rb t).gNum), iv ((opTy 4 tb rb t).gOff), iv ((opTy 4 tb rb t).gDen), iv ((opTy 4 tb rb t).gUnit_M), iv ((opTy 4 tb rb t).gUnit_Kg), iv ((opTy 4 tb rb t).gUnit_S), iv ((opTy 4 tb rb t).gUnit_A), iv ((opTy 4 tb rb t).gUnit_K), iv (fopW 4 ta ra tb rb t)] rfl fun w6 S6 => ?_
 refine J.ez 2 [.agg #[iv ((opTy 4 tb rb t).gBits), .bool ((opTy 4 tb rb t).gSigned), iv ((opTy 4 tb rb t).gNum), iv ((opTy 4 tb rb t).gOff), iv ((opTy 4 tb rb t).gDen), iv ((opTy 4 tb rb t).gUnit_M), iv ((opTy 4 tb rb t).gUnit_Kg), iv ((opTy 4 tb rb t).gUnit_S), iv ((opTy 4 tb rb t).gUnit_A), iv ((opTy 4 tb rb t).gUnit_K), iv (fopW 4 ta ra tb rb t)], iv (opE 4 tb rb)] Tryz.func117 (bk (S6.nth 0 rfl) bn) (hR _ _ ?_)
 exact ⟨rfl, S6.nil⟩

theorem hb161 : HasBody Tryz.prog 161 := fun _ _ => by kernel_rfl

theorem change_any (ta : Fxd) (ra : Int) (t : Fxd) (sg : Int) (w : World) (qa : fxdQ w ta) (fa : fixB ta = true) (ha : inT ta ra) (ht : fxdQ w t) (ft : fixB t = true) (hs : sg = 1 ∨ sg = -1) (hu : unEq (unitT ta) (unitT t) = true) : Ret Tryz.prog 161 #[.agg #[iv ta.gBits, .bool ta.gSigned, iv ta.gNum, iv ta.gOff, iv ta.gDen, iv ta.gUnit_M, iv ta.gUnit_Kg, iv ta.gUnit_S, iv ta.gUnit_A, iv ta.gUnit_K, iv ra], .agg (fxdA t), iv sg] w (fun v w' => v = .tuple #[.agg #[iv t.gBits, .bool t.gSigned, iv t.gNum, iv t.gOff, iv t.gDen, iv t.gUnit_M, iv t.gUnit_Kg, iv t.gUnit_S, iv t.gUnit_A, iv t.gUnit_K, iv (resT (numF ta ra * sg) ta.gDen t)], iv 0] ∧ Sep w [] w') := by
 refine Ret.st (N := 40) Tryz.func161 fun R hR S0 => ?_
 obtain ⟨q1, q2, q3, q4, q5, q6, q7, q8, q9, _⟩ := id qa
 obtain ⟨q10, q11, q12, q13, q14, q15, q16, q17, q18, _⟩ := id ht
 have hoa := num_ok fa ha
 have hob : -4503600701112320 ≤ numF ta ra * sg ∧ numF ta ra * sg ≤ 4503600701112320 := by rcases hs with e | e <;> rw [e] <;> omega
 refine J.nw 2 [] [] [] S0 3 [iv ta.gBits, .bool ta.gSigned, iv ta.gNum, iv ta.gOff, iv ta.gDen, iv ta.gUnit_M, iv ta.gUnit_Kg, iv ta.gUnit_S, iv ta.gUnit_A, iv ta.gUnit_K, iv ra] 82 fun b1 w1 S1 => ?_
 refine J.nw 0 [] [] [] S1 4 (fxdC t) 75 fun b2 w2 S2 => ?_
 refine J.nw 0 [] [] [] S2 6 kvF35_1 82 fun b3 w3 S3 => ?_
 refine J.lb 5 [] [] [] S3 2 rfl 10 (.agg #[iv ta.gBits, .bool ta.gSigned, iv ta.gNum, iv ta.gOff, iv ta.gDen, iv ta.gUnit_M, iv ta.gUnit_Kg, iv ta.gUnit_S, iv ta.gUnit_A, iv ta.gUnit_K, iv ra]) ?_
 refine J.c0 0 [] [] [] S3 11 hb163 (valid4_any ta ra _ (fxdQ_sep qa S3) fa ha) fun w4 S4 => ?_
 refine J.lb 2 [] [(13, .bool false)] [] S4 1 rfl 14 (.agg (fxdA t)) ?_
 refine J.c0 0 [] [] [] S4 15 hb95 (fxvalid_any t _ (fxdQ_sep ht S4)) fun w5 S5 => ?_
 have fk2 : (fixB t) = true := ft
 refine J.h 3 [] [] [] 17 (.bool (!(fixB t))) (.bool false) (congrArg Value.bool (by rw [fk2]; rfl)) ?_
 refine J.lb 7 [false] [] [] S5 2 rfl 21 (.agg #[iv ta.gUnit_M, iv ta.gUnit_Kg, iv ta.gUnit_S, iv ta.gUnit_A, iv ta.gUnit_K]) ?_
 refine J.lb 1 [] [] [] S5 1 rfl 23 (.agg #[iv t.gUnit_M, iv t.gUnit_Kg, iv t.gUnit_S, iv t.gUnit_A, iv t.gUnit_K]) ?_
 refine J.ok (OK.eqS 24 false 73 #[iv ta.gUnit_M, iv ta.gUnit_Kg, iv ta.gUnit_S, iv ta.gUnit_A, iv ta.gUnit_K] #[iv t.gUnit_M, iv t.gUnit_Kg, iv t.gUnit_S, iv t.gUnit_A, iv t.gUnit_K] ((ta.gUnit_M == t.gUnit_M) && ((ta.gUnit_Kg == t.gUnit_Kg) && ((ta.gUnit_S == t.gUnit_S) && ((ta.gUnit_A == t.gUnit_A) && ((ta.gUnit_K == t.gUnit_K) && true))))) (by kernel_rfl) (by kernel_rfl) (by kernel_rfl) (!((ta.gUnit_M == t.gUnit_M) && ((ta.gUnit_Kg == t.gUnit_Kg) && ((ta.gUnit_S == t.gUnit_S) && ((ta.gUnit_A == t.gUnit_A) && (ta.gUnit_K == t.gUnit_K)))))) (by simp)) ?_
 have fk4 : ((ta.gUnit_M == t.gUnit_M) && ((ta.gUnit_Kg == t.gUnit_Kg) && ((ta.gUnit_S == t.gUnit_S) && ((ta.gUnit_A == t.gUnit_A) && (ta.gUnit_K == t.gUnit_K))))) = true := hu
 refine J.h 1 [] [] [] 24 (.bool (!((ta.gUnit_M == t.gUnit_M) && ((ta.gUnit_Kg == t.gUnit_Kg) && ((ta.gUnit_S == t.gUnit_S) && ((ta.gUnit_A == t.gUnit_A) && (ta.gUnit_K == t.gUnit_K))))))) (.bool false) (congrArg Value.bool (by rw [fk4]; rfl)) ?_
 refine J.lb 4 [false] [] [] S5 2 rfl 27 (.agg #[iv ta.gBits, .bool ta.gSigned, iv ta.gNum, iv ta.gOff, iv ta.gDen, iv ta.gUnit_M, iv ta.gUnit_Kg, iv ta.gUnit_S, iv ta.gUnit_A, iv ta.gUnit_K, iv ra]) ?_
 refine J.c0 0 [] [] [] S5 28 hb164 (number_any ta ra _ fa ha) fun w6 S6 => ?_
 refine J.r 7 [] [(9, iv ((ta).gDen)), (8, iv (numF ta ra))] [] ?_
 refine J.drawPlan (fun w_ => Sep w [box b2 (fxdC t) 75, box b1 [iv ta.gBits, .bool ta.gSigned, iv ta.gNum, iv ta.gOff, iv ta.gDen, iv ta.gUnit_M, iv ta.gUnit_Kg, iv ta.gUnit_S, iv ta.gUnit_A, iv ta.gUnit_K, iv ra] 82] w_) [(0, true), (2, true), (4, true), (7, true), (1, false), (3, false), (5, false), (6, true), (8, false), (9, false), (10, true)] S6 Tryz.mixed (by kernel_rfl) (planOK_of (T := [(0, some 31, 256), (1, some 32, 2147483648), (0, some 33, 4), (6, some 34, 12884901888), (0, some 35, 512), (24, some 36, 34359738368), (40, some 37, 85899345920), (0, some 38, 16), (224, some 39, 412316860416), (511, none, 549755813952), (1023, some 7, 0)]) (by kernel_rfl) (by kernel_rfl)) ?_
 intro w7 S7
 refine PB.mk (S7.erase 0) ?_
 refine PL.take 0 31 (iv (numF ta ra)) (fun _ _ => by kernel_rfl) ?_
 refine PL.take 2 33 (iv sg) (fun _ _ => by kernel_rfl) ?_
 refine PL.take 4 35 (iv ((ta).gDen)) (fun _ _ => by kernel_rfl) ?_
 refine PL.takeOK 7 (fun w_ S_ => OK.ldBox S_ 0 38 75 0 (.agg (fxdA t)) (by kernel_rfl) rfl (by kernel_rfl)) rfl ?_
 refine PL.callF 32 165 #[iv (numF ta ra)] hb165 (by kernel_rfl) (of4_any (numF ta ra) _ (by omega)) ?_
 rintro _ w8 ⟨rfl, T1⟩
 have S8 : Sep w [box b3 kvF35_1 82, box b2 (fxdC t) 75, box b1 [iv ta.gBits, .bool ta.gSigned, iv ta.gNum, iv ta.gOff, iv ta.gDen, iv ta.gUnit_M, iv ta.gUnit_Kg, iv ta.gUnit_S, iv ta.gUnit_A, iv ta.gUnit_K, iv ra] 82] w8 := S7.trans T1
 refine PB.mk (S8.erase 0) ?_
 refine PL.callF 34 166 #[.agg #[.int .u64 (hiW (numF ta ra)), .int .u64 (loW (numF ta ra))], iv sg] hb166 (by kernel_rfl) (wtimes_any (numF ta ra) sg _ (by constructor <;> omega) (by omega)) ?_
 rintro _ w9 ⟨rfl, T2⟩
 have S9 : Sep w [box b3 kvF35_1 82, box b2 (fxdC t) 75, box b1 [iv ta.gBits, .bool ta.gSigned, iv ta.gNum, iv ta.gOff, iv ta.gDen, iv ta.gUnit_M, iv ta.gUnit_Kg, iv ta.gUnit_S, iv ta.gUnit_A, iv ta.gUnit_K, iv ra] 82] w9 := S8.trans T2
 refine PB.mk (S9.erase 0) ?_
 refine PL.callF 36 165 #[iv ((ta).gDen)] hb165 (by kernel_rfl) (of4_any ((ta).gDen) _ (by omega)) ?_
 rintro _ w10 ⟨rfl, T3⟩
 have S10 : Sep w [box b3 kvF35_1 82, box b2 (fxdC t) 75, box b1 [iv ta.gBits, .bool ta.gSigned, iv ta.gNum, iv ta.gOff, iv ta.gDen, iv ta.gUnit_M, iv ta.gUnit_Kg, iv ta.gUnit_S, iv ta.gUnit_A, iv ta.gUnit_K, iv ra] 82] w10 := S9.trans T3
 refine PB.mk (S10.erase 0) ?_
 refine PL.take 6 37 (.agg #[.int .u64 (hiW ((numF ta ra) * sg)), .int .u64 (loW ((numF ta ra) * sg)), .int .u64 (hiW ((ta).gDen)), .int .u64 (loW ((ta).gDen))]) (fun _ _ => by kernel_rfl) ?_
 refine PL.callF 39 193 #[.agg #[.int .u64 (hiW ((numF ta ra) * sg)), .int .u64 (loW ((numF ta ra) * sg)), .int .u64 (hiW ((ta).gDen)), .int .u64 (loW ((ta).gDen))], .agg (fxdA t)] hb193 (by kernel_rfl) (result_any ((numF ta ra) * sg) ((ta).gDen) t _ (fxdQ_sep ht S10) ft ⟨by omega, by omega⟩) ?_
 rintro _ w11 ⟨rfl, T4⟩
 have S11 : Sep w [box b3 kvF35_1 82, box b2 (fxdC t) 75, box b1 [iv ta.gBits, .bool ta.gSigned, iv ta.gNum, iv ta.gOff, iv ta.gDen, iv ta.gUnit_M, iv ta.gUnit_Kg, iv ta.gUnit_S, iv ta.gUnit_A, iv ta.gUnit_K, iv ra] 82] w11 := S10.trans T4
 have hrb := res_bd (((numF ta ra) * sg)) (((ta).gDen)) (t)
 refine PB.mk (S11.erase 0) ?_
 refine PL.stBox S11 0 82 0 (.agg #[iv t.gBits, .bool t.gSigned, iv t.gNum, iv t.gOff, iv t.gDen, iv t.gUnit_M, iv t.gUnit_Kg, iv t.gUnit_S, iv t.gUnit_A, iv t.gUnit_K, iv (resT ((numF ta ra) * sg) ((ta).gDen) t)]) [iv t.gBits, .bool t.gSigned, iv t.gNum, iv t.gOff, iv t.gDen, iv t.gUnit_M, iv t.gUnit_Kg, iv t.gUnit_S, iv t.gUnit_A, iv t.gUnit_K, iv (resT ((numF ta ra) * sg) ((ta).gDen) t)] [box b3 [iv t.gBits, .bool t.gSigned, iv t.gNum, iv t.gOff, iv t.gDen, iv t.gUnit_M, iv t.gUnit_Kg, iv t.gUnit_S, iv t.gUnit_A, iv t.gUnit_K, iv (resT ((numF ta ra) * sg) ((ta).gDen) t)] 82, box b2 (fxdC t) 75, box b1 [iv ta.gBits, .bool ta.gSigned, iv ta.gNum, iv ta.gOff, iv ta.gDen, iv ta.gUnit_M, iv ta.gUnit_Kg, iv ta.gUnit_S, iv ta.gUnit_A, iv ta.gUnit_K, iv ra] 82] (by kernel_rfl) rfl (by kernel_rfl) (by kernel_rfl) rfl ?_
 intro w12 S12
 refine PB.mk (S12.erase 0) ?_
 refine PL.take 10 7 (iv 0) (fun _ _ => by kernel_rfl) ?_
 refine PL.done ?_
 refine J.ez 0 [.agg #[iv t.gBits, .bool t.gSigned, iv t.gNum, iv t.gOff, iv t.gDen, iv t.gUnit_M, iv t.gUnit_Kg, iv t.gUnit_S, iv t.gUnit_A, iv t.gUnit_K, iv (resT ((numF ta ra) * sg) ((ta).gDen) t)], iv 0] Tryz.func161 (bk (S12.nth 0 rfl) bn) (hR _ _ ?_)
 exact ⟨rfl, S12.nil⟩

theorem hb112 : HasBody Tryz.prog 112 := fun _ _ => by kernel_rfl

theorem fneg_any (ta : Fxd) (ra : Int) (t : Fxd) (w : World) (qa : fxdQ w ta) (fa : fixB ta = true) (ha : inT ta ra) (ht : fxdQ w t) (ft : fixB t = true) (hu : unEq (unitT ta) (unitT t) = true) : Ret Tryz.prog 112 #[.agg #[iv ta.gBits, .bool ta.gSigned, iv ta.gNum, iv ta.gOff, iv ta.gDen, iv ta.gUnit_M, iv ta.gUnit_Kg, iv ta.gUnit_S, iv ta.gUnit_A, iv ta.gUnit_K, iv ra], .agg (fxdA t)] w (fun v w' => v = .tuple #[.agg #[iv t.gBits, .bool t.gSigned, iv t.gNum, iv t.gOff, iv t.gDen, iv t.gUnit_M, iv t.gUnit_Kg, iv t.gUnit_S, iv t.gUnit_A, iv t.gUnit_K, iv (resT (numF ta ra * (-1)) ta.gDen t)], iv 0] ∧ Sep w [] w') := by
 refine Ret.st (N := 11) Tryz.func112 fun R hR S0 => ?_
 obtain ⟨q1, q2, q3, q4, q5, q6, q7, q8, q9, _⟩ := id qa
 obtain ⟨q10, q11, q12, q13, q14, q15, q16, q17, q18, _⟩ := id ht
 refine J.nw 2 [] [] [] S0 2 [iv ta.gBits, .bool ta.gSigned, iv ta.gNum, iv ta.gOff, iv ta.gDen, iv ta.gUnit_M, iv ta.gUnit_Kg, iv ta.gUnit_S, iv ta.gUnit_A, iv ta.gUnit_K, iv ra] 82 fun b1 w1 S1 => ?_
 refine J.nw 0 [] [] [] S1 3 (fxdC t) 75 fun b2 w2 S2 => ?_
 refine J.nw 0 [] [] [] S2 4 kvF35_1 82 fun b3 w3 S3 => ?_
 refine J.lb 4 [] [] [] S3 2 rfl 6 (.agg #[iv ta.gBits, .bool ta.gSigned, iv ta.gNum, iv ta.gOff, iv ta.gDen, iv ta.gUnit_M, iv ta.gUnit_Kg, iv ta.gUnit_S, iv ta.gUnit_A, iv ta.gUnit_K, iv ra]) ?_
 refine J.lb 0 [] [] [] S3 1 rfl 7 (.agg (fxdA t)) ?_
 refine J.c0 0 [] [] [] S3 8 hb161 (change_any ta ra t (-1) _ (fxdQ_sep qa S3) fa ha (fxdQ_sep ht S3) ft (by omega) hu) fun w4 S4 => ?_
 refine J.sb 2 [] [(10, iv 0)] [] S4 0 rfl [iv t.gBits, .bool t.gSigned, iv t.gNum, iv t.gOff, iv t.gDen, iv t.gUnit_M, iv t.gUnit_Kg, iv t.gUnit_S, iv t.gUnit_A, iv t.gUnit_K, iv (resT (numF ta ra * -1) ta.gDen t)] rfl fun w5 S5 => ?_
 refine J.ez 2 [.agg #[iv t.gBits, .bool t.gSigned, iv t.gNum, iv t.gOff, iv t.gDen, iv t.gUnit_M, iv t.gUnit_Kg, iv t.gUnit_S, iv t.gUnit_A, iv t.gUnit_K, iv (resT (numF ta ra * -1) ta.gDen t)], iv 0] Tryz.func112 (bk (S5.nth 0 rfl) bn) (hR _ _ ?_)
 exact ⟨rfl, S5.nil⟩

theorem hb113 : HasBody Tryz.prog 113 := fun _ _ => by kernel_rfl

theorem fconv_any (ta : Fxd) (ra : Int) (t : Fxd) (w : World) (qa : fxdQ w ta) (fa : fixB ta = true) (ha : inT ta ra) (ht : fxdQ w t) (ft : fixB t = true) (hu : unEq (unitT ta) (unitT t) = true) : Ret Tryz.prog 113 #[.agg #[iv ta.gBits, .bool ta.gSigned, iv ta.gNum, iv ta.gOff, iv ta.gDen, iv ta.gUnit_M, iv ta.gUnit_Kg, iv ta.gUnit_S, iv ta.gUnit_A, iv ta.gUnit_K, iv ra], .agg (fxdA t)] w (fun v w' => v = .tuple #[.agg #[iv t.gBits, .bool t.gSigned, iv t.gNum, iv t.gOff, iv t.gDen, iv t.gUnit_M, iv t.gUnit_Kg, iv t.gUnit_S, iv t.gUnit_A, iv t.gUnit_K, iv (resT (numF ta ra * 1) ta.gDen t)], iv 0] ∧ Sep w [] w') := by
 refine Ret.st (N := 11) Tryz.func113 fun R hR S0 => ?_
 obtain ⟨q1, q2, q3, q4, q5, q6, q7, q8, q9, _⟩ := id qa
 obtain ⟨q10, q11, q12, q13, q14, q15, q16, q17, q18, _⟩ := id ht
 refine J.nw 2 [] [] [] S0 2 [iv ta.gBits, .bool ta.gSigned, iv ta.gNum, iv ta.gOff, iv ta.gDen, iv ta.gUnit_M, iv ta.gUnit_Kg, iv ta.gUnit_S, iv ta.gUnit_A, iv ta.gUnit_K, iv ra] 82 fun b1 w1 S1 => ?_
 refine J.nw 0 [] [] [] S1 3 (fxdC t) 75 fun b2 w2 S2 => ?_
 refine J.nw 0 [] [] [] S2 4 kvF35_1 82 fun b3 w3 S3 => ?_
 refine J.lb 4 [] [] [] S3 2 rfl 6 (.agg #[iv ta.gBits, .bool ta.gSigned, iv ta.gNum, iv ta.gOff, iv ta.gDen, iv ta.gUnit_M, iv ta.gUnit_Kg, iv ta.gUnit_S, iv ta.gUnit_A, iv ta.gUnit_K, iv ra]) ?_
 refine J.lb 0 [] [] [] S3 1 rfl 7 (.agg (fxdA t)) ?_
 refine J.c0 0 [] [] [] S3 8 hb161 (change_any ta ra t 1 _ (fxdQ_sep qa S3) fa ha (fxdQ_sep ht S3) ft (by omega) hu) fun w4 S4 => ?_
 refine J.sb 2 [] [(10, iv 0)] [] S4 0 rfl [iv t.gBits, .bool t.gSigned, iv t.gNum, iv t.gOff, iv t.gDen, iv t.gUnit_M, iv t.gUnit_Kg, iv t.gUnit_S, iv t.gUnit_A, iv t.gUnit_K, iv (resT (numF ta ra * 1) ta.gDen t)] rfl fun w5 S5 => ?_
 refine J.ez 2 [.agg #[iv t.gBits, .bool t.gSigned, iv t.gNum, iv t.gOff, iv t.gDen, iv t.gUnit_M, iv t.gUnit_Kg, iv t.gUnit_S, iv t.gUnit_A, iv t.gUnit_K, iv (resT (numF ta ra * 1) ta.gDen t)], iv 0] Tryz.func113 (bk (S5.nth 0 rfl) bn) (hR _ _ ?_)
 exact ⟨rfl, S5.nil⟩

theorem hb118 : HasBody Tryz.prog 118 := fun _ _ => by kernel_rfl

theorem fless_any (ta : Fxd) (ra : Int) (tb : Fxd) (rb : Int) (w : World) (qa : fxdQ w ta) (fa : fixB ta = true) (ha : inT ta ra) (qb : fxdQ w tb) (fb : fixB tb = true) (hb : inT tb rb) (hu : unEq (unitT ta) (unitT tb) = true) : Ret Tryz.prog 118 #[.agg #[iv ta.gBits, .bool ta.gSigned, iv ta.gNum, iv ta.gOff, iv ta.gDen, iv ta.gUnit_M, iv ta.gUnit_Kg, iv ta.gUnit_S, iv ta.gUnit_A, iv ta.gUnit_K, iv ra], .agg #[iv tb.gBits, .bool tb.gSigned, iv tb.gNum, iv tb.gOff, iv tb.gDen, iv tb.gUnit_M, iv tb.gUnit_Kg, iv tb.gUnit_S, iv tb.gUnit_A, iv tb.gUnit_K, iv rb]] w (fun v w' => v = .tuple #[.bool (!decide (numF tb rb * ta.gDen ≤ numF ta ra * tb.gDen)), iv 0] ∧ Sep w [] w') := by
 refine Ret.st (N := 45) Tryz.func118 fun R hR S0 => ?_
 obtain ⟨q1, q2, q3, q4, q5, q6, q7, q8, q9, _⟩ := id qa
 obtain ⟨q10, q11, q12, q13, q14, q15, q16, q17, q18, _⟩ := id qb
 have hoa := num_ok fa ha
 have hob := num_ok fb hb
 have hp0 := mul_bi (x := numF ta ra) (y := tb.gDen) 4503600701112320 1048576 (by omega) (by omega)
 have hp1 := mul_bi (x := numF tb rb) (y := ta.gDen) 4503600701112320 1048576 (by omega) (by omega)
 refine J.nw 2 [] [] [] S0 2 [iv ta.gBits, .bool ta.gSigned, iv ta.gNum, iv ta.gOff, iv ta.gDen, iv ta.gUnit_M, iv ta.gUnit_Kg, iv ta.gUnit_S, iv ta.gUnit_A, iv ta.gUnit_K, iv ra] 82 fun b1 w1 S1 => ?_
 refine J.nw 0 [] [] [] S1 3 [iv tb.gBits, .bool tb.gSigned, iv tb.gNum, iv tb.gOff, iv tb.gDen, iv tb.gUnit_M, iv tb.gUnit_Kg, iv tb.gUnit_S, iv tb.gUnit_A, iv tb.gUnit_K, iv rb] 82 fun b2 w2 S2 => ?_
 refine J.lb 6 [] [] [] S2 1 rfl 10 (.agg #[iv ta.gBits, .bool ta.gSigned, iv ta.gNum, iv ta.gOff, iv ta.gDen, iv ta.gUnit_M, iv ta.gUnit_Kg, iv ta.gUnit_S, iv ta.gUnit_A, iv ta.gUnit_K, iv ra]) ?_
 refine J.c0 0 [] [] [] S2 11 hb163 (valid4_any ta ra _ (fxdQ_sep qa S2) fa ha) fun w3 S3 => ?_
 refine J.lb 2 [] [(13, .bool false)] [] S3 0 rfl 14 (.agg #[iv tb.gBits, .bool tb.gSigned, iv tb.gNum, iv tb.gOff, iv tb.gDen, iv tb.gUnit_M, iv tb.gUnit_Kg, iv tb.gUnit_S, iv tb.gUnit_A, iv tb.gUnit_K, iv rb]) ?_
 refine J.c0 0 [] [] [] S3 15 hb163 (valid4_any tb rb _ (fxdQ_sep qb S3) fb hb) fun w4 S4 => ?_
 refine J.lb 10 [false] [] [] S4 1 rfl 20 (.agg #[iv ta.gUnit_M, iv ta.gUnit_Kg, iv ta.gUnit_S, iv ta.gUnit_A, iv ta.gUnit_K]) ?_
 refine J.lb 2 [] [] [] S4 0 rfl 23 (.agg #[iv tb.gUnit_M, iv tb.gUnit_Kg, iv tb.gUnit_S, iv tb.gUnit_A, iv tb.gUnit_K]) ?_
 refine J.ok (OK.eqS 24 false 73 #[iv ta.gUnit_M, iv ta.gUnit_Kg, iv ta.gUnit_S, iv ta.gUnit_A, iv ta.gUnit_K] #[iv tb.gUnit_M, iv tb.gUnit_Kg, iv tb.gUnit_S, iv tb.gUnit_A, iv tb.gUnit_K] ((ta.gUnit_M == tb.gUnit_M) && ((ta.gUnit_Kg == tb.gUnit_Kg) && ((ta.gUnit_S == tb.gUnit_S) && ((ta.gUnit_A == tb.gUnit_A) && ((ta.gUnit_K == tb.gUnit_K) && true))))) (by kernel_rfl) (by kernel_rfl) (by kernel_rfl) (!((ta.gUnit_M == tb.gUnit_M) && ((ta.gUnit_Kg == tb.gUnit_Kg) && ((ta.gUnit_S == tb.gUnit_S) && ((ta.gUnit_A == tb.gUnit_A) && (ta.gUnit_K == tb.gUnit_K)))))) (by simp)) ?_
 have fk2 : ((ta.gUnit_M == tb.gUnit_M) && ((ta.gUnit_Kg == tb.gUnit_Kg) && ((ta.gUnit_S == tb.gUnit_S) && ((ta.gUnit_A == tb.gUnit_A) && (ta.gUnit_K == tb.gUnit_K))))) = true := hu
 refine J.h 1 [] [] [] 24 (.bool (!((ta.gUnit_M == tb.gUnit_M) && ((ta.gUnit_Kg == tb.gUnit_Kg) && ((ta.gUnit_S == tb.gUnit_S) && ((ta.gUnit_A == tb.gUnit_A) && (ta.gUnit_K == tb.gUnit_K))))))) (.bool false) (congrArg Value.bool (by rw [fk2]; rfl)) ?_
 refine J.lb 4 [false] [] [] S4 1 rfl 26 (.agg #[iv ta.gBits, .bool ta.gSigned, iv ta.gNum, iv ta.gOff, iv ta.gDen, iv ta.gUnit_M, iv ta.gUnit_Kg, iv ta.gUnit_S, iv ta.gUnit_A, iv ta.gUnit_K, iv ra]) ?_
 refine J.c0 0 [] [] [] S4 27 hb164 (number_any ta ra _ fa ha) fun w5 S5 => ?_
 refine J.lb 8 [] [(7, iv ((ta).gDen)), (6, iv (numF ta ra))] [] S5 0 rfl 31 (.agg #[iv tb.gBits, .bool tb.gSigned, iv tb.gNum, iv tb.gOff, iv tb.gDen, iv tb.gUnit_M, iv tb.gUnit_Kg, iv tb.gUnit_S, iv tb.gUnit_A, iv tb.gUnit_K, iv rb]) ?_
 refine J.c0 0 [] [] [] S5 32 hb164 (number_any tb rb _ fb hb) fun w6 S6 => ?_
 refine J.c0 9 [] [(9, iv ((tb).gDen))] [] S6 36 hb165 (of4_any (numF tb rb) _ (by omega)) fun w7 S7 => ?_
 refine J.c0 1 [] [] [] S7 38 hb166 (wtimes_any (numF tb rb) ((ta).gDen) _ (by constructor <;> omega) (by omega)) fun w8 S8 => ?_
 refine J.c0 1 [] [] [] S8 40 hb165 (of4_any (numF ta ra) _ (by omega)) fun w9 S9 => ?_
 refine J.c0 1 [] [] [] S9 42 hb166 (wtimes_any (numF ta ra) ((tb).gDen) _ (by constructor <;> omega) (by omega)) fun w10 S10 => ?_
 refine J.c0 0 [] [] [] S10 43 hb167 (watmost_any ((numF tb rb) * ((ta).gDen)) ((numF ta ra) * ((tb).gDen)) _ (by constructor <;> omega) (by constructor <;> omega)) fun w11 S11 => ?_
 refine J.e 4 [.bool (!(decide (((numF tb rb) * ((ta).gDen)) ≤ ((numF ta ra) * ((tb).gDen))))), iv 0] Tryz.func118 (hR _ _ ?_)
 exact ⟨rfl, S11.nil⟩

end Go.Proofs.YtaoolgcddapegaaGreatDoor

