/- Walks of functions of this seat, printed by a program over the engine. Conditions: as each theorem says. -/
import Derived.Test.YtaoolgcddapegaaGreatZqF23
set_option linter.unusedSimpArgs false
set_option linter.unusedVariables false
namespace Go.Proofs.YtaoolgcddapegaaGreat
open Go.Eng Go.RowKit Go.Proofs.Tryz
set_option maxRecDepth 20000
set_option maxHeartbeats 20000000
abbrev du:List Value:=[iv 0,.bool false,iv 0,iv 0,iv 0,iv 0,iv 0,iv 0,iv 0,iv 0,iv 0]
theorem hb163:af prog 163:=fun _ _=>by kernel_rfl

theorem within_any (r:Int) (t:Fxd) (w:World) (ht:cA w t) (ft:bF t=true) (rt:inT t r):Ret prog 163 #[.agg #[iv r,iv r],.agg (aI t)] w (fun v w'=>v=.bool true∧Sep w [] w'):=by
 refine Ret.st (N:=33) func163 fun R hR S0=>?_
 obtain ⟨q1,q2,q3,q4,q5,q6,q7,q8,q9,_⟩:=id ht
 refine J.nw 2 [] [] [] S0 2 [iv r,iv r] 181 fun b1 w1 S1=>J.nw 0 [] [] [] S1 3 (aN t) 54 fun b2 w2 S2=>J.lb 4 [] [] [] S2 0 rfl 8 (.agg (aI t))<|J.c0 0 [] [] [] S2 9 hb136 (lim_any t _ (aw ht S2)) fun w3 S3=>?_
 have hlim:=lim_bd (t)
 refine J.lb 8 [] [(6,iv (bR t)),(5,iv (bN t))] [] S3 0 rfl 12 (.agg (aI t))<|J.c0 0 [] [] [] S3 13 hb47 (fxvalid_any t _ (aw ht S3)) fun w4 S4=>?_
 have fk2:(bF t)=true:=ft
 refine J.h 1 [] [] [] 14 (.bool (bF t)) (.bool true) (congrArg Value.bool fk2)<|J.lb 1 [] [] [] S4 1 rfl 16 (iv r)<|J.lb 1 [] [] [] S4 1 rfl 18 (iv r) ?_
 have fk4:r≤r:=by omega
 refine J.h 3 [] [] [] 21 (.bool (decide (r≤r))) (.bool true) (congrArg Value.bool (decide_eq_true fk4))<|J.lb 1 [] [] [] S4 1 rfl 23 (iv r) ?_
 have fk6:r≥(bN t):=by omega
 refine J.h 4 [] [] [] 27 (.bool (decide (r≥(bN t)))) (.bool true) (congrArg Value.bool (decide_eq_true fk6))<|J.lb 1 [] [] [] S4 1 rfl 29 (iv r)<|J.e 5 [.bool (decide (r≤(bR t)))] func163 (hR _ _ ?_)
 exact⟨congrArg Value.bool (decide_eq_true om),S4.nil⟩

theorem hb139:af prog 139:=fun _ _=>by kernel_rfl

theorem valid4_any (t:Fxd) (r:Int) (w:World) (ht:cA w t) (ft:bF t=true) (rt:inT t r):Ret prog 139 #[.agg (vlA t r)] w (fun v w'=>v=.bool true∧Sep w [] w'):=by
 refine Ret.st (N:=11) func139 fun R hR S0=>?_
 obtain ⟨q1,q2,q3,q4,q5,q6,q7,q8,q9,_⟩:=id ht
 refine J.nw 2 [] [] [] S0 1 (vlL t r) 102 fun b1 w1 S1=>J.lb 5 [] [] [] S1 0 rfl 4 (iv r)<|J.lb 1 [] [] [] S1 0 rfl 6 (iv r)<|J.lb 2 [] [(7,.agg #[iv r,iv r])] [] S1 0 rfl 9 (.agg (aI t))<|J.c0 0 [] [] [] S1 10 hb163 (within_any r t _ (aw ht S1) ft rt) fun w2 S2=>J.e 2 [.bool true] func139 (hR _ _ ?_)
 exact⟨rfl,S2.nil⟩

theorem hb161:af prog 161:=fun _ _=>by kernel_rfl

theorem fit_any (op:Int) (a b t:Unt) (w:World):Ret prog 161 #[iv op,.agg (bD a),.agg (bD b),.agg (bD t)] w (fun v w'=>v=.bool (fitOK op a b t)∧Sep w [] w'):=by
 refine Ret.st (N:=42) func161 fun R hR S0=>J.nw 2 [] [] [] S0 5 (bu a) 52 fun b1 w1 S1=>J.nw 0 [] [] [] S1 6 (bu b) 52 fun b2 w2 S2=>J.nw 0 [] [] [] S2 7 (bu t) 52 fun b3 w3 S3=>J.c 17 [] [(10,iv op)] [] 19 (op=3) (fun fk1=>?_) fun fk1=>?_
 refine J.lb 2 [true] [] [] S3 2 rfl 22 (.agg (bD a))<|J.lb 0 [] [] [] S3 1 rfl 23 (.agg (bD b))<|J.c0 0 [] [] [] S3 24 hb128 (umul_any a b _) fun w4 S4=>J.sb 3 [] [(26,iv (unE a b 1))] [] S4 2 rfl (bu (unX a b 1)) rfl fun w5 S5=>J.c 8 [] [] [] 37 ((unE a b 1)=0) (fun fk2=>?_) fun fk2=>?_
 refine J.lb 0 [] [] [] S5 2 rfl 38 (.agg (bD (unX a b 1)))<|J.lb 0 [] [] [] S5 0 rfl 39 (.agg (bD t))<|J.ok (OK.eqUnt 40 (unX a b 1) t kr)<|J.e 3 [.bool (cj (unX a b 1) t)] func161 (hR _ _ ?_)
 exact⟨congrArg Value.bool (by unfold fitOK;(repeat first | rw[if_pos om] | rw[if_neg om]);first | rfl | (simp[fk2];done) | (simp[fk2];rfl)),S5.nil⟩
 refine J.e 6 [.bool false] func161 (hR _ _ ?_)
 exact⟨congrArg Value.bool (by unfold fitOK;(repeat first | rw[if_pos om] | rw[if_neg om]);first | rfl | (simp[fk2];done) | (simp[fk2];rfl)),S5.nil⟩
 refine J.c 6 [false] [] [] 27 (op=4) (fun fk3=>?_) fun fk3=>?_
 refine J.lb 2 [true] [] [] S3 2 rfl 30 (.agg (bD a))<|J.lb 0 [] [] [] S3 1 rfl 31 (.agg (bD b))<|J.c0 0 [] [] [] S3 32 hb129 (udiv_any a b _) fun w6 S6=>J.sb 3 [] [(34,iv (unE a b (-1)))] [] S6 2 rfl (bu (unX a b (-1))) rfl fun w7 S7=>J.c 8 [] [] [] 37 ((unE a b (-1))=0) (fun fk4=>?_) fun fk4=>?_
 refine J.lb 0 [] [] [] S7 2 rfl 38 (.agg (bD (unX a b (-1))))<|J.lb 0 [] [] [] S7 0 rfl 39 (.agg (bD t))<|J.ok (OK.eqUnt 40 (unX a b (-1)) t kr)<|J.e 3 [.bool (cj (unX a b (-1)) t)] func161 (hR _ _ ?_)
 exact⟨congrArg Value.bool (by unfold fitOK;(repeat first | rw[if_pos om] | rw[if_neg om]);first | rfl | (simp[fk4];done) | (simp[fk4];rfl)),S7.nil⟩
 refine J.e 6 [.bool false] func161 (hR _ _ ?_)
 exact⟨congrArg Value.bool (by unfold fitOK;(repeat first | rw[if_pos om] | rw[if_neg om]);first | rfl | (simp[fk4];done) | (simp[fk4];rfl)),S7.nil⟩
 refine J.lb 3 [false] [] [] S3 2 rfl 11 (.agg (bD a))<|J.lb 0 [] [] [] S3 0 rfl 12 (.agg (bD t))<|J.ok (OK.eqUnt 13 a t kr)<|J.b 1 [] [] [] 14 (cj a t) (fun fk5=>?_) fun fk5=>?_
 refine J.lb 0 [] [] [] S3 1 rfl 15 (.agg (bD b))<|J.lb 0 [] [] [] S3 0 rfl 16 (.agg (bD t))<|J.ok (OK.eqUnt 17 b t kr)<|J.e 3 [.bool (cj b t)] func161 (hR _ _ ?_)
 exact⟨congrArg Value.bool (by unfold fitOK;(repeat first | rw[if_pos om] | rw[if_neg om]);first | rfl | (simp[fk5];done) | (simp[fk5];rfl)),S3.nil⟩
 refine J.e 6 [.bool false] func161 (hR _ _ ?_)
 exact⟨congrArg Value.bool (by unfold fitOK;(repeat first | rw[if_pos om] | rw[if_neg om]);first | rfl | (simp[fk5];done) | (simp[fk5];rfl)),S3.nil⟩

theorem hb138:af prog 138:=fun _ _=>by kernel_rfl

theorem operate_any (op:Int) (ta:Fxd) (ra:Int) (tb:Fxd) (rb:Int) (t:Fxd) (w:World) (qa:cA w ta) (fa:bF ta=true) (ha:inT ta ra) (qb:cA w tb) (fb:bF tb=true) (hb:inT tb rb) (ht:cA w t) (ft:bF t=true) (ho:1≤op∧op≤4) (hf:fitOK op (az ta) (az tb) (az t)=true):Ret prog 138 #[iv op,.agg (vlA ta ra),.agg (vlA tb rb),.agg (aI t)] w (fun v w'=>v=.tuple #[.agg (vlA (es op tb rb t) (di op ta ra tb rb t)),iv (opE op tb rb)]∧Sep w [] w'):=by
 refine Ret.st (N:=56) func138 fun R hR S0=>?_
 obtain ⟨q1,q2,q3,q4,q5,q6,q7,q8,q9,_⟩:=id qa
 obtain ⟨q10,q11,q12,q13,q14,q15,q16,q17,q18,_⟩:=id qb
 obtain ⟨q19,q20,q21,q22,q23,q24,q25,q26,q27,_⟩:=id ht
 refine J.nw 2 [] [] [] S0 5 (vlL ta ra) 102 fun b1 w1 S1=>J.nw 0 [] [] [] S1 6 (vlL tb rb) 102 fun b2 w2 S2=>J.nw 0 [] [] [] S2 7 (aN t) 54 fun b3 w3 S3=>J.nw 0 [] [] [] S3 8 du 102 fun b4 w4 S4=>J.lb 5 [] [] [] S4 3 rfl 12 (.agg (vlA ta ra))<|J.c0 0 [] [] [] S4 13 hb139 (valid4_any ta ra _ (aw qa S4) fa ha) fun w5 S5=>J.lb 2 [] [(15,.bool false)] [] S5 2 rfl 16 (.agg (vlA tb rb))<|J.c0 0 [] [] [] S5 17 hb139 (valid4_any tb rb _ (aw qb S5) fb hb) fun w6 S6=>J.lb 3 [] [(20,.bool false)] [] S6 1 rfl 21 (.agg (aI t))<|J.c0 0 [] [] [] S6 22 hb47 (fxvalid_any t _ (aw ht S6)) fun w7 S7=>?_
 have fk2:(bF t)=true:=ft
 refine J.h 3 [] [] [] 24 (.bool (!(bF t))) (.bool false) (congrArg Value.bool (by rw[fk2];rfl))<|J.lb 8 [false] [(26,iv op)] [] S7 3 rfl 29 (.agg #[iv ta.ah,iv ta.ae,iv ta.ag,iv ta.aj,iv ta.ai])<|J.lb 2 [] [] [] S7 2 rfl 32 (.agg #[iv tb.ah,iv tb.ae,iv tb.ag,iv tb.aj,iv tb.ai])<|J.lb 1 [] [] [] S7 1 rfl 34 (.agg #[iv t.ah,iv t.ae,iv t.ag,iv t.aj,iv t.ai])<|J.c0 0 [] [] [] S7 35 hb161 (fit_any op (⟨ta.ah,ta.ae,ta.ag,ta.aj,ta.ai⟩:Unt) (⟨tb.ah,tb.ae,tb.ag,tb.aj,tb.ai⟩:Unt) (⟨t.ah,t.ae,t.ag,t.aj,t.ai⟩:Unt) _) fun w8 S8=>?_
 have fk4:(fitOK op (⟨ta.ah,ta.ae,ta.ag,ta.aj,ta.ai⟩:Unt) (⟨tb.ah,tb.ae,tb.ag,tb.aj,tb.ai⟩:Unt) (⟨t.ah,t.ae,t.ag,t.aj,t.ai⟩:Unt))=true:=hf
 refine J.h 2 [] [] [] 36 (.bool (!(fitOK op (⟨ta.ah,ta.ae,ta.ag,ta.aj,ta.ai⟩:Unt) (⟨tb.ah,tb.ae,tb.ag,tb.aj,tb.ai⟩:Unt) (⟨t.ah,t.ae,t.ag,t.aj,t.ai⟩:Unt)))) (.bool false) (congrArg Value.bool (by rw[fk4];rfl))<|J.lb 5 [false] [] [] S8 2 rfl 39 (.agg (vlA tb rb))<|J.c0 0 [] [] [] S8 40 hb140 (number_any tb rb _ fb hb) fun w9 S9=>J.c 11 [] [(10,iv (ac tb rb))] [] 45 (op=4) (fun fk5=>?_) fun fk5=>?_
 refine J.c 4 [] [] [] 48 ((ac tb rb)=0) (fun fk6=>?_) fun fk6=>?_
 refine J.sb 4 [true] [] [] S9 0 rfl du rfl fun w10 S10=>J.ez 2 [.agg #[iv 0,.bool false,iv 0,iv 0,iv 0,iv 0,iv 0,iv 0,iv 0,iv 0,iv 0],iv 10] func138 (bk (S10.nth 0 rfl) bn) (hR _ _ ?_)
 obtain ⟨e1,e2,e3⟩:=op_zero (op:=op) (ta:=ta) (tb:=tb) (t:=t) (ra:=ra) (rb:=rb) om
 exact⟨by rw[e1,e2,e3];rfl,S10.nil⟩
 refine J.r 3 [false] [] []<|J.drawPlan (fun w_=>Sep w [box b3 (aN t) 54,box b2 (vlL tb rb) 102,box b1 (vlL ta ra) 102] w_) [(0,true),(1,true),(2,true),(4,true),(3,false),(5,false),(6,false),(7,true)] S9 Tryz.mixed kr (aE (T:=[(0,some 50,1),(0,some 51,32),(0,some 52,64),(7,some 53,7881299347898368),(0,some 54,128),(24,some 55,27021597764222976),(63,none,36028797018964224),(127,some 9,0)]) kr kr) ?_
 intro w11 S11
 refine PB.mk (S11.erase 0)<|PL.take 0 50 (iv op) (fun _ _=>kr)<|PL.takeOK 1 (fun w_ S_=>OK.ldBox S_ 2 51 102 0 (.agg (vlA ta ra)) kr rfl kr) rfl<|PL.takeOK 2 (fun w_ S_=>OK.ldBox S_ 1 52 102 0 (.agg (vlA tb rb)) kr rfl kr) rfl<|PL.takeOK 4 (fun w_ S_=>OK.ldBox S_ 0 54 54 0 (.agg (aI t)) kr rfl kr) rfl<|PL.callF 53 162 #[iv op,.agg (vlA ta ra),.agg (vlA tb rb)] hb162 kr (combine_any op ta ra tb rb _ fa ha fb hb om) ?_
 rintro _ w12 ⟨rfl,T1⟩
 have S12:Sep w [box b4 du 102,box b3 (aN t) 54,box b2 (vlL tb rb) 102,box b1 (vlL ta ra) 102] w12:=S11.trans T1
 refine PB.mk (S12.erase 0)<|PL.callF 55 160 #[.agg (exA (cmN op (ac ta ra) (ta).aa (ac tb rb) (tb).aa) (cmD op (ta).aa (ac tb rb) (tb).aa)),.agg (aI t)] hb160 kr (result_any (cmN op (ac ta ra) (ta).aa (ac tb rb) (tb).aa) (cmD op (ta).aa (ac tb rb) (tb).aa) t _ (aw ht S12) ft (cm_ok (ef fa ha) (ef fb hb) ho (fun _=>om))) ?_
 rintro _ w13 ⟨rfl,T2⟩
 have S13:Sep w [box b4 du 102,box b3 (aN t) 54,box b2 (vlL tb rb) 102,box b1 (vlL ta ra) 102] w13:=S12.trans T2
 have hrb:=res_bd ((cmN op (ac ta ra) (ta).aa (ac tb rb) (tb).aa)) ((cmD op (ta).aa (ac tb rb) (tb).aa)) (t)
 refine PB.mk (S13.erase 0)<|PL.stBox S13 0 102 0 (.agg (vlA t (dk (cmN op (ac ta ra) (ta).aa (ac tb rb) (tb).aa) (cmD op (ta).aa (ac tb rb) (tb).aa) t))) (vlL t (dk (cmN op (ac ta ra) (ta).aa (ac tb rb) (tb).aa) (cmD op (ta).aa (ac tb rb) (tb).aa) t)) [box b4 (vlL t (dk (cmN op (ac ta ra) (ta).aa (ac tb rb) (tb).aa) (cmD op (ta).aa (ac tb rb) (tb).aa) t)) 102,box b3 (aN t) 54,box b2 (vlL tb rb) 102,box b1 (vlL ta ra) 102] kr rfl kr kr rfl ?_
 intro w14 S14
 refine PB.mk (S14.erase 0)<|PL.take 7 9 (iv 0) (fun _ _=>kr)<|PL.done<|J.ez 0 [.agg (vlA t (dk (cmN op (ac ta ra) (ta).aa (ac tb rb) (tb).aa) (cmD op (ta).aa (ac tb rb) (tb).aa) t)),iv 0] func138 (bk (S14.nth 0 rfl) bn) (hR _ _ ?_)
 obtain ⟨e1,e2,e3⟩:=op_fine (op:=op) (ta:=ta) (tb:=tb) (t:=t) (ra:=ra) (rb:=rb) om
 exact⟨by rw[e1,e2,e3];rfl,S14.nil⟩
 refine J.r 7 [false] [] []<|J.drawPlan (fun w_=>Sep w [box b3 (aN t) 54,box b2 (vlL tb rb) 102,box b1 (vlL ta ra) 102] w_) [(0,true),(1,true),(2,true),(4,true),(3,false),(5,false),(6,false),(7,true)] S9 Tryz.mixed kr (aE (T:=[(0,some 50,1),(0,some 51,32),(0,some 52,64),(7,some 53,7881299347898368),(0,some 54,128),(24,some 55,27021597764222976),(63,none,36028797018964224),(127,some 9,0)]) kr kr) ?_
 intro w15 S15
 refine PB.mk (S15.erase 0)<|PL.take 0 50 (iv op) (fun _ _=>kr)<|PL.takeOK 1 (fun w_ S_=>OK.ldBox S_ 2 51 102 0 (.agg (vlA ta ra)) kr rfl kr) rfl<|PL.takeOK 2 (fun w_ S_=>OK.ldBox S_ 1 52 102 0 (.agg (vlA tb rb)) kr rfl kr) rfl<|PL.takeOK 4 (fun w_ S_=>OK.ldBox S_ 0 54 54 0 (.agg (aI t)) kr rfl kr) rfl<|PL.callF 53 162 #[iv op,.agg (vlA ta ra),.agg (vlA tb rb)] hb162 kr (combine_any op ta ra tb rb _ fa ha fb hb om) ?_
 rintro _ w16 ⟨rfl,T3⟩
 have S16:Sep w [box b4 du 102,box b3 (aN t) 54,box b2 (vlL tb rb) 102,box b1 (vlL ta ra) 102] w16:=S15.trans T3
 refine PB.mk (S16.erase 0)<|PL.callF 55 160 #[.agg (exA (cmN op (ac ta ra) (ta).aa (ac tb rb) (tb).aa) (cmD op (ta).aa (ac tb rb) (tb).aa)),.agg (aI t)] hb160 kr (result_any (cmN op (ac ta ra) (ta).aa (ac tb rb) (tb).aa) (cmD op (ta).aa (ac tb rb) (tb).aa) t _ (aw ht S16) ft (cm_ok (ef fa ha) (ef fb hb) ho (fun _=>om))) ?_
 rintro _ w17 ⟨rfl,T4⟩
 have S17:Sep w [box b4 du 102,box b3 (aN t) 54,box b2 (vlL tb rb) 102,box b1 (vlL ta ra) 102] w17:=S16.trans T4
 have hrb:=res_bd ((cmN op (ac ta ra) (ta).aa (ac tb rb) (tb).aa)) ((cmD op (ta).aa (ac tb rb) (tb).aa)) (t)
 refine PB.mk (S17.erase 0)<|PL.stBox S17 0 102 0 (.agg (vlA t (dk (cmN op (ac ta ra) (ta).aa (ac tb rb) (tb).aa) (cmD op (ta).aa (ac tb rb) (tb).aa) t))) (vlL t (dk (cmN op (ac ta ra) (ta).aa (ac tb rb) (tb).aa) (cmD op (ta).aa (ac tb rb) (tb).aa) t)) [box b4 (vlL t (dk (cmN op (ac ta ra) (ta).aa (ac tb rb) (tb).aa) (cmD op (ta).aa (ac tb rb) (tb).aa) t)) 102,box b3 (aN t) 54,box b2 (vlL tb rb) 102,box b1 (vlL ta ra) 102] kr rfl kr kr rfl ?_
 intro w18 S18
 refine PB.mk (S18.erase 0)<|PL.take 7 9 (iv 0) (fun _ _=>kr)<|PL.done<|J.ez 0 [.agg (vlA t (dk (cmN op (ac ta ra) (ta).aa (ac tb rb) (tb).aa) (cmD op (ta).aa (ac tb rb) (tb).aa) t)),iv 0] func138 (bk (S18.nth 0 rfl) bn) (hR _ _ ?_)
 obtain ⟨e1,e2,e3⟩:=op_fine (op:=op) (ta:=ta) (tb:=tb) (t:=t) (ra:=ra) (rb:=rb) om
 exact⟨by rw[e1,e2,e3];rfl,S18.nil⟩

theorem hb102:af prog 102:=fun _ _=>by kernel_rfl

theorem fop1_any (ta:Fxd) (ra:Int) (tb:Fxd) (rb:Int) (t:Fxd) (w:World) (qa:cA w ta) (fa:bF ta=true) (ha:inT ta ra) (qb:cA w tb) (fb:bF tb=true) (hb:inT tb rb) (ht:cA w t) (ft:bF t=true) (hf:fitOK 1 (az ta) (az tb) (az t)=true):Ret prog 102 #[.agg (vlA ta ra),.agg (vlA tb rb),.agg (aI t)] w (fun v w'=>v=.tuple #[.agg (vlA (es 1 tb rb t) (di 1 ta ra tb rb t)),iv (opE 1 tb rb)]∧Sep w [] w'):=by
 refine Ret.st (N:=14) func102 fun R hR S0=>?_
 obtain ⟨q1,q2,q3,q4,q5,q6,q7,q8,q9,_⟩:=id qa
 obtain ⟨q10,q11,q12,q13,q14,q15,q16,q17,q18,_⟩:=id qb
 obtain ⟨q19,q20,q21,q22,q23,q24,q25,q26,q27,_⟩:=id ht
 refine J.nw 2 [] [] [] S0 3 (vlL ta ra) 102 fun b1 w1 S1=>J.nw 0 [] [] [] S1 4 (vlL tb rb) 102 fun b2 w2 S2=>J.nw 0 [] [] [] S2 5 (aN t) 54 fun b3 w3 S3=>J.nw 0 [] [] [] S3 6 du 102 fun b4 w4 S4=>J.lb 4 [] [] [] S4 3 rfl 8 (.agg (vlA ta ra))<|J.lb 0 [] [] [] S4 2 rfl 9 (.agg (vlA tb rb))<|J.lb 0 [] [] [] S4 1 rfl 10 (.agg (aI t))<|J.c0 0 [] [] [] S4 11 hb138 (operate_any 1 ta ra tb rb t _ (aw qa S4) fa ha (aw qb S4) fb hb (aw ht S4) ft om hf) fun w5 S5=>J.sb 2 [] [(13,iv (opE 1 tb rb))] [] S5 0 rfl (vlL (es 1 tb rb t) (di 1 ta ra tb rb t)) rfl fun w6 S6=>J.ez 2 [.agg (vlA (es 1 tb rb t) (di 1 ta ra tb rb t)),iv (opE 1 tb rb)] func102 (bk (S6.nth 0 rfl) bn) (hR _ _ ?_)
 exact⟨rfl,S6.nil⟩

theorem hb103:af prog 103:=fun _ _=>by kernel_rfl

theorem fop2_any (ta:Fxd) (ra:Int) (tb:Fxd) (rb:Int) (t:Fxd) (w:World) (qa:cA w ta) (fa:bF ta=true) (ha:inT ta ra) (qb:cA w tb) (fb:bF tb=true) (hb:inT tb rb) (ht:cA w t) (ft:bF t=true) (hf:fitOK 2 (az ta) (az tb) (az t)=true):Ret prog 103 #[.agg (vlA ta ra),.agg (vlA tb rb),.agg (aI t)] w (fun v w'=>v=.tuple #[.agg (vlA (es 2 tb rb t) (di 2 ta ra tb rb t)),iv (opE 2 tb rb)]∧Sep w [] w'):=by
 refine Ret.st (N:=14) func103 fun R hR S0=>?_
 obtain ⟨q1,q2,q3,q4,q5,q6,q7,q8,q9,_⟩:=id qa
 obtain ⟨q10,q11,q12,q13,q14,q15,q16,q17,q18,_⟩:=id qb
 obtain ⟨q19,q20,q21,q22,q23,q24,q25,q26,q27,_⟩:=id ht
 refine J.nw 2 [] [] [] S0 3 (vlL ta ra) 102 fun b1 w1 S1=>J.nw 0 [] [] [] S1 4 (vlL tb rb) 102 fun b2 w2 S2=>J.nw 0 [] [] [] S2 5 (aN t) 54 fun b3 w3 S3=>J.nw 0 [] [] [] S3 6 du 102 fun b4 w4 S4=>J.lb 4 [] [] [] S4 3 rfl 8 (.agg (vlA ta ra))<|J.lb 0 [] [] [] S4 2 rfl 9 (.agg (vlA tb rb))<|J.lb 0 [] [] [] S4 1 rfl 10 (.agg (aI t))<|J.c0 0 [] [] [] S4 11 hb138 (operate_any 2 ta ra tb rb t _ (aw qa S4) fa ha (aw qb S4) fb hb (aw ht S4) ft om hf) fun w5 S5=>J.sb 2 [] [(13,iv (opE 2 tb rb))] [] S5 0 rfl (vlL (es 2 tb rb t) (di 2 ta ra tb rb t)) rfl fun w6 S6=>J.ez 2 [.agg (vlA (es 2 tb rb t) (di 2 ta ra tb rb t)),iv (opE 2 tb rb)] func103 (bk (S6.nth 0 rfl) bn) (hR _ _ ?_)
 exact⟨rfl,S6.nil⟩

theorem hb104:af prog 104:=fun _ _=>by kernel_rfl

theorem fop3_any (ta:Fxd) (ra:Int) (tb:Fxd) (rb:Int) (t:Fxd) (w:World) (qa:cA w ta) (fa:bF ta=true) (ha:inT ta ra) (qb:cA w tb) (fb:bF tb=true) (hb:inT tb rb) (ht:cA w t) (ft:bF t=true) (hf:fitOK 3 (az ta) (az tb) (az t)=true):Ret prog 104 #[.agg (vlA ta ra),.agg (vlA tb rb),.agg (aI t)] w (fun v w'=>v=.tuple #[.agg (vlA (es 3 tb rb t) (di 3 ta ra tb rb t)),iv (opE 3 tb rb)]∧Sep w [] w'):=by
 refine Ret.st (N:=14) func104 fun R hR S0=>?_
 obtain ⟨q1,q2,q3,q4,q5,q6,q7,q8,q9,_⟩:=id qa
 obtain ⟨q10,q11,q12,q13,q14,q15,q16,q17,q18,_⟩:=id qb
 obtain ⟨q19,q20,q21,q22,q23,q24,q25,q26,q27,_⟩:=id ht
 refine J.nw 2 [] [] [] S0 3 (vlL ta ra) 102 fun b1 w1 S1=>J.nw 0 [] [] [] S1 4 (vlL tb rb) 102 fun b2 w2 S2=>J.nw 0 [] [] [] S2 5 (aN t) 54 fun b3 w3 S3=>J.nw 0 [] [] [] S3 6 du 102 fun b4 w4 S4=>J.lb 4 [] [] [] S4 3 rfl 8 (.agg (vlA ta ra))<|J.lb 0 [] [] [] S4 2 rfl 9 (.agg (vlA tb rb))<|J.lb 0 [] [] [] S4 1 rfl 10 (.agg (aI t))<|J.c0 0 [] [] [] S4 11 hb138 (operate_any 3 ta ra tb rb t _ (aw qa S4) fa ha (aw qb S4) fb hb (aw ht S4) ft om hf) fun w5 S5=>J.sb 2 [] [(13,iv (opE 3 tb rb))] [] S5 0 rfl (vlL (es 3 tb rb t) (di 3 ta ra tb rb t)) rfl fun w6 S6=>J.ez 2 [.agg (vlA (es 3 tb rb t) (di 3 ta ra tb rb t)),iv (opE 3 tb rb)] func104 (bk (S6.nth 0 rfl) bn) (hR _ _ ?_)
 exact⟨rfl,S6.nil⟩

theorem hb105:af prog 105:=fun _ _=>by kernel_rfl

theorem fop4_any (ta:Fxd) (ra:Int) (tb:Fxd) (rb:Int) (t:Fxd) (w:World) (qa:cA w ta) (fa:bF ta=true) (ha:inT ta ra) (qb:cA w tb) (fb:bF tb=true) (hb:inT tb rb) (ht:cA w t) (ft:bF t=true) (hf:fitOK 4 (az ta) (az tb) (az t)=true):Ret prog 105 #[.agg (vlA ta ra),.agg (vlA tb rb),.agg (aI t)] w (fun v w'=>v=.tuple #[.agg (vlA (es 4 tb rb t) (di 4 ta ra tb rb t)),iv (opE 4 tb rb)]∧Sep w [] w'):=by
 refine Ret.st (N:=14) func105 fun R hR S0=>?_
 obtain ⟨q1,q2,q3,q4,q5,q6,q7,q8,q9,_⟩:=id qa
 obtain ⟨q10,q11,q12,q13,q14,q15,q16,q17,q18,_⟩:=id qb
 obtain ⟨q19,q20,q21,q22,q23,q24,q25,q26,q27,_⟩:=id ht
 refine J.nw 2 [] [] [] S0 3 (vlL ta ra) 102 fun b1 w1 S1=>J.nw 0 [] [] [] S1 4 (vlL tb rb) 102 fun b2 w2 S2=>J.nw 0 [] [] [] S2 5 (aN t) 54 fun b3 w3 S3=>J.nw 0 [] [] [] S3 6 du 102 fun b4 w4 S4=>J.lb 4 [] [] [] S4 3 rfl 8 (.agg (vlA ta ra))<|J.lb 0 [] [] [] S4 2 rfl 9 (.agg (vlA tb rb))<|J.lb 0 [] [] [] S4 1 rfl 10 (.agg (aI t))<|J.c0 0 [] [] [] S4 11 hb138 (operate_any 4 ta ra tb rb t _ (aw qa S4) fa ha (aw qb S4) fb hb (aw ht S4) ft om hf) fun w5 S5=>J.sb 2 [] [(13,iv (opE 4 tb rb))] [] S5 0 rfl (vlL (es 4 tb rb t) (di 4 ta ra tb rb t)) rfl fun w6 S6=>J.ez 2 [.agg (vlA (es 4 tb rb t) (di 4 ta ra tb rb t)),iv (opE 4 tb rb)] func105 (bk (S6.nth 0 rfl) bn) (hR _ _ ?_)
 exact⟨rfl,S6.nil⟩

theorem hb137:af prog 137:=fun _ _=>by kernel_rfl

theorem change_any (ta:Fxd) (ra:Int) (t:Fxd) (sg:Int) (w:World) (qa:cA w ta) (fa:bF ta=true) (ha:inT ta ra) (ht:cA w t) (ft:bF t=true) (hs:sg=1∨sg= -1) (hu:cj (az ta) (az t)=true):Ret prog 137 #[.agg (vlA ta ra),.agg (aI t),iv sg] w (fun v w'=>v=.tuple #[.agg (vlA t (dk (ac ta ra*sg) ta.aa t)),iv 0]∧Sep w [] w'):=by
 refine Ret.st (N:=40) func137 fun R hR S0=>?_
 obtain ⟨q1,q2,q3,q4,q5,q6,q7,q8,q9,_⟩:=id qa
 obtain ⟨q10,q11,q12,q13,q14,q15,q16,q17,q18,_⟩:=id ht
 have hoa:=ef fa ha
 have hob: -4503600701112320≤ac ta ra*sg∧ac ta ra*sg≤4503600701112320:=by rcases hs with e | e<;>rw[e]<;>omega
 refine J.nw 2 [] [] [] S0 3 (vlL ta ra) 102 fun b1 w1 S1=>J.nw 0 [] [] [] S1 4 (aN t) 54 fun b2 w2 S2=>J.nw 0 [] [] [] S2 6 du 102 fun b3 w3 S3=>J.lb 5 [] [] [] S3 2 rfl 10 (.agg (vlA ta ra))<|J.c0 0 [] [] [] S3 11 hb139 (valid4_any ta ra _ (aw qa S3) fa ha) fun w4 S4=>J.lb 2 [] [(13,.bool false)] [] S4 1 rfl 14 (.agg (aI t))<|J.c0 0 [] [] [] S4 15 hb47 (fxvalid_any t _ (aw ht S4)) fun w5 S5=>?_
 have fk2:(bF t)=true:=ft
 refine J.h 3 [] [] [] 17 (.bool (!(bF t))) (.bool false) (congrArg Value.bool (by rw[fk2];rfl))<|J.lb 7 [false] [] [] S5 2 rfl 21 (.agg #[iv ta.ah,iv ta.ae,iv ta.ag,iv ta.aj,iv ta.ai])<|J.lb 1 [] [] [] S5 1 rfl 23 (.agg #[iv t.ah,iv t.ae,iv t.ag,iv t.aj,iv t.ai])<|J.ok (OK.neUnt 24 (az ta) (az t) kr) ?_
 have fk4:(cj (az ta) (az t))=true:=hu
 refine J.h 1 [] [] [] 24 (.bool (!(cj (az ta) (az t)))) (.bool false) (congrArg Value.bool (by rw[fk4];rfl))<|J.lb 4 [false] [] [] S5 2 rfl 27 (.agg (vlA ta ra))<|J.c0 0 [] [] [] S5 28 hb140 (number_any ta ra _ fa ha) fun w6 S6=>J.r 7 [] [(9,iv ((ta).aa)),(8,iv (ac ta ra))] []<|J.drawPlan (fun w_=>Sep w [box b2 (aN t) 54,box b1 (vlL ta ra) 102] w_) [(0,true),(2,true),(4,true),(7,true),(1,false),(3,false),(5,false),(6,true),(8,false),(9,false),(10,true)] S6 Tryz.mixed kr (aE (T:=[(0,some 31,256),(1,some 32,2147483648),(0,some 33,4),(6,some 34,12884901888),(0,some 35,512),(24,some 36,34359738368),(40,some 37,85899345920),(0,some 38,16),(224,some 39,412316860416),(511,none,549755813952),(1023,some 7,0)]) kr kr) ?_
 intro w7 S7
 refine PB.mk (S7.erase 0)<|PL.take 0 31 (iv (ac ta ra)) (fun _ _=>kr)<|PL.take 2 33 (iv sg) (fun _ _=>kr)<|PL.take 4 35 (iv ((ta).aa)) (fun _ _=>kr)<|PL.takeOK 7 (fun w_ S_=>OK.ldBox S_ 0 38 54 0 (.agg (aI t)) kr rfl kr) rfl<|PL.callF 32 141 #[iv (ac ta ra)] hb141 kr (dY (ac ta ra) _ om) ?_
 rintro _ w8 ⟨rfl,T1⟩
 have S8:Sep w [box b3 du 102,box b2 (aN t) 54,box b1 (vlL ta ra) 102] w8:=S7.trans T1
 refine PB.mk (S8.erase 0)<|PL.callF 34 142 #[.agg (wvA (ac ta ra)),iv sg] eu kr (bG (ac ta ra) sg _ cO om) ?_
 rintro _ w9 ⟨rfl,T2⟩
 have S9:Sep w [box b3 du 102,box b2 (aN t) 54,box b1 (vlL ta ra) 102] w9:=S8.trans T2
 refine PB.mk (S9.erase 0)<|PL.callF 36 141 #[iv ((ta).aa)] hb141 kr (dY ((ta).aa) _ om) ?_
 rintro _ w10 ⟨rfl,T3⟩
 have S10:Sep w [box b3 du 102,box b2 (aN t) 54,box b1 (vlL ta ra) 102] w10:=S9.trans T3
 refine PB.mk (S10.erase 0)<|PL.take 6 37 (.agg (exA ((ac ta ra)*sg) ((ta).aa))) (fun _ _=>kr)<|PL.callF 39 160 #[.agg (exA ((ac ta ra)*sg) ((ta).aa)),.agg (aI t)] hb160 kr (result_any ((ac ta ra)*sg) ((ta).aa) t _ (aw ht S10) ft ⟨om,om⟩) ?_
 rintro _ w11 ⟨rfl,T4⟩
 have S11:Sep w [box b3 du 102,box b2 (aN t) 54,box b1 (vlL ta ra) 102] w11:=S10.trans T4
 have hrb:=res_bd (((ac ta ra)*sg)) (((ta).aa)) (t)
 refine PB.mk (S11.erase 0)<|PL.stBox S11 0 102 0 (.agg (vlA t (dk ((ac ta ra)*sg) ((ta).aa) t))) (vlL t (dk ((ac ta ra)*sg) ((ta).aa) t)) [box b3 (vlL t (dk ((ac ta ra)*sg) ((ta).aa) t)) 102,box b2 (aN t) 54,box b1 (vlL ta ra) 102] kr rfl kr kr rfl ?_
 intro w12 S12
 refine PB.mk (S12.erase 0)<|PL.take 10 7 (iv 0) (fun _ _=>kr)<|PL.done<|J.ez 0 [.agg (vlA t (dk ((ac ta ra)*sg) ((ta).aa) t)),iv 0] func137 (bk (S12.nth 0 rfl) bn) (hR _ _ ?_)
 exact⟨rfl,S12.nil⟩

theorem hb100:af prog 100:=fun _ _=>by kernel_rfl

theorem fneg_any (ta:Fxd) (ra:Int) (t:Fxd) (w:World) (qa:cA w ta) (fa:bF ta=true) (ha:inT ta ra) (ht:cA w t) (ft:bF t=true) (hu:cj (az ta) (az t)=true):Ret prog 100 #[.agg (vlA ta ra),.agg (aI t)] w (fun v w'=>v=.tuple #[.agg (vlA t (dk (ac ta ra*(-1)) ta.aa t)),iv 0]∧Sep w [] w'):=by
 refine Ret.st (N:=11) func100 fun R hR S0=>?_
 obtain ⟨q1,q2,q3,q4,q5,q6,q7,q8,q9,_⟩:=id qa
 obtain ⟨q10,q11,q12,q13,q14,q15,q16,q17,q18,_⟩:=id ht
 refine J.nw 2 [] [] [] S0 2 (vlL ta ra) 102 fun b1 w1 S1=>J.nw 0 [] [] [] S1 3 (aN t) 54 fun b2 w2 S2=>J.nw 0 [] [] [] S2 4 du 102 fun b3 w3 S3=>J.lb 4 [] [] [] S3 2 rfl 6 (.agg (vlA ta ra))<|J.lb 0 [] [] [] S3 1 rfl 7 (.agg (aI t))<|J.c0 0 [] [] [] S3 8 hb137 (change_any ta ra t (-1) _ (aw qa S3) fa ha (aw ht S3) ft om hu) fun w4 S4=>J.sb 2 [] [(10,iv 0)] [] S4 0 rfl (vlL t (dk (ac ta ra* -1) ta.aa t)) rfl fun w5 S5=>J.ez 2 [.agg (vlA t (dk (ac ta ra* -1) ta.aa t)),iv 0] func100 (bk (S5.nth 0 rfl) bn) (hR _ _ ?_)
 exact⟨rfl,S5.nil⟩

theorem hb101:af prog 101:=fun _ _=>by kernel_rfl

theorem fconv_any (ta:Fxd) (ra:Int) (t:Fxd) (w:World) (qa:cA w ta) (fa:bF ta=true) (ha:inT ta ra) (ht:cA w t) (ft:bF t=true) (hu:cj (az ta) (az t)=true):Ret prog 101 #[.agg (vlA ta ra),.agg (aI t)] w (fun v w'=>v=.tuple #[.agg (vlA t (dk (ac ta ra*1) ta.aa t)),iv 0]∧Sep w [] w'):=by
 refine Ret.st (N:=11) func101 fun R hR S0=>?_
 obtain ⟨q1,q2,q3,q4,q5,q6,q7,q8,q9,_⟩:=id qa
 obtain ⟨q10,q11,q12,q13,q14,q15,q16,q17,q18,_⟩:=id ht
 refine J.nw 2 [] [] [] S0 2 (vlL ta ra) 102 fun b1 w1 S1=>J.nw 0 [] [] [] S1 3 (aN t) 54 fun b2 w2 S2=>J.nw 0 [] [] [] S2 4 du 102 fun b3 w3 S3=>J.lb 4 [] [] [] S3 2 rfl 6 (.agg (vlA ta ra))<|J.lb 0 [] [] [] S3 1 rfl 7 (.agg (aI t))<|J.c0 0 [] [] [] S3 8 hb137 (change_any ta ra t 1 _ (aw qa S3) fa ha (aw ht S3) ft om hu) fun w4 S4=>J.sb 2 [] [(10,iv 0)] [] S4 0 rfl (vlL t (dk (ac ta ra*1) ta.aa t)) rfl fun w5 S5=>J.ez 2 [.agg (vlA t (dk (ac ta ra*1) ta.aa t)),iv 0] func101 (bk (S5.nth 0 rfl) bn) (hR _ _ ?_)
 exact⟨rfl,S5.nil⟩

theorem hb106:af prog 106:=fun _ _=>by kernel_rfl

theorem fless_any (ta:Fxd) (ra:Int) (tb:Fxd) (rb:Int) (w:World) (qa:cA w ta) (fa:bF ta=true) (ha:inT ta ra) (qb:cA w tb) (fb:bF tb=true) (hb:inT tb rb) (hu:cj (az ta) (az tb)=true):Ret prog 106 #[.agg (vlA ta ra),.agg (vlA tb rb)] w (fun v w'=>v=.tuple #[.bool (!decide (ac tb rb*ta.aa≤ac ta ra*tb.aa)),iv 0]∧Sep w [] w'):=by
 refine Ret.st (N:=45) func106 fun R hR S0=>?_
 obtain ⟨q1,q2,q3,q4,q5,q6,q7,q8,q9,_⟩:=id qa
 obtain ⟨q10,q11,q12,q13,q14,q15,q16,q17,q18,_⟩:=id qb
 have hoa:=ef fa ha
 have hob:=ef fb hb
 have hp0:=cL (x:=ac ta ra) (y:=tb.aa) 4503600701112320 1048576 om om
 have hp1:=cL (x:=ac tb rb) (y:=ta.aa) 4503600701112320 1048576 om om
 refine J.nw 2 [] [] [] S0 2 (vlL ta ra) 102 fun b1 w1 S1=>J.nw 0 [] [] [] S1 3 (vlL tb rb) 102 fun b2 w2 S2=>J.lb 6 [] [] [] S2 1 rfl 10 (.agg (vlA ta ra))<|J.c0 0 [] [] [] S2 11 hb139 (valid4_any ta ra _ (aw qa S2) fa ha) fun w3 S3=>J.lb 2 [] [(13,.bool false)] [] S3 0 rfl 14 (.agg (vlA tb rb))<|J.c0 0 [] [] [] S3 15 hb139 (valid4_any tb rb _ (aw qb S3) fb hb) fun w4 S4=>J.lb 10 [false] [] [] S4 1 rfl 20 (.agg #[iv ta.ah,iv ta.ae,iv ta.ag,iv ta.aj,iv ta.ai])<|J.lb 2 [] [] [] S4 0 rfl 23 (.agg #[iv tb.ah,iv tb.ae,iv tb.ag,iv tb.aj,iv tb.ai])<|J.ok (OK.neUnt 24 (az ta) (az tb) kr) ?_
 have fk2:(cj (az ta) (az tb))=true:=hu
 refine J.h 1 [] [] [] 24 (.bool (!(cj (az ta) (az tb)))) (.bool false) (congrArg Value.bool (by rw[fk2];rfl))<|J.lb 4 [false] [] [] S4 1 rfl 26 (.agg (vlA ta ra))<|J.c0 0 [] [] [] S4 27 hb140 (number_any ta ra _ fa ha) fun w5 S5=>J.lb 8 [] [(7,iv ((ta).aa)),(6,iv (ac ta ra))] [] S5 0 rfl 31 (.agg (vlA tb rb))<|J.c0 0 [] [] [] S5 32 hb140 (number_any tb rb _ fb hb) fun w6 S6=>J.c0 9 [] [(9,iv ((tb).aa))] [] S6 36 hb141 (dY (ac tb rb) _ om) fun w7 S7=>J.c0 1 [] [] [] S7 38 eu (bG (ac tb rb) ((ta).aa) _ cO om) fun w8 S8=>J.c0 1 [] [] [] S8 40 hb141 (dY (ac ta ra) _ om) fun w9 S9=>J.c0 1 [] [] [] S9 42 eu (bG (ac ta ra) ((tb).aa) _ cO om) fun w10 S10=>J.c0 0 [] [] [] S10 43 hb143 (watmost_any ((ac tb rb)*((ta).aa)) ((ac ta ra)*((tb).aa)) _ cO cO) fun w11 S11=>J.e 4 [.bool (!(decide (((ac tb rb)*((ta).aa))≤((ac ta ra)*((tb).aa))))),iv 0] func106 (hR _ _ ?_)
 exact⟨rfl,S11.nil⟩

end Go.Proofs.YtaoolgcddapegaaGreat

namespace Go.Proofs.YtaoolgcddapegaaGreat
open Go.Eng Go.RowKit Go.Proofs.Tryz
set_option maxRecDepth 20000
set_option maxHeartbeats 20000000
def lagB (y r sh:Int):Bool:=decide (-1099511627776≤y∧y≤1099511627776)&&decide (0≤r)&&decide (r<2^sh.toNat)
def eg (y r x sh:Int):Int:=y+(x-y+r)/2^sh.toNat
def lagR (y r x sh:Int):Int:=x-y+r-(x-y+r)/2^sh.toNat*2^sh.toNat
def lagE (y r sh:Int):Int:=if lagB y r sh then 0 else 1
def lagP (y r x sh:Int):Int:=if lagB y r sh then eg y r x sh else 0
def lagQ (y r x sh:Int):Int:=if lagB y r sh then lagR y r x sh else 0
theorem lag_yes {y r x sh:Int} (h:lagB y r sh=true):lagE y r sh=0∧lagP y r x sh=eg y r x sh∧lagQ y r x sh=lagR y r x sh:=by unfold lagE lagP lagQ;rw[h];exact⟨rfl,rfl,rfl⟩
theorem lag_no {y r x sh:Int} (h:lagB y r sh=false):lagE y r sh=1∧lagP y r x sh=0∧lagQ y r x sh=0:=by unfold lagE lagP lagQ;rw[h];exact⟨rfl,rfl,rfl⟩
theorem lagB_no {y r sh:Int} (h:¬ (-1099511627776≤y∧y≤1099511627776)∨r<0∨2^sh.toNat≤r):lagB y r sh=false:=by
  unfold lagB
  rcases h with h | h | h
  · rw[decide_eq_false h];rfl
  · rw[decide_eq_false (show ¬ 0≤r by omega)];simp
  · rw[decide_eq_false (show ¬ r<2^sh.toNat by omega)];simp
theorem lagB_yes {y r sh:Int} (h1: -1099511627776≤y∧y≤1099511627776) (h2:0≤r) (h3:r<2^sh.toNat):lagB y r sh=true:=by
  unfold lagB;rw[decide_eq_true h1,decide_eq_true h2,decide_eq_true h3];rfl
theorem lagB_zero (sh:Int):lagB 0 0 sh=true:=lagB_yes om om (by exact_mod_cast Nat.two_pow_pos _)
theorem lagE_iff {y r sh:Int}:lagE y r sh=0↔lagB y r sh=true:=by unfold lagE;split<;>simp_all
theorem lag_bd {n:Int} {k:Nat} (h: -4398046511104≤n∧n≤4398046511104):(-4398046511104≤n/2^k∧n/2^k≤4398046511104)∧n/2^k*2^k≤n∧n<n/2^k*2^k+2^k:=by
  have hp:(1:Int)≤2^k:=by exact_mod_cast Nat.one_le_two_pow
  have h1:=Int.mul_ediv_add_emod n (2^k)
  have h2:=Int.emod_nonneg n (show(2:Int)^k≠0 by omega)
  have h3:=Int.emod_lt_of_pos n (show(0:Int)<2^k by omega)
  rw[Int.mul_comm] at h1
  refine⟨⟨?_,?_⟩,om,om⟩
  · exact Int.le_ediv_of_mul_le om om
  · refine Int.le_of_lt_add_one (Int.ediv_lt_of_lt_mul om ?_)
    have:=Int.mul_le_mul_of_nonneg_left hp (show(0:Int)≤4398046511105 by omega);omega
theorem pow_20 (sh:Int) (h:0≤sh∧sh≤20):(1:Int)≤2^sh.toNat∧(2:Int)^sh.toNat≤1048576:=by
  have h1:(1:Int)≤2^sh.toNat:=by exact_mod_cast Nat.one_le_two_pow
  have h2:(2:Int)^sh.toNat≤2^20:=by exact_mod_cast Nat.pow_le_pow_right om om
  omega
theorem shr_p {x y:Int} (hy:0≤y∧y≤64):Int.fdiv x (2^(min y.toNat 64))=x/2^y.toNat:=by
  rw[show min y.toNat 64=y.toNat by omega,Int.fdiv_eq_ediv_of_nonneg _ (by exact_mod_cast Nat.zero_le _)]
theorem shl_p {x y:Int} (hy:0≤y∧y≤64) (h: -9223372036854775808≤x*2^y.toNat∧x*2^y.toNat≤9223372036854775807):IntKind.wrap .i64 (x*2^(min y.toNat 64))=x*2^y.toNat:=by
  rw[show min y.toNat 64=y.toNat by omega];exact IntWalk.i64_in _ h
def arN (t:Fxd) (x:Int):Int:=ac t (ab t x)
def arE (op:Int) (tb:Fxd) (y:Int):Int:=if op=8∧arN tb y=0 then 10 else 0
def arV (op:Int) (ta tb t:Fxd) (x y:Int):Int :=
  if op=9 then dk (arN ta x* -1) ta.aa t else if op=10 then dk (arN ta x*1) ta.aa t
  else if op=13 then (if arN ta x*tb.aa<arN tb y*ta.aa then 1 else 0) else if op=14 then (if arN ta x*tb.aa=arN tb y*ta.aa then 1 else 0)
  else if arE op tb y=0 then opV (op-4) ta (ab ta x) tb (ab tb y) t else 0
def dH (b:Bool):Int:=if b then 1 else 0
def exE (p:Prg) (i:Ins) (rs:List Int):Int:=if ec i.gOp then arE i.gOp (tyB p i.gOp i.gK) (rs.getD i.gC.toNat 0) else 0
def lgOK (i:Ins) (cs:List Int):Bool:=lagB (cs.getD (i.gK/32).toNat 0) (cs.getD (i.gK/32+1).toNat 0) (i.gK%32)
def lgX (x:Int):Int:=min (max x (-1099511627776)) 1099511627776
def lgY (i:Ins) (cs:List Int) (x:Int):Int:=if lgOK i cs then eg (cs.getD (i.gK/32).toNat 0) (cs.getD (i.gK/32+1).toNat 0) (lgX x) (i.gK%32) else eg 0 0 (lgX x) (i.gK%32)
def lgR (i:Ins) (cs:List Int) (x:Int):Int:=if lgOK i cs then lagR (cs.getD (i.gK/32).toNat 0) (cs.getD (i.gK/32+1).toNat 0) (lgX x) (i.gK%32) else lagR 0 0 (lgX x) (i.gK%32)
def lgC (i:Ins) (cs:List Int) (x:Int):List Int:=(cs.set (i.gK/32).toNat (lgY i cs x)).set (i.gK/32+1).toNat (lgR i cs x)
def exV (p:Prg) (i:Ins) (rs cs:List Int):Int :=
  if i.gOp=1 then i.gK else if i.gOp=2 then cs.getD i.gK.toNat 0 else if i.gOp=4 then rs.getD i.gB.toNat 0 else if i.gOp=11 then min (rs.getD i.gB.toNat 0) (rs.getD i.gC.toNat 0)
  else if i.gOp=12 then max (rs.getD i.gB.toNat 0) (rs.getD i.gC.toNat 0) else if i.gOp=15 then dH (decide (rs.getD i.gB.toNat 0<rs.getD i.gC.toNat 0)) else if i.gOp=16 then dH (!decide (rs.getD i.gB.toNat 0=0)&& !decide (rs.getD i.gC.toNat 0=0))
  else if i.gOp=17 then dH (!decide (rs.getD i.gB.toNat 0=0)|| !decide (rs.getD i.gC.toNat 0=0)) else if i.gOp=18 then dH (decide (rs.getD i.gB.toNat 0=0))
  else if i.gOp=19 then (if rs.getD i.gK.toNat 0=0 then rs.getD i.gC.toNat 0 else rs.getD i.gB.toNat 0) else if i.gOp=20 then atV (p.bS.getD i.gK.toNat (⟨none,0,0,[],none,0,0,[]⟩:Crv)) (rs.getD i.gB.toNat 0)
  else if i.gOp=21 then atF (p.cX.getD i.gK.toNat (⟨none,0,0,[],none,0,0,[],none,0,0,[]⟩:Mp)) (rs.getD i.gB.toNat 0) (rs.getD i.gC.toNat 0) else if i.gOp=22 then lgY i cs (rs.getD i.gB.toNat 0)
  else arV i.gOp (tyA p i.gOp i.gK) (tyB p i.gOp i.gK) (tyC p i.gOp i.gK) (rs.getD i.gB.toNat 0) (rs.getD i.gC.toNat 0)
def exR (p:Prg) (i:Ins) (rs cs:List Int):List Int:=if exE p i rs≠0∨i.gOp=3 then rs else rs.set i.gA.toNat (exV p i rs cs)
def exC (i:Ins) (rs cs:List Int):List Int:=if i.gOp=3 then cs.set i.gK.toNat (rs.getD i.gA.toNat 0) else if i.gOp=22 then lgC i cs (rs.getD i.gB.toNat 0) else cs
theorem exR_len (p:Prg) (i:Ins) (rs cs:List Int):(exR p i rs cs).length=rs.length:=by unfold exR;split<;>simp
theorem exC_len (i:Ins) (rs cs:List Int):(exC i rs cs).length=cs.length:=by unfold exC lgC;split<;>(try split)<;>simp
theorem ar_op {op k:Int} {ta tb t:Fxd} {x y:Int} (h:op=k+4) (hk:1≤k∧k≤4):arV op ta tb t x y=di k ta (ab ta x) tb (ab tb y) t∧arE op tb y=opE k tb (ab tb y):=by
  subst h
  have e:arE (k+4) tb y=opE k tb (ab tb y):=by
    unfold arE opE arN
    by_cases h:k=4∧ac tb (ab tb y)=0
    · rw[if_pos h,if_pos ⟨om,h.2⟩]
    · rw[if_neg h,if_neg (fun e=>h ⟨om,e.2⟩)]
  refine⟨?_,e⟩
  unfold arV di
  rw[if_neg om,if_neg om,if_neg om,if_neg om,e,show k+4-4=k by omega]
theorem unEq_symm {a b:Unt} (h:cj a b=true):cj b a=true:=er.2 (er.1 h).symm
theorem fits_typed {p:Prg} {i:Ins} (h:cN p i=true) (ht:ec i.gOp):tyOK p i.gOp i.gK=true∧cQ i.gOp (az (tyA p i.gOp i.gK)) (az (tyB p i.gOp i.gK)) (az (tyC p i.gOp i.gK))=true:=by
  unfold cN cm at h
  rw[if_neg om,if_neg om,if_neg om,if_neg om,if_pos ht] at h
  simp only[Bool.and_eq_true] at h
  exact h.2
theorem tyN_fix {p:Prg} {k:Int} (hv:p.av.all bF=true) (hl:p.av.length=p.am) (hk:0≤k) (h:k<(p.am:Int)):bF (tyN p k)=true:=(cI fx0).1 hv k.toNat om
theorem ar_facts {p:Prg} {i:Ins} (hv:bX p=true) (hl:p.av.length=p.am) (hf:cN p i=true) (ht:ec i.gOp) (hk:0≤i.gK) :
    bF (tyA p i.gOp i.gK)=true∧(i.gOp≠9∧i.gOp≠10→bF (tyB p i.gOp i.gK)=true)∧(i.gOp≠13∧i.gOp≠14→bF (tyC p i.gOp i.gK)=true)∧cQ i.gOp (az (tyA p i.gOp i.gK)) (az (tyB p i.gOp i.gK)) (az (tyC p i.gOp i.gK))=true:=by
  obtain ⟨hok,hu⟩:=fits_typed hf ht
  obtain ⟨e1,e2,e3⟩:=ty_yes hok
  have h:=dD.1 hok
  have ha:=(ci hv).2.1
  refine⟨by rw[e1];exact tyN_fix ha hl om om,fun h2=>?_,fun h3=>?_,hu⟩
  · rw[e2,if_pos h2];exact tyN_fix ha hl om om
  · rw[e3,if_pos h3];exact tyN_fix ha hl om om
theorem un_neg {op:Int} {a b t:Unt} (h:cQ op a b t=true) (ho:op=9∨op=10):cj a t=true:=by
  unfold cQ at h;rw[if_neg om,if_neg om,if_neg om,if_pos ho] at h;exact h
theorem un_cmp {op:Int} {a b t:Unt} (h:cQ op a b t=true) (ho:op=13∨op=14):cj a b=true:=by
  unfold cQ at h;rw[if_neg om,if_neg om,if_neg om,if_neg om] at h;exact h
theorem ar_less {op:Int} {ta tb t:Fxd} {x y:Int} (h:op=13):arV op ta tb t x y=dH (!decide (ac tb (ab tb y)*ta.aa≤ac ta (ab ta x)*tb.aa))∧arE op tb y=0:=by
  subst h;refine⟨?_,rfl⟩
  unfold arV dH arN
  rw[if_neg om,if_neg om,if_pos rfl]
  by_cases h:ac tb (ab tb y)*ta.aa≤ac ta (ab ta x)*tb.aa
  · rw[if_neg om,decide_eq_true h];rfl
  · rw[if_pos om,decide_eq_false h];rfl
theorem ar_eq {op:Int} {ta tb t:Fxd} {x y:Int} (h:op=14) {b:Bool} (hb:b=true↔ac tb (ab tb y)*ta.aa≤ac ta (ab ta x)*tb.aa∧ac ta (ab ta x)*tb.aa≤ac tb (ab tb y)*ta.aa):arV op ta tb t x y=dH b∧arE op tb y=0:=by
  subst h;refine⟨?_,rfl⟩
  unfold arV dH arN
  rw[if_neg om,if_neg om,if_neg om,if_pos rfl]
  by_cases h:ac ta (ab ta x)*tb.aa=ac tb (ab tb y)*ta.aa
  · rw[if_pos h,if_pos (hb.2 om)]
  · rw[if_neg h,if_neg (fun e=>h (by have:=hb.1 e;omega))]
theorem ar_neg {op:Int} {ta tb t:Fxd} {x y:Int} (h:op=9):arV op ta tb t x y=dk (ac ta (ab ta x)*(-1)) ta.aa t∧arE op tb y=0:=by subst h;exact⟨rfl,rfl⟩
theorem ar_conv {op:Int} {ta tb t:Fxd} {x y:Int} (h:op=10):arV op ta tb t x y=dk (ac ta (ab ta x)*1) ta.aa t∧arE op tb y=0:=by subst h;exact⟨rfl,rfl⟩
theorem eD (a b:Int):(a != b)= !decide (a=b):=rfl
theorem eE (a b:Int):(a==b)=decide (a=b):=rfl
theorem op_facts {p:Prg} {i:Ins} (h:cm p i=true):(i.gOp=2∨i.gOp=3→i.gK<p.ap)∧(i.gOp=20→i.gK<(p.br:Int))∧(i.gOp=21→i.gK<(p.bO:Int))∧(i.gOp=22→i.gK/32+1<p.ap):=by
  unfold cm at h
  refine⟨fun e=>?_,fun e=>?_,fun e=>?_,fun e=>?_⟩
  · rw[if_pos e] at h;exact of_decide_eq_true h
  · rw[if_neg om,if_pos e] at h;exact of_decide_eq_true h
  · rw[if_neg om,if_neg om,if_pos e] at h;exact of_decide_eq_true h
  · rw[if_neg om,if_neg om,if_neg om,if_pos e] at h;exact of_decide_eq_true h
def goodP (p:Prg) (n:Nat):Bool:=bX p&&decide ((n:Int)=p.ap)
theorem goodP_iff {p:Prg} {n:Nat}:goodP p n=true↔bX p=true∧(n:Int)=p.ap:=by unfold goodP;rw[Bool.and_eq_true,decide_eq_true_iff]
def codeI (p:Prg) (k:Int):Ins:=p.aB.getD k.toNat bq
def inC (p:Prg) (l xs:List Int):Nat→List Int
  | 0=>l
  | k+1=>(inC p l xs k).set (p.au.getD k 0).toNat (xs.getD k 0)
theorem inC_len (p:Prg) (l xs:List Int):∀ k,(inC p l xs k).length=l.length
  | 0=>rfl
  | k+1=>by rw[inC,List.length_set];exact inC_len p l xs k
def rnF (p:Prg) (rs cs:List Int):Nat→List Int×List Int
  | 0=>(rs,cs)
  | k+1=>(exR p (codeI p k) (rnF p rs cs k).1 (rnF p rs cs k).2,exC (codeI p k) (rnF p rs cs k).1 (rnF p rs cs k).2)
def rnE (p:Prg) (rs cs:List Int):Nat→Int
  | 0=>0
  | k+1=>if rnE p rs cs k=0 then exE p (codeI p k) (rnF p rs cs k).1 else rnE p rs cs k
theorem rnF_len (p:Prg) (rs cs:List Int):∀ k,(rnF p rs cs k).1.length=rs.length∧(rnF p rs cs k).2.length=cs.length
  | 0=>⟨rfl,rfl⟩
  | k+1=>⟨by rw[rnF,exR_len];exact(rnF_len p rs cs k).1,by rw[rnF,exC_len];exact(rnF_len p rs cs k).2⟩
theorem rnE_stop {p:Prg} {rs cs:List Int} {k:Nat} (h:rnE p rs cs k≠0):∀ n,k≤n→rnE p rs cs n=rnE p rs cs k
  | 0,hn=>by rw[show k=0 by omega]
  | n+1,hn=>by
    by_cases e:k=n+1
    · rw[e]
    · have ih:=rnE_stop h n om
      rw[rnE,ih,if_neg h]
abbrev zR:List Int:=List.replicate 16 0
def rgE (p:Prg) (n:Nat) (l xs:List Int):Int:=if goodP p n&&decide (xs.length=p.aq) then rnE p zR (inC p l xs p.aq) p.bl else 1
def rgS (p:Prg) (l xs:List Int):List Int×List Int:=rnF p zR (inC p l xs p.aq) p.bl
def outC (p:Prg) (cs:List Int) (k:Nat):List Int:=(p.aM.take k).map fun c=>cs.getD c.toNat 0
def runR (p:Prg) (n:Nat) (l xs:List Int):List Int:=if rgE p n l xs=0 then (rgS p l xs).1 else zR
def dI (p:Prg) (n:Nat) (l xs:List Int):List Int:=if rgE p n l xs=0 then (rgS p l xs).2 else []
def ck (p:Prg) (n:Nat) (l xs:List Int):List Int:=if rgE p n l xs=0 then outC p (rgS p l xs).2 p.aL else []
theorem run_bad {p:Prg} {n:Nat} {l xs:List Int} {e:Int} (h:rgE p n l xs=e) (he:e≠0):runR p n l xs=zR∧dI p n l xs=[]∧ck p n l xs=[]:=by
  unfold runR dI ck;rw[h,if_neg he,if_neg he,if_neg he];exact⟨rfl,rfl,rfl⟩
theorem run_ok {p:Prg} {n:Nat} {l xs:List Int} (h:rgE p n l xs=0):runR p n l xs=(rgS p l xs).1∧dI p n l xs=(rgS p l xs).2∧ck p n l xs=outC p (rgS p l xs).2 p.aL:=by
  unfold runR dI ck;rw[h];exact⟨rfl,rfl,rfl⟩

theorem hb135:af prog 135:=fun _ _=>by kernel_rfl

theorem fvalue_any (x:Int) (w:World):Ret prog 135 #[iv x] w (fun v w'=>v=.bool (decide (-1099511627776≤x∧x≤1099511627776))∧Sep w [] w'):=by
 refine Ret.st (N:=9) func135 fun R hR S0=>J.c 9 [] [] [] 5 (x≥(-1099511627776)) (fun fk1=>?_) fun fk1=>?_
 refine J.e 5 [.bool (decide (x≤1099511627776))] func135 (hR _ _ ?_)
 exact⟨congrArg Value.bool (by rw[Bool.eq_iff_iff];simp;omega),S0.nil⟩
 refine J.e 5 [.bool false] func135 (hR _ _ ?_)
 exact⟨congrArg Value.bool (by rw[Bool.eq_iff_iff];simp;omega),S0.nil⟩

theorem hb98:af prog 98:=fun _ _=>by kernel_rfl

theorem flag_any (y r x sh:Int) (w:World) (hs:0≤sh∧sh≤20) (hx: -1099511627776≤x∧x≤1099511627776):Ret prog 98 #[.agg #[iv y,iv r],iv x,iv sh] w (fun v w'=>v=.tuple #[.agg #[iv (lagP y r x sh),iv (lagQ y r x sh)],iv (lagE y r sh)]∧Sep w [] w'):=by
 refine Ret.st (N:=61) func98 fun R hR S0=>?_
 have hpw:=pow_bd (k:=sh.toNat) om
 have hbd:0≤r→r<2^sh.toNat→ -1099511627776≤y∧y≤1099511627776→_:=fun h1_ h2_ h3_=>lag_bd (n:=x-y+r) (k:=sh.toNat) (by have:=pow_20 sh hs;omega)
 have hp20:=pow_20 sh hs
 refine J.nw 2 [] [] [] S0 3 [iv y,iv r] 114 fun b1 w1 S1=>J.nw 0 [] [] [] S1 6 [iv 0,iv 0] 114 fun b2 w2 S2=>?_
 have fk2:¬ (sh<0):=by omega
 refine J.h 9 [] [] [] 13 (.bool (decide (sh<0))) (.bool false) (congrArg Value.bool (decide_eq_false fk2)) ?_
 have fk4:¬ (sh>20):=by omega
 refine J.h 5 [] [] [] 10 (.bool (decide (sh>20))) (.bool false) (congrArg Value.bool (decide_eq_false fk4))<|J.r 2 [false] [] [] ?_
 rcases Bool.eq_false_or_eq_true (decide (-1099511627776≤y∧y≤1099511627776)) with fk5 | fk5
 have fb1:=of_decide_eq_true fk5
 by_cases fk6:r<0
 refine J.drawPlan (fun w_=>Sep w [box b2 [iv 0,iv 0] 114,box b1 [iv y,iv r] 114] w_) [(0,true),(1,true),(2,false),(3,true),(4,true),(5,true),(6,true),(7,true),(8,true),(9,true),(10,true),(11,true),(12,true),(13,true),(14,true),(15,true),(16,true)] S2 Tryz.mixed kr (aE (T:=[(0,some 19,8),(1,some 20,524288),(2,some 21,1048576),(4,some 22,2097152),(12,some 23,4194304),(16,some 24,8388616),(48,some 25,25165824),(80,some 26,41943040),(144,some 27,75497472),(272,some 28,134217728),(512,some 29,268435464),(1536,some 30,805306368),(512,some 31,268435460),(4608,some 32,2415919104),(10752,some 33,5637144576),(16896,some 34,8858370048),(33280,some 18,17179869184)]) kr kr) ?_
 intro w3 S3
 refine PB.mk S3<|PL.take 0 19 (pv b1) (fun _ _=>kr)<|PL.takeOK 1 (fun w_ S_=>OK.ldBox S_ 1 20 3 0 (iv y) kr rfl kr) rfl<|PL.callF 21 135 #[iv y] hb135 kr (fvalue_any y _) ?_
 rintro _ w4 ⟨rfl,T1⟩
 have S4:Sep w [box b2 [iv 0,iv 0] 114,box b1 [iv y,iv r] 114] w4:=S3.trans T1
 clear T1 S3
 refine PB.head (.bool true) (congrArg Value.bool fk5)<|PB.mk S4<|PL.take 3 22 (.bool false) (fun _ _=>kr)<|PL.take 4 23 (.bool false) (fun _ _=>kr)<|PL.take 5 24 (.pointer (some ⟨b1,1,none⟩)) (fun _ _=>kr)<|PL.takeOK 6 (fun w_ S_=>OK.ldBox S_ 1 25 3 1 (iv r) kr rfl kr) rfl<|PL.take 7 26 (.bool (decide (r<0))) (fun _ _=>kr)<|PL.head (.bool true) (congrArg Value.bool (decide_eq_true fk6))<|PL.take 8 27 (.bool true) (fun _ _=>kr)<|PL.take 9 28 (.bool true) (fun _ _=>kr)<|PL.takePass 10 (some 29) kr ?_
 refine PL.takePass 11 (some 30) kr<|PL.takePass 12 (some 31) kr<|PL.takePass 13 (some 32) kr<|PL.takePass 14 (some 33) kr<|PL.take 15 34 (.bool true) (fun _ _=>kr)<|PL.take 16 18 (.bool true) (fun _ _=>kr)<|PL.done<|J.sb 4 [true] [] [] S4 0 rfl [iv 0,iv 0] rfl fun w5 S5=>J.ez 2 [.agg #[iv 0,iv 0],iv 1] func98 (bk (S5.nth 0 rfl) bn) (hR _ _ ?_)
 obtain ⟨e1,e2,e3⟩:=lag_no (x:=x) (lagB_no (y:=y) (r:=r) (sh:=sh) om)
 exact⟨by rw[e1,e2,e3];rfl,S5.nil⟩
 refine J.drawPlan (fun w_=>Sep w [box b2 [iv 0,iv 0] 114,box b1 [iv y,iv r] 114] w_) [(0,true),(1,true),(2,false),(3,true),(4,true),(5,true),(6,true),(7,true),(8,true),(9,true),(10,true),(11,true),(12,true),(13,true),(14,true),(15,true),(16,true)] S2 Tryz.mixed kr (aE (T:=[(0,some 19,8),(1,some 20,524288),(2,some 21,1048576),(4,some 22,2097152),(12,some 23,4194304),(16,some 24,8388616),(48,some 25,25165824),(80,some 26,41943040),(144,some 27,75497472),(272,some 28,134217728),(512,some 29,268435464),(1536,some 30,805306368),(512,some 31,268435460),(4608,some 32,2415919104),(10752,some 33,5637144576),(16896,some 34,8858370048),(33280,some 18,17179869184)]) kr kr) ?_
 intro w6 S6
 refine PB.mk S6<|PL.take 0 19 (pv b1) (fun _ _=>kr)<|PL.takeOK 1 (fun w_ S_=>OK.ldBox S_ 1 20 3 0 (iv y) kr rfl kr) rfl<|PL.callF 21 135 #[iv y] hb135 kr (fvalue_any y _) ?_
 rintro _ w7 ⟨rfl,T2⟩
 have S7:Sep w [box b2 [iv 0,iv 0] 114,box b1 [iv y,iv r] 114] w7:=S6.trans T2
 clear T2 S6
 refine PB.head (.bool true) (congrArg Value.bool fk5)<|PB.mk S7<|PL.take 3 22 (.bool false) (fun _ _=>kr)<|PL.take 4 23 (.bool false) (fun _ _=>kr)<|PL.take 5 24 (.pointer (some ⟨b1,1,none⟩)) (fun _ _=>kr)<|PL.takeOK 6 (fun w_ S_=>OK.ldBox S_ 1 25 3 1 (iv r) kr rfl kr) rfl<|PL.take 7 26 (.bool (decide (r<0))) (fun _ _=>kr)<|PL.head (.bool false) (congrArg Value.bool (decide_eq_false fk6))<|PL.take 8 27 (.bool false) (fun _ _=>kr)<|PL.take 9 28 (.bool false) (fun _ _=>kr)<|PL.take 10 29 (.pointer (some ⟨b1,1,none⟩)) (fun _ _=>kr) ?_
 refine PL.takeOK 11 (fun w_ S_=>OK.ldBox S_ 1 30 3 1 (iv r) kr rfl kr) rfl<|PL.take 12 31 (iv sh) (fun _ _=>kr)<|PL.takeOK 13 (fun w_ S_=>OK.shl 32 .i64 1 sh (2^(sh).toNat) kr om ((by rw[lim_shl om om,Int.one_mul]))) rfl<|PL.take 14 33 (.bool (decide (r≥(2^(sh).toNat)))) (fun _ _=>kr)<|PL.take 15 34 (.bool (decide (r≥(2^(sh).toNat)))) (fun _ _=>kr)<|PL.take 16 18 (.bool (decide (r≥(2^(sh).toNat)))) (fun _ _=>kr)<|PL.done<|J.c 0 [] [] [] 18 (r≥(2^(sh).toNat)) (fun fk7=>?_) fun fk7=>?_
 refine J.sb 4 [true] [] [] S7 0 rfl [iv 0,iv 0] rfl fun w8 S8=>J.ez 2 [.agg #[iv 0,iv 0],iv 1] func98 (bk (S8.nth 0 rfl) bn) (hR _ _ ?_)
 obtain ⟨e1,e2,e3⟩:=lag_no (x:=x) (lagB_no (y:=y) (r:=r) (sh:=sh) om)
 exact⟨by rw[e1,e2,e3];rfl,S8.nil⟩
 have hlb:=hbd om om om
 refine J.c0 4 [false] [] [] S7 38 hb135 (fvalue_any x _) fun w9 S9=>?_
 have fk9:(decide (-1099511627776≤x∧x≤1099511627776))=true:=decide_eq_true hx
 refine J.h 3 [] [] [] 36 (.bool (!(decide (-1099511627776≤x∧x≤1099511627776)))) (.bool false) (congrArg Value.bool (by rw[fk9];rfl))<|J.lb 7 [false] [(41,iv x)] [] S9 1 rfl 43 (iv y)<|J.wi 1 [] [] [] 44 (x-y)<|J.lb 1 [] [] [] S9 1 rfl 46 (iv r)<|J.wi 1 [] [] [] 47 ((x-y)+r)<|J.r 6 [] [(49,iv sh),(48,iv ((x-y)+r)),(8,iv ((x-y)+r))] []<|J.ok (OK.shr 50 .i64 ((x-y)+r) sh (((x-y)+r)/2^(sh).toNat) kr om ((shr_p om)))<|J.r 3 [] [(9,iv (((x-y)+r)/2^(sh).toNat))] []<|J.drawTail S9 10 Tryz.mixed kr kr ?_
 intro w10 S10
 refine SL.r 51 (pv b1)<|SL.lb S10 1 rfl 52 (iv y)<|SL.r 53 (iv (((x-y)+r)/2^(sh).toNat))<|SL.r 54 (iv (IntKind.wrap .i64 (y+(((x-y)+r)/2^(sh).toNat))))<|SL.head (iv (y+(((x-y)+r)/2^(sh).toNat))) (congrArg (Value.int .i64) (IntWalk.i64_in _ om))<|SL.r 55 (iv ((x-y)+r))<|SL.r 56 (iv (((x-y)+r)/2^(sh).toNat))<|SL.r 57 (iv sh)<|SL.ok dE (OK.shl 58 .i64 (((x-y)+r)/2^(sh).toNat) sh ((((x-y)+r)/2^(sh).toNat)*2^(sh).toNat) kr om ((shl_p om om)))<|SL.r 59 (iv (IntKind.wrap .i64 (((x-y)+r)-((((x-y)+r)/2^(sh).toNat)*2^(sh).toNat))))<|SL.head (iv (((x-y)+r)-((((x-y)+r)/2^(sh).toNat)*2^(sh).toNat))) (congrArg (Value.int .i64) (IntWalk.i64_in _ om)) ?_
 refine SL.r 60 (.agg #[iv (y+(((x-y)+r)/2^(sh).toNat)),iv (((x-y)+r)-((((x-y)+r)/2^(sh).toNat)*2^(sh).toNat))])<|SL.done<|TL.stBox S10 0 114 0 (.agg #[iv (y+(((x-y)+r)/2^(sh).toNat)),iv (((x-y)+r)-((((x-y)+r)/2^(sh).toNat)*2^(sh).toNat))]) [iv (y+(((x-y)+r)/2^(sh).toNat)),iv (((x-y)+r)-((((x-y)+r)/2^(sh).toNat)*2^(sh).toNat))] [box b2 [iv (y+(((x-y)+r)/2^(sh).toNat)),iv (((x-y)+r)-((((x-y)+r)/2^(sh).toNat)*2^(sh).toNat))] 114,box b1 [iv y,iv r] 114] kr rfl kr kr rfl ?_
 intro w11 S11
 refine TL.r 7 (iv 0)<|TL.done kr<|J.ez 0 [.agg #[iv (y+(((x-y)+r)/2^(sh).toNat)),iv (((x-y)+r)-((((x-y)+r)/2^(sh).toNat)*2^(sh).toNat))],iv 0] func98 (bk (S11.nth 0 rfl) bn) (hR _ _ ?_)
 obtain ⟨e1,e2,e3⟩:=lag_yes (x:=x) (lagB_yes (y:=y) (r:=r) (sh:=sh) om om om)
 exact⟨by rw[e1,e2,e3];rfl,S11.nil⟩
 have fb3:=of_decide_eq_false fk5
 refine J.drawPlan (fun w_=>Sep w [box b2 [iv 0,iv 0] 114,box b1 [iv y,iv r] 114] w_) [(0,true),(1,true),(2,false),(3,true),(4,true),(5,true),(6,true),(7,true),(8,true),(9,true),(10,true),(11,true),(12,true),(13,true),(14,true),(15,true),(16,true)] S2 Tryz.mixed kr (aE (T:=[(0,some 19,8),(1,some 20,524288),(2,some 21,1048576),(4,some 22,2097152),(12,some 23,4194304),(16,some 24,8388616),(48,some 25,25165824),(80,some 26,41943040),(144,some 27,75497472),(272,some 28,134217728),(512,some 29,268435464),(1536,some 30,805306368),(512,some 31,268435460),(4608,some 32,2415919104),(10752,some 33,5637144576),(16896,some 34,8858370048),(33280,some 18,17179869184)]) kr kr) ?_
 intro w12 S12
 refine PB.mk S12<|PL.take 0 19 (pv b1) (fun _ _=>kr)<|PL.takeOK 1 (fun w_ S_=>OK.ldBox S_ 1 20 3 0 (iv y) kr rfl kr) rfl<|PL.callF 21 135 #[iv y] hb135 kr (fvalue_any y _) ?_
 rintro _ w13 ⟨rfl,T3⟩
 have S13:Sep w [box b2 [iv 0,iv 0] 114,box b1 [iv y,iv r] 114] w13:=S12.trans T3
 clear T3 S12
 refine PB.head (.bool false) (congrArg Value.bool fk5)<|PB.mk S13<|PL.take 3 22 (.bool true) (fun _ _=>kr)<|PL.take 4 23 (.bool true) (fun _ _=>kr)<|PL.takePass 5 (some 24) kr<|PL.takePass 6 (some 25) kr<|PL.takePass 7 (some 26) kr<|PL.take 8 27 (.bool true) (fun _ _=>kr)<|PL.take 9 28 (.bool true) (fun _ _=>kr)<|PL.takePass 10 (some 29) kr<|PL.takePass 11 (some 30) kr ?_
 refine PL.takePass 12 (some 31) kr<|PL.takePass 13 (some 32) kr<|PL.takePass 14 (some 33) kr<|PL.take 15 34 (.bool true) (fun _ _=>kr)<|PL.take 16 18 (.bool true) (fun _ _=>kr)<|PL.done<|J.sb 4 [true] [] [] S13 0 rfl [iv 0,iv 0] rfl fun w14 S14=>J.ez 2 [.agg #[iv 0,iv 0],iv 1] func98 (bk (S14.nth 0 rfl) bn) (hR _ _ ?_)
 obtain ⟨e1,e2,e3⟩:=lag_no (x:=x) (lagB_no (y:=y) (r:=r) (sh:=sh) om)
 exact⟨by rw[e1,e2,e3];rfl,S14.nil⟩

theorem hb61:af prog 61:=fun _ _=>by kernel_rfl

theorem el (b:Bool) (w:World):Ret prog 61 #[.bool b] w (fun v w'=>v=iv (dH b)∧Sep w [] w'):=by
 refine Ret.st (N:=4) func61 fun R hR S0=>J.b 9 [] [] [] 3 b (fun fk1=>?_) fun fk1=>?_
 refine J.e 5 [iv 1] func61 (hR _ _ ?_)
 exact⟨congrArg (Value.int .i64) (by unfold dH;rw[fk1];rfl),S0.nil⟩
 refine J.e 6 [iv 0] func61 (hR _ _ ?_)
 exact⟨congrArg (Value.int .i64) (by unfold dH;rw[fk1];rfl),S0.nil⟩

theorem hb99:af prog 99:=fun _ _=>by kernel_rfl

theorem mvalue_any (t:Fxd) (x:Int) (w:World) (ht:cA w t):Ret prog 99 #[.agg (aI t),iv x] w (fun v w'=>v=.agg (vlA t (ab t x))∧Sep w [] w'):=by
 refine Ret.st (N:=19) func99 fun R hR S0=>?_
 obtain ⟨q1,q2,q3,q4,q5,q6,q7,q8,q9,_⟩:=id ht
 refine J.nw 2 [] [] [] S0 2 (aN t) 54 fun b1 w1 S1=>J.nw 0 [] [] [] S1 4 [iv 0,.bool false,iv 0,iv 0,iv 0,iv 0,iv 0,iv 0,iv 0,iv 0,iv 0] 102 fun b2 w2 S2=>J.lb 3 [] [] [] S2 1 rfl 8 (.agg (aI t))<|J.c0 0 [] [] [] S2 9 hb136 (lim_any t _ (aw ht S2)) fun w3 S3=>?_
 have hlim:=lim_bd (t)
 refine J.lb 8 [] [(6,iv (bR t)),(5,iv (bN t))] [] S3 1 rfl 12 (.agg (aI t))<|J.h 3 [] [] [] 15 (iv (if (bN t)>x then (bN t) else x)) (iv (max x (bN t))) (congrArg (Value.int .i64) om)<|J.h 2 [] [] [] 17 (iv (if (bR t)<(max x (bN t)) then (bR t) else (max x (bN t)))) (iv (min (max x (bN t)) (bR t))) (congrArg (Value.int .i64) om)<|J.sb 1 [] [] [] S3 0 rfl (vlL t (min (max x (bN t)) (bR t))) rfl fun w4 S4=>J.ez 1 [.agg (vlA t (min (max x (bN t)) (bR t)))] func99 (bk (S4.nth 0 rfl) bn) (hR _ _ ?_)
 exact⟨rfl,S4.nil⟩
theorem hb65:af prog 65:=fun _ _=>by kernel_rfl

theorem arith_any (p:Prg) (i:Ins) (x y:Int) (w:World) (hp:prgQ w p) (hi:insQ w i) (hv:bX p=true) (hf:cN p i=true) (htp:ec i.gOp):Ret prog 65 #[.agg (dq p),.agg (dP i),iv x,iv y] w (fun v w'=>v=.tuple #[iv (arV i.gOp (tyA p i.gOp i.gK) (tyB p i.gOp i.gK) (tyC p i.gOp i.gK) x y),iv (arE i.gOp (tyB p i.gOp i.gK) y)]∧Sep w [] w'):=by
 refine Ret.st (N:=119) func65 fun R hR S0=>?_
 obtain ⟨q1,q2,q3,q4,q5,q6,q7,q8,q9,q10,q11,q12,q13,q14,q15,q16,q17,q18,q19,q20,q21,q22,q23,q24,q25,_⟩:=id hp
 have ql1:=q2.len_eq
 have ql2:=q5.len_eq
 have ql3:=q8.len_eq
 have ql4:=q11.len_eq
 have ql5:=q15.len_eq
 have ql6:=q18.len_eq
 have ql7:=q21.len_eq
 have ql8:=q24.len_eq
 obtain ⟨q26,q27,q28,q29,q30,_⟩:=id hi
 have hfp:=formB_iff.1 (fits_form hf).1
 have hlt:p.av.length=p.am:=by omega
 obtain ⟨hfa,hfb,hfc,hun⟩:=ar_facts hv hlt hf htp om
 refine J.nw 2 [] [] [] S0 4 (aO p) 28 fun b1 w1 S1=>J.nw 0 [] [] [] S1 5 (aZ i) 64 fun b2 w2 S2=>J.lb 5 [] [] [] S2 1 rfl 23 (.agg (dq p))<|J.lb 0 [] [] [] S2 0 rfl 24 (.agg (dP i))<|J.c0 0 [] [] [] S2 25 hb93 (types_any p i _ (cS hp S2) (dF hi S2) om) fun w3 S3=>?_
 obtain ⟨hty1a,hty1b,hty1c⟩:=ty_q (w:=w) (op:=(i).gOp) (k:=(i).gK) q6
 refine J.nw 5 [] [(29,.bool (tyOK p (i).gOp (i).gK)),(28,.agg (aI (tyC p (i).gOp (i).gK))),(27,.agg (aI (tyB p (i).gOp (i).gK))),(26,.agg (aI (tyA p (i).gOp (i).gK)))] [] S3 10 [iv 0,.bool false,iv 0,iv 0,iv 0,iv 0,iv 0,iv 0,iv 0,iv 0] 54 fun b3 w4 S4=>J.nw 0 [] [] [] S4 11 [iv 0,.bool false,iv 0,iv 0,iv 0,iv 0,iv 0,iv 0,iv 0,iv 0] 54 fun b4 w5 S5=>J.nw 0 [] [] [] S5 12 [iv 0,.bool false,iv 0,iv 0,iv 0,iv 0,iv 0,iv 0,iv 0,iv 0] 54 fun b5 w6 S6=>J.sb 0 [] [] [] S6 2 rfl (aN (tyA p (i).gOp (i).gK)) rfl fun w7 S7=>J.sb 0 [] [] [] S7 1 rfl (aN (tyB p (i).gOp (i).gK)) rfl fun w8 S8=>J.sb 0 [] [] [] S8 0 rfl (aN (tyC p (i).gOp (i).gK)) rfl fun w9 S9=>J.lb 4 [] [] [] S9 2 rfl 30 (.agg (aI (tyA p (i).gOp (i).gK)))<|J.c0 1 [] [] [] S9 32 hb99 (mvalue_any (tyA p (i).gOp (i).gK) x _ (aw hty1a S9)) fun w10 S10=>J.nw 0 [] [] [] S10 14 [iv 0,.bool false,iv 0,iv 0,iv 0,iv 0,iv 0,iv 0,iv 0,iv 0,iv 0] 102 fun b6 w11 S11=>J.sb 0 [] [] [] S11 0 rfl (vlL (tyA p (i).gOp (i).gK) (ab (tyA p (i).gOp (i).gK) x)) rfl fun w12 S12=>J.nw 3 [] [] [] S12 15 [iv 0,.bool false,iv 0,iv 0,iv 0,iv 0,iv 0,iv 0,iv 0,iv 0,iv 0] 102 fun b7 w13 S13=>?_
 refine J.lb 9 [] [] [] S13 5 rfl 34 (iv i.gOp)<|J.c 7 [] [] [] 100 (i.gOp=9) (fun fk1=>?_) fun fk1=>?_
 refine J.lb 2 [true] [] [] S13 1 rfl 103 (.agg (vlA (tyA p (i).gOp (i).gK) (ab (tyA p (i).gOp (i).gK) x)))<|J.lb 0 [] [] [] S13 2 rfl 104 (.agg (aI (tyC p (i).gOp (i).gK)))<|J.c0 0 [] [] [] S13 105 hb100 (fneg_any (tyA p (i).gOp (i).gK) (ab (tyA p (i).gOp (i).gK) x) (tyC p (i).gOp (i).gK) _ (aw hty1a S13) hfa (bw _ _) (aw hty1c S13) (hfc om) (un_neg hun om)) fun w14 S14=>J.sb 3 [] [(107,iv 0)] [] S14 0 rfl (vlL (tyC p (i).gOp (i).gK) (dk (ac (tyA p (i).gOp (i).gK) (ab (tyA p (i).gOp (i).gK) x)*(-1)) (tyA p (i).gOp (i).gK).aa (tyC p (i).gOp (i).gK))) rfl fun w15 S15=>J.lb 6 [] [(16,iv 0)] [] S15 0 rfl 117 (iv (dk (ac (tyA p (i).gOp (i).gK) (ab (tyA p (i).gOp (i).gK) x)*(-1)) (tyA p (i).gOp (i).gK).aa (tyC p (i).gOp (i).gK)))<|J.e 4 [iv (dk (ac (tyA p (i).gOp (i).gK) (ab (tyA p (i).gOp (i).gK) x)*(-1)) (tyA p (i).gOp (i).gK).aa (tyC p (i).gOp (i).gK)),iv 0] func65 (hR _ _ ?_)
 have e0:arV i.gOp (tyA p i.gOp i.gK) (tyB p i.gOp i.gK) (tyC p i.gOp i.gK) x y=dk (ac (tyA p (i).gOp (i).gK) (ab (tyA p (i).gOp (i).gK) x)*(-1)) (tyA p (i).gOp (i).gK).aa (tyC p (i).gOp (i).gK)∧arE i.gOp (tyB p i.gOp i.gK) y=0:=ar_neg om
 exact⟨by rw[e0.1,e0.2];rfl,S15.nil⟩
 refine J.c 6 [false] [] [] 108 (i.gOp=10) (fun fk2=>?_) fun fk2=>?_
 refine J.lb 2 [true] [] [] S13 1 rfl 111 (.agg (vlA (tyA p (i).gOp (i).gK) (ab (tyA p (i).gOp (i).gK) x)))<|J.lb 0 [] [] [] S13 2 rfl 112 (.agg (aI (tyC p (i).gOp (i).gK)))<|J.c0 0 [] [] [] S13 113 hb101 (fconv_any (tyA p (i).gOp (i).gK) (ab (tyA p (i).gOp (i).gK) x) (tyC p (i).gOp (i).gK) _ (aw hty1a S13) hfa (bw _ _) (aw hty1c S13) (hfc om) (un_neg hun om)) fun w16 S16=>J.sb 3 [] [(115,iv 0)] [] S16 0 rfl (vlL (tyC p (i).gOp (i).gK) (dk (ac (tyA p (i).gOp (i).gK) (ab (tyA p (i).gOp (i).gK) x)*1) (tyA p (i).gOp (i).gK).aa (tyC p (i).gOp (i).gK))) rfl fun w17 S17=>J.lb 6 [] [(16,iv 0)] [] S17 0 rfl 117 (iv (dk (ac (tyA p (i).gOp (i).gK) (ab (tyA p (i).gOp (i).gK) x)*1) (tyA p (i).gOp (i).gK).aa (tyC p (i).gOp (i).gK)))<|J.e 4 [iv (dk (ac (tyA p (i).gOp (i).gK) (ab (tyA p (i).gOp (i).gK) x)*1) (tyA p (i).gOp (i).gK).aa (tyC p (i).gOp (i).gK)),iv 0] func65 (hR _ _ ?_)
 have e0:arV i.gOp (tyA p i.gOp i.gK) (tyB p i.gOp i.gK) (tyC p i.gOp i.gK) x y=dk (ac (tyA p (i).gOp (i).gK) (ab (tyA p (i).gOp (i).gK) x)*1) (tyA p (i).gOp (i).gK).aa (tyC p (i).gOp (i).gK)∧arE i.gOp (tyB p i.gOp i.gK) y=0:=ar_conv om
 exact⟨by rw[e0.1,e0.2];rfl,S17.nil⟩
 refine J.lb 3 [false] [] [] S13 3 rfl 35 (.agg (aI (tyB p (i).gOp (i).gK)))<|J.c0 1 [] [] [] S13 37 hb99 (mvalue_any (tyB p (i).gOp (i).gK) y _ (aw hty1b S13)) fun w18 S18=>J.nw 0 [] [] [] S18 17 [iv 0,.bool false,iv 0,iv 0,iv 0,iv 0,iv 0,iv 0,iv 0,iv 0,iv 0] 102 fun b8 w19 S19=>J.sb 0 [] [] [] S19 0 rfl (vlL (tyB p (i).gOp (i).gK) (ab (tyB p (i).gOp (i).gK) y)) rfl fun w20 S20=>J.lb 4 [] [] [] S20 6 rfl 39 (iv i.gOp)<|J.c 7 [] [] [] 64 (i.gOp=5) (fun fk3=>?_) fun fk3=>?_
 refine J.lb 2 [true] [] [] S20 2 rfl 67 (.agg (vlA (tyA p (i).gOp (i).gK) (ab (tyA p (i).gOp (i).gK) x)))<|J.lb 0 [] [] [] S20 0 rfl 68 (.agg (vlA (tyB p (i).gOp (i).gK) (ab (tyB p (i).gOp (i).gK) y)))<|J.lb 0 [] [] [] S20 3 rfl 69 (.agg (aI (tyC p (i).gOp (i).gK)))<|J.c0 0 [] [] [] S20 70 hb102 (fop1_any (tyA p (i).gOp (i).gK) (ab (tyA p (i).gOp (i).gK) x) (tyB p (i).gOp (i).gK) (ab (tyB p (i).gOp (i).gK) y) (tyC p (i).gOp (i).gK) _ (aw hty1a S20) hfa (bw _ _) (aw hty1b S20) (hfb om) (bw _ _) (aw hty1c S20) (hfc om) (by have h_:=fit_of hun om;rwa [show i.gOp-4=1 by omega] at h_)) fun w21 S21=>J.sb 3 [] [(72,iv (opE 1 (tyB p (i).gOp (i).gK) (ab (tyB p (i).gOp (i).gK) y)))] [] S21 1 rfl (vlL (es 1 (tyB p (i).gOp (i).gK) (ab (tyB p (i).gOp (i).gK) y) (tyC p (i).gOp (i).gK)) (di 1 (tyA p (i).gOp (i).gK) (ab (tyA p (i).gOp (i).gK) x) (tyB p (i).gOp (i).gK) (ab (tyB p (i).gOp (i).gK) y) (tyC p (i).gOp (i).gK))) rfl fun w22 S22=>J.lb 7 [] [(16,iv (opE 1 (tyB p (i).gOp (i).gK) (ab (tyB p (i).gOp (i).gK) y)))] [] S22 1 rfl 117 (iv (di 1 (tyA p (i).gOp (i).gK) (ab (tyA p (i).gOp (i).gK) x) (tyB p (i).gOp (i).gK) (ab (tyB p (i).gOp (i).gK) y) (tyC p (i).gOp (i).gK)))<|J.e 4 [iv (di 1 (tyA p (i).gOp (i).gK) (ab (tyA p (i).gOp (i).gK) x) (tyB p (i).gOp (i).gK) (ab (tyB p (i).gOp (i).gK) y) (tyC p (i).gOp (i).gK)),iv (opE 1 (tyB p (i).gOp (i).gK) (ab (tyB p (i).gOp (i).gK) y))] func65 (hR _ _ ?_)
 have e0:arV i.gOp (tyA p i.gOp i.gK) (tyB p i.gOp i.gK) (tyC p i.gOp i.gK) x y=di 1 (tyA p (i).gOp (i).gK) (ab (tyA p (i).gOp (i).gK) x) (tyB p (i).gOp (i).gK) (ab (tyB p (i).gOp (i).gK) y) (tyC p (i).gOp (i).gK)∧arE i.gOp (tyB p i.gOp i.gK) y=opE 1 (tyB p (i).gOp (i).gK) (ab (tyB p (i).gOp (i).gK) y):=ar_op (k:=1) om om
 exact⟨by rw[e0.1,e0.2];rfl,S22.nil⟩
 refine J.c 6 [false] [] [] 73 (i.gOp=6) (fun fk4=>?_) fun fk4=>?_
 refine J.lb 2 [true] [] [] S20 2 rfl 76 (.agg (vlA (tyA p (i).gOp (i).gK) (ab (tyA p (i).gOp (i).gK) x)))<|J.lb 0 [] [] [] S20 0 rfl 77 (.agg (vlA (tyB p (i).gOp (i).gK) (ab (tyB p (i).gOp (i).gK) y)))<|J.lb 0 [] [] [] S20 3 rfl 78 (.agg (aI (tyC p (i).gOp (i).gK)))<|J.c0 0 [] [] [] S20 79 hb103 (fop2_any (tyA p (i).gOp (i).gK) (ab (tyA p (i).gOp (i).gK) x) (tyB p (i).gOp (i).gK) (ab (tyB p (i).gOp (i).gK) y) (tyC p (i).gOp (i).gK) _ (aw hty1a S20) hfa (bw _ _) (aw hty1b S20) (hfb om) (bw _ _) (aw hty1c S20) (hfc om) (by have h_:=fit_of hun om;rwa [show i.gOp-4=2 by omega] at h_)) fun w23 S23=>J.sb 3 [] [(81,iv (opE 2 (tyB p (i).gOp (i).gK) (ab (tyB p (i).gOp (i).gK) y)))] [] S23 1 rfl (vlL (es 2 (tyB p (i).gOp (i).gK) (ab (tyB p (i).gOp (i).gK) y) (tyC p (i).gOp (i).gK)) (di 2 (tyA p (i).gOp (i).gK) (ab (tyA p (i).gOp (i).gK) x) (tyB p (i).gOp (i).gK) (ab (tyB p (i).gOp (i).gK) y) (tyC p (i).gOp (i).gK))) rfl fun w24 S24=>J.lb 7 [] [(16,iv (opE 2 (tyB p (i).gOp (i).gK) (ab (tyB p (i).gOp (i).gK) y)))] [] S24 1 rfl 117 (iv (di 2 (tyA p (i).gOp (i).gK) (ab (tyA p (i).gOp (i).gK) x) (tyB p (i).gOp (i).gK) (ab (tyB p (i).gOp (i).gK) y) (tyC p (i).gOp (i).gK)))<|J.e 4 [iv (di 2 (tyA p (i).gOp (i).gK) (ab (tyA p (i).gOp (i).gK) x) (tyB p (i).gOp (i).gK) (ab (tyB p (i).gOp (i).gK) y) (tyC p (i).gOp (i).gK)),iv (opE 2 (tyB p (i).gOp (i).gK) (ab (tyB p (i).gOp (i).gK) y))] func65 (hR _ _ ?_)
 have e0:arV i.gOp (tyA p i.gOp i.gK) (tyB p i.gOp i.gK) (tyC p i.gOp i.gK) x y=di 2 (tyA p (i).gOp (i).gK) (ab (tyA p (i).gOp (i).gK) x) (tyB p (i).gOp (i).gK) (ab (tyB p (i).gOp (i).gK) y) (tyC p (i).gOp (i).gK)∧arE i.gOp (tyB p i.gOp i.gK) y=opE 2 (tyB p (i).gOp (i).gK) (ab (tyB p (i).gOp (i).gK) y):=ar_op (k:=2) om om
 exact⟨by rw[e0.1,e0.2];rfl,S24.nil⟩
 refine J.c 6 [false] [] [] 82 (i.gOp=7) (fun fk5=>?_) fun fk5=>?_
 refine J.lb 2 [true] [] [] S20 2 rfl 85 (.agg (vlA (tyA p (i).gOp (i).gK) (ab (tyA p (i).gOp (i).gK) x)))<|J.lb 0 [] [] [] S20 0 rfl 86 (.agg (vlA (tyB p (i).gOp (i).gK) (ab (tyB p (i).gOp (i).gK) y)))<|J.lb 0 [] [] [] S20 3 rfl 87 (.agg (aI (tyC p (i).gOp (i).gK)))<|J.c0 0 [] [] [] S20 88 hb104 (fop3_any (tyA p (i).gOp (i).gK) (ab (tyA p (i).gOp (i).gK) x) (tyB p (i).gOp (i).gK) (ab (tyB p (i).gOp (i).gK) y) (tyC p (i).gOp (i).gK) _ (aw hty1a S20) hfa (bw _ _) (aw hty1b S20) (hfb om) (bw _ _) (aw hty1c S20) (hfc om) (by have h_:=fit_of hun om;rwa [show i.gOp-4=3 by omega] at h_)) fun w25 S25=>J.sb 3 [] [(90,iv (opE 3 (tyB p (i).gOp (i).gK) (ab (tyB p (i).gOp (i).gK) y)))] [] S25 1 rfl (vlL (es 3 (tyB p (i).gOp (i).gK) (ab (tyB p (i).gOp (i).gK) y) (tyC p (i).gOp (i).gK)) (di 3 (tyA p (i).gOp (i).gK) (ab (tyA p (i).gOp (i).gK) x) (tyB p (i).gOp (i).gK) (ab (tyB p (i).gOp (i).gK) y) (tyC p (i).gOp (i).gK))) rfl fun w26 S26=>J.lb 7 [] [(16,iv (opE 3 (tyB p (i).gOp (i).gK) (ab (tyB p (i).gOp (i).gK) y)))] [] S26 1 rfl 117 (iv (di 3 (tyA p (i).gOp (i).gK) (ab (tyA p (i).gOp (i).gK) x) (tyB p (i).gOp (i).gK) (ab (tyB p (i).gOp (i).gK) y) (tyC p (i).gOp (i).gK)))<|J.e 4 [iv (di 3 (tyA p (i).gOp (i).gK) (ab (tyA p (i).gOp (i).gK) x) (tyB p (i).gOp (i).gK) (ab (tyB p (i).gOp (i).gK) y) (tyC p (i).gOp (i).gK)),iv (opE 3 (tyB p (i).gOp (i).gK) (ab (tyB p (i).gOp (i).gK) y))] func65 (hR _ _ ?_)
 have e0:arV i.gOp (tyA p i.gOp i.gK) (tyB p i.gOp i.gK) (tyC p i.gOp i.gK) x y=di 3 (tyA p (i).gOp (i).gK) (ab (tyA p (i).gOp (i).gK) x) (tyB p (i).gOp (i).gK) (ab (tyB p (i).gOp (i).gK) y) (tyC p (i).gOp (i).gK)∧arE i.gOp (tyB p i.gOp i.gK) y=opE 3 (tyB p (i).gOp (i).gK) (ab (tyB p (i).gOp (i).gK) y):=ar_op (k:=3) om om
 exact⟨by rw[e0.1,e0.2];rfl,S26.nil⟩
 refine J.c 6 [false] [] [] 91 (i.gOp=8) (fun fk6=>?_) fun fk6=>?_
 refine J.lb 2 [true] [] [] S20 2 rfl 94 (.agg (vlA (tyA p (i).gOp (i).gK) (ab (tyA p (i).gOp (i).gK) x)))<|J.lb 0 [] [] [] S20 0 rfl 95 (.agg (vlA (tyB p (i).gOp (i).gK) (ab (tyB p (i).gOp (i).gK) y)))<|J.lb 0 [] [] [] S20 3 rfl 96 (.agg (aI (tyC p (i).gOp (i).gK)))<|J.c0 0 [] [] [] S20 97 hb105 (fop4_any (tyA p (i).gOp (i).gK) (ab (tyA p (i).gOp (i).gK) x) (tyB p (i).gOp (i).gK) (ab (tyB p (i).gOp (i).gK) y) (tyC p (i).gOp (i).gK) _ (aw hty1a S20) hfa (bw _ _) (aw hty1b S20) (hfb om) (bw _ _) (aw hty1c S20) (hfc om) (by have h_:=fit_of hun om;rwa [show i.gOp-4=4 by omega] at h_)) fun w27 S27=>J.sb 3 [] [(99,iv (opE 4 (tyB p (i).gOp (i).gK) (ab (tyB p (i).gOp (i).gK) y)))] [] S27 1 rfl (vlL (es 4 (tyB p (i).gOp (i).gK) (ab (tyB p (i).gOp (i).gK) y) (tyC p (i).gOp (i).gK)) (di 4 (tyA p (i).gOp (i).gK) (ab (tyA p (i).gOp (i).gK) x) (tyB p (i).gOp (i).gK) (ab (tyB p (i).gOp (i).gK) y) (tyC p (i).gOp (i).gK))) rfl fun w28 S28=>J.lb 7 [] [(16,iv (opE 4 (tyB p (i).gOp (i).gK) (ab (tyB p (i).gOp (i).gK) y)))] [] S28 1 rfl 117 (iv (di 4 (tyA p (i).gOp (i).gK) (ab (tyA p (i).gOp (i).gK) x) (tyB p (i).gOp (i).gK) (ab (tyB p (i).gOp (i).gK) y) (tyC p (i).gOp (i).gK)))<|J.e 4 [iv (di 4 (tyA p (i).gOp (i).gK) (ab (tyA p (i).gOp (i).gK) x) (tyB p (i).gOp (i).gK) (ab (tyB p (i).gOp (i).gK) y) (tyC p (i).gOp (i).gK)),iv (opE 4 (tyB p (i).gOp (i).gK) (ab (tyB p (i).gOp (i).gK) y))] func65 (hR _ _ ?_)
 have e0:arV i.gOp (tyA p i.gOp i.gK) (tyB p i.gOp i.gK) (tyC p i.gOp i.gK) x y=di 4 (tyA p (i).gOp (i).gK) (ab (tyA p (i).gOp (i).gK) x) (tyB p (i).gOp (i).gK) (ab (tyB p (i).gOp (i).gK) y) (tyC p (i).gOp (i).gK)∧arE i.gOp (tyB p i.gOp i.gK) y=opE 4 (tyB p (i).gOp (i).gK) (ab (tyB p (i).gOp (i).gK) y):=ar_op (k:=4) om om
 exact⟨by rw[e0.1,e0.2];rfl,S28.nil⟩
 refine J.lb 3 [false] [] [] S20 2 rfl 41 (.agg (vlA (tyA p (i).gOp (i).gK) (ab (tyA p (i).gOp (i).gK) x)))<|J.lb 0 [] [] [] S20 0 rfl 42 (.agg (vlA (tyB p (i).gOp (i).gK) (ab (tyB p (i).gOp (i).gK) y)))<|J.c0 0 [] [] [] S20 43 hb106 (fless_any (tyA p (i).gOp (i).gK) (ab (tyA p (i).gOp (i).gK) x) (tyB p (i).gOp (i).gK) (ab (tyB p (i).gOp (i).gK) y) _ (aw hty1a S20) hfa (bw _ _) (aw hty1b S20) (hfb om) (bw _ _) (un_cmp hun om)) fun w29 S29=>J.lb 8 [] [(18,.bool (!decide (ac (tyB p (i).gOp (i).gK) (ab (tyB p (i).gOp (i).gK) y)*(tyA p (i).gOp (i).gK).aa≤ac (tyA p (i).gOp (i).gK) (ab (tyA p (i).gOp (i).gK) x)*(tyB p (i).gOp (i).gK).aa)))] [] S29 0 rfl 47 (.agg (vlA (tyB p (i).gOp (i).gK) (ab (tyB p (i).gOp (i).gK) y)))<|J.lb 0 [] [] [] S29 2 rfl 48 (.agg (vlA (tyA p (i).gOp (i).gK) (ab (tyA p (i).gOp (i).gK) x)))<|J.c0 0 [] [] [] S29 49 hb106 (fless_any (tyB p (i).gOp (i).gK) (ab (tyB p (i).gOp (i).gK) y) (tyA p (i).gOp (i).gK) (ab (tyA p (i).gOp (i).gK) x) _ (aw hty1b S29) (hfb om) (bw _ _) (aw hty1a S29) hfa (bw _ _) (unEq_symm (un_cmp hun om))) fun w30 S30=>J.lb 10 [] [(20,.bool (!decide (ac (tyA p (i).gOp (i).gK) (ab (tyA p (i).gOp (i).gK) x)*(tyB p (i).gOp (i).gK).aa≤ac (tyB p (i).gOp (i).gK) (ab (tyB p (i).gOp (i).gK) y)*(tyA p (i).gOp (i).gK).aa)))] [] S30 6 rfl 53 (iv i.gOp)<|J.c 2 [] [] [] 54 (i.gOp=13) (fun fk7=>?_) fun fk7=>?_
 refine J.c0 4 [true] [] [] S30 56 hb61 (el (!decide (ac (tyB p (i).gOp (i).gK) (ab (tyB p (i).gOp (i).gK) y)*(tyA p (i).gOp (i).gK).aa≤ac (tyA p (i).gOp (i).gK) (ab (tyA p (i).gOp (i).gK) x)*(tyB p (i).gOp (i).gK).aa)) _) fun w31 S31=>J.e 3 [iv (dH (!decide (ac (tyB p (i).gOp (i).gK) (ab (tyB p (i).gOp (i).gK) y)*(tyA p (i).gOp (i).gK).aa≤ac (tyA p (i).gOp (i).gK) (ab (tyA p (i).gOp (i).gK) x)*(tyB p (i).gOp (i).gK).aa))),iv 0] func65 (hR _ _ ?_)
 have e0:arV i.gOp (tyA p i.gOp i.gK) (tyB p i.gOp i.gK) (tyC p i.gOp i.gK) x y=dH (!decide (ac (tyB p (i).gOp (i).gK) (ab (tyB p (i).gOp (i).gK) y)*(tyA p (i).gOp (i).gK).aa≤ac (tyA p (i).gOp (i).gK) (ab (tyA p (i).gOp (i).gK) x)*(tyB p (i).gOp (i).gK).aa))∧arE i.gOp (tyB p i.gOp i.gK) y=0:=ar_less om
 exact⟨by rw[e0.1,e0.2];rfl,S31.nil⟩
 refine J.bn 7 [false] [] [] 59 (!decide (ac (tyB p (i).gOp (i).gK) (ab (tyB p (i).gOp (i).gK) y)*(tyA p (i).gOp (i).gK).aa≤ac (tyA p (i).gOp (i).gK) (ab (tyA p (i).gOp (i).gK) x)*(tyB p (i).gOp (i).gK).aa)) (fun fk8=>?_) fun fk8=>?_
 refine J.c0 3 [] [] [] S30 63 hb61 (el false _) fun w32 S32=>J.e 3 [iv (dH false),iv 0] func65 (hR _ _ ?_)
 have e0:arV i.gOp (tyA p i.gOp i.gK) (tyB p i.gOp i.gK) (tyC p i.gOp i.gK) x y=dH false∧arE i.gOp (tyB p i.gOp i.gK) y=0:=ar_eq (b:=false) om (by have h_:=fk8;simp at h_ ⊢;omega)
 exact⟨by rw[e0.1,e0.2];rfl,S32.nil⟩
 refine J.c0 3 [] [] [] S30 63 hb61 (el (!(!decide (ac (tyA p (i).gOp (i).gK) (ab (tyA p (i).gOp (i).gK) x)*(tyB p (i).gOp (i).gK).aa≤ac (tyB p (i).gOp (i).gK) (ab (tyB p (i).gOp (i).gK) y)*(tyA p (i).gOp (i).gK).aa))) _) fun w33 S33=>J.e 3 [iv (dH (!(!decide (ac (tyA p (i).gOp (i).gK) (ab (tyA p (i).gOp (i).gK) x)*(tyB p (i).gOp (i).gK).aa≤ac (tyB p (i).gOp (i).gK) (ab (tyB p (i).gOp (i).gK) y)*(tyA p (i).gOp (i).gK).aa)))),iv 0] func65 (hR _ _ ?_)
 have e0:arV i.gOp (tyA p i.gOp i.gK) (tyB p i.gOp i.gK) (tyC p i.gOp i.gK) x y=dH (!(!decide (ac (tyA p (i).gOp (i).gK) (ab (tyA p (i).gOp (i).gK) x)*(tyB p (i).gOp (i).gK).aa≤ac (tyB p (i).gOp (i).gK) (ab (tyB p (i).gOp (i).gK) y)*(tyA p (i).gOp (i).gK).aa)))∧arE i.gOp (tyB p i.gOp i.gK) y=0:=ar_eq (b:= !(!decide (ac (tyA p (i).gOp (i).gK) (ab (tyA p (i).gOp (i).gK) x)*(tyB p (i).gOp (i).gK).aa≤ac (tyB p (i).gOp (i).gK) (ab (tyB p (i).gOp (i).gK) y)*(tyA p (i).gOp (i).gK).aa))) om (by have h_:=fk8;simp at h_ ⊢;omega)
 exact⟨by rw[e0.1,e0.2];rfl,S33.nil⟩
end Go.Proofs.YtaoolgcddapegaaGreat
