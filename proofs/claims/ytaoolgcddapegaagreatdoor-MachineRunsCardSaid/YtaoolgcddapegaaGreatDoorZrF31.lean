/- Walks of functions of this seat, printed by a program over the engine. Conditions: as each theorem says. -/
import Derived.Test.YtaoolgcddapegaaGreatDoorZrF29
set_option linter.unusedSimpArgs false
set_option linter.unusedVariables false
namespace Go.Proofs.YtaoolgcddapegaaGreatDoor
open Go.Eng Go.RowKit Go.Proofs.Tryz
set_option maxRecDepth 20000
set_option maxHeartbeats 20000000
abbrev dG:List Value:=[iv 0,.bool false,iv 0,iv 0,iv 0,iv 0,iv 0,iv 0,iv 0,iv 0,iv 0]
theorem hb196:af prog 196:=fun _ _=>by kernel_rfl

theorem within_any (r:Int) (t:Fxd) (w:World) (ht:cE w t) (ft:bP t=true) (rt:inT t r):Ret prog 196 #[.agg #[iv r,iv r],.agg (aJ t)] w (fun v w'=>v=.bool true∧Sep w [] w'):=by
 refine Ret.st (N:=33) func196 fun R hR S0=>?_
 obtain ⟨q1,q2,q3,q4,q5,q6,q7,q8,q9,_⟩:=id ht
 refine J.nw 2 [] [] [] S0 2 [iv r,iv r] 218 fun b1 w1 S1=>J.nw 0 [] [] [] S1 3 (aP t) 75 fun b2 w2 S2=>J.lb 4 [] [] [] S2 0 rfl 8 (.agg (aJ t))<|J.c0 0 [] [] [] S2 9 hb160 (lim_any t _ (aq ht S2)) fun w3 S3=>?_
 have hlim:=lim_bd (t)
 refine J.lb 8 [] [(6,iv (bZ t)),(5,iv (bW t))] [] S3 0 rfl 12 (.agg (aJ t))<|J.c0 0 [] [] [] S3 13 hb95 (fxvalid_any t _ (aq ht S3)) fun w4 S4=>?_
 have fk2:(bP t)=true:=ft
 refine J.h 1 [] [] [] 14 (.bool (bP t)) (.bool true) (congrArg Value.bool fk2)<|J.lb 1 [] [] [] S4 1 rfl 16 (iv r)<|J.lb 1 [] [] [] S4 1 rfl 18 (iv r) ?_
 have fk4:r≤r:=by omega
 refine J.h 3 [] [] [] 21 (.bool (decide (r≤r))) (.bool true) (congrArg Value.bool (decide_eq_true fk4))<|J.lb 1 [] [] [] S4 1 rfl 23 (iv r) ?_
 have fk6:r≥(bW t):=by omega
 refine J.h 4 [] [] [] 27 (.bool (decide (r≥(bW t)))) (.bool true) (congrArg Value.bool (decide_eq_true fk6))<|J.lb 1 [] [] [] S4 1 rfl 29 (iv r)<|J.e 5 [.bool (decide (r≤(bZ t)))] func196 (hR _ _ ?_)
 exact⟨congrArg Value.bool (decide_eq_true om),S4.nil⟩

theorem hb163:af prog 163:=fun _ _=>by kernel_rfl

theorem valid4_any (t:Fxd) (r:Int) (w:World) (ht:cE w t) (ft:bP t=true) (rt:inT t r):Ret prog 163 #[.agg (vlA t r)] w (fun v w'=>v=.bool true∧Sep w [] w'):=by
 refine Ret.st (N:=11) func163 fun R hR S0=>?_
 obtain ⟨q1,q2,q3,q4,q5,q6,q7,q8,q9,_⟩:=id ht
 refine J.nw 2 [] [] [] S0 1 (vlL t r) 82 fun b1 w1 S1=>J.lb 5 [] [] [] S1 0 rfl 4 (iv r)<|J.lb 1 [] [] [] S1 0 rfl 6 (iv r)<|J.lb 2 [] [(7,.agg #[iv r,iv r])] [] S1 0 rfl 9 (.agg (aJ t))<|J.c0 0 [] [] [] S1 10 hb196 (within_any r t _ (aq ht S1) ft rt) fun w2 S2=>J.e 2 [.bool true] func163 (hR _ _ ?_)
 exact⟨rfl,S2.nil⟩

theorem hb194:af prog 194:=fun _ _=>by kernel_rfl

theorem fit_any (op:Int) (a b t:Unt) (w:World):Ret prog 194 #[iv op,.agg (bK a),.agg (bK b),.agg (bK t)] w (fun v w'=>v=.bool (fitOK op a b t)∧Sep w [] w'):=by
 refine Ret.st (N:=42) func194 fun R hR S0=>J.nw 2 [] [] [] S0 5 (bE a) 73 fun b1 w1 S1=>J.nw 0 [] [] [] S1 6 (bE b) 73 fun b2 w2 S2=>J.nw 0 [] [] [] S2 7 (bE t) 73 fun b3 w3 S3=>J.c 17 [] [(10,iv op)] [] 19 (op=3) (fun fk1=>?_) fun fk1=>?_
 refine J.lb 2 [true] [] [] S3 2 rfl 22 (.agg (bK a))<|J.lb 0 [] [] [] S3 1 rfl 23 (.agg (bK b))<|J.c0 0 [] [] [] S3 24 hb186 (umul_any a b _) fun w4 S4=>J.sb 3 [] [(26,iv (unE a b 1))] [] S4 2 rfl (bE (unX a b 1)) rfl fun w5 S5=>J.c 8 [] [] [] 37 ((unE a b 1)=0) (fun fk2=>?_) fun fk2=>?_
 refine J.lb 0 [] [] [] S5 2 rfl 38 (.agg (bK (unX a b 1)))<|J.lb 0 [] [] [] S5 0 rfl 39 (.agg (bK t))<|J.ok (OK.eqUnt 40 (unX a b 1) t kr)<|J.e 3 [.bool (ct (unX a b 1) t)] func194 (hR _ _ ?_)
 exact⟨congrArg Value.bool (by unfold fitOK;(repeat first | rw[if_pos om] | rw[if_neg om]);first | rfl | (simp[fk2];done) | (simp[fk2];rfl)),S5.nil⟩
 refine J.e 6 [.bool false] func194 (hR _ _ ?_)
 exact⟨congrArg Value.bool (by unfold fitOK;(repeat first | rw[if_pos om] | rw[if_neg om]);first | rfl | (simp[fk2];done) | (simp[fk2];rfl)),S5.nil⟩
 refine J.c 6 [false] [] [] 27 (op=4) (fun fk3=>?_) fun fk3=>?_
 refine J.lb 2 [true] [] [] S3 2 rfl 30 (.agg (bK a))<|J.lb 0 [] [] [] S3 1 rfl 31 (.agg (bK b))<|J.c0 0 [] [] [] S3 32 hb187 (udiv_any a b _) fun w6 S6=>J.sb 3 [] [(34,iv (unE a b (-1)))] [] S6 2 rfl (bE (unX a b (-1))) rfl fun w7 S7=>J.c 8 [] [] [] 37 ((unE a b (-1))=0) (fun fk4=>?_) fun fk4=>?_
 refine J.lb 0 [] [] [] S7 2 rfl 38 (.agg (bK (unX a b (-1))))<|J.lb 0 [] [] [] S7 0 rfl 39 (.agg (bK t))<|J.ok (OK.eqUnt 40 (unX a b (-1)) t kr)<|J.e 3 [.bool (ct (unX a b (-1)) t)] func194 (hR _ _ ?_)
 exact⟨congrArg Value.bool (by unfold fitOK;(repeat first | rw[if_pos om] | rw[if_neg om]);first | rfl | (simp[fk4];done) | (simp[fk4];rfl)),S7.nil⟩
 refine J.e 6 [.bool false] func194 (hR _ _ ?_)
 exact⟨congrArg Value.bool (by unfold fitOK;(repeat first | rw[if_pos om] | rw[if_neg om]);first | rfl | (simp[fk4];done) | (simp[fk4];rfl)),S7.nil⟩
 refine J.lb 3 [false] [] [] S3 2 rfl 11 (.agg (bK a))<|J.lb 0 [] [] [] S3 0 rfl 12 (.agg (bK t))<|J.ok (OK.eqUnt 13 a t kr)<|J.b 1 [] [] [] 14 (ct a t) (fun fk5=>?_) fun fk5=>?_
 refine J.lb 0 [] [] [] S3 1 rfl 15 (.agg (bK b))<|J.lb 0 [] [] [] S3 0 rfl 16 (.agg (bK t))<|J.ok (OK.eqUnt 17 b t kr)<|J.e 3 [.bool (ct b t)] func194 (hR _ _ ?_)
 exact⟨congrArg Value.bool (by unfold fitOK;(repeat first | rw[if_pos om] | rw[if_neg om]);first | rfl | (simp[fk5];done) | (simp[fk5];rfl)),S3.nil⟩
 refine J.e 6 [.bool false] func194 (hR _ _ ?_)
 exact⟨congrArg Value.bool (by unfold fitOK;(repeat first | rw[if_pos om] | rw[if_neg om]);first | rfl | (simp[fk5];done) | (simp[fk5];rfl)),S3.nil⟩

theorem hb162:af prog 162:=fun _ _=>by kernel_rfl

theorem operate_any (op:Int) (ta:Fxd) (ra:Int) (tb:Fxd) (rb:Int) (t:Fxd) (w:World) (qa:cE w ta) (fa:bP ta=true) (ha:inT ta ra) (qb:cE w tb) (fb:bP tb=true) (hb:inT tb rb) (ht:cE w t) (ft:bP t=true) (ho:1≤op∧op≤4) (hf:fitOK op (au ta) (au tb) (au t)=true):Ret prog 162 #[iv op,.agg (vlA ta ra),.agg (vlA tb rb),.agg (aJ t)] w (fun v w'=>v=.tuple #[.agg (vlA (eM op tb rb t) (dt op ta ra tb rb t)),iv (opE op tb rb)]∧Sep w [] w'):=by
 refine Ret.st (N:=56) func162 fun R hR S0=>?_
 obtain ⟨q1,q2,q3,q4,q5,q6,q7,q8,q9,_⟩:=id qa
 obtain ⟨q10,q11,q12,q13,q14,q15,q16,q17,q18,_⟩:=id qb
 obtain ⟨q19,q20,q21,q22,q23,q24,q25,q26,q27,_⟩:=id ht
 refine J.nw 2 [] [] [] S0 5 (vlL ta ra) 82 fun b1 w1 S1=>J.nw 0 [] [] [] S1 6 (vlL tb rb) 82 fun b2 w2 S2=>J.nw 0 [] [] [] S2 7 (aP t) 75 fun b3 w3 S3=>J.nw 0 [] [] [] S3 8 dG 82 fun b4 w4 S4=>J.lb 5 [] [] [] S4 3 rfl 12 (.agg (vlA ta ra))<|J.c0 0 [] [] [] S4 13 hb163 (valid4_any ta ra _ (aq qa S4) fa ha) fun w5 S5=>J.lb 2 [] [(15,.bool false)] [] S5 2 rfl 16 (.agg (vlA tb rb))<|J.c0 0 [] [] [] S5 17 hb163 (valid4_any tb rb _ (aq qb S5) fb hb) fun w6 S6=>J.lb 3 [] [(20,.bool false)] [] S6 1 rfl 21 (.agg (aJ t))<|J.c0 0 [] [] [] S6 22 hb95 (fxvalid_any t _ (aq ht S6)) fun w7 S7=>?_
 have fk2:(bP t)=true:=ft
 refine J.h 3 [] [] [] 24 (.bool (!(bP t))) (.bool false) (congrArg Value.bool (by rw[fk2];rfl))<|J.lb 8 [false] [(26,iv op)] [] S7 3 rfl 29 (.agg #[iv ta.ah,iv ta.ae,iv ta.ag,iv ta.aj,iv ta.ai])<|J.lb 2 [] [] [] S7 2 rfl 32 (.agg #[iv tb.ah,iv tb.ae,iv tb.ag,iv tb.aj,iv tb.ai])<|J.lb 1 [] [] [] S7 1 rfl 34 (.agg #[iv t.ah,iv t.ae,iv t.ag,iv t.aj,iv t.ai])<|J.c0 0 [] [] [] S7 35 hb194 (fit_any op (⟨ta.ah,ta.ae,ta.ag,ta.aj,ta.ai⟩:Unt) (⟨tb.ah,tb.ae,tb.ag,tb.aj,tb.ai⟩:Unt) (⟨t.ah,t.ae,t.ag,t.aj,t.ai⟩:Unt) _) fun w8 S8=>?_
 have fk4:(fitOK op (⟨ta.ah,ta.ae,ta.ag,ta.aj,ta.ai⟩:Unt) (⟨tb.ah,tb.ae,tb.ag,tb.aj,tb.ai⟩:Unt) (⟨t.ah,t.ae,t.ag,t.aj,t.ai⟩:Unt))=true:=hf
 refine J.h 2 [] [] [] 36 (.bool (!(fitOK op (⟨ta.ah,ta.ae,ta.ag,ta.aj,ta.ai⟩:Unt) (⟨tb.ah,tb.ae,tb.ag,tb.aj,tb.ai⟩:Unt) (⟨t.ah,t.ae,t.ag,t.aj,t.ai⟩:Unt)))) (.bool false) (congrArg Value.bool (by rw[fk4];rfl))<|J.lb 5 [false] [] [] S8 2 rfl 39 (.agg (vlA tb rb))<|J.c0 0 [] [] [] S8 40 hb164 (number_any tb rb _ fb hb) fun w9 S9=>J.c 11 [] [(10,iv (ac tb rb))] [] 45 (op=4) (fun fk5=>?_) fun fk5=>?_
 refine J.c 4 [] [] [] 48 ((ac tb rb)=0) (fun fk6=>?_) fun fk6=>?_
 refine J.sb 4 [true] [] [] S9 0 rfl dG rfl fun w10 S10=>J.ez 2 [.agg #[iv 0,.bool false,iv 0,iv 0,iv 0,iv 0,iv 0,iv 0,iv 0,iv 0,iv 0],iv 10] func162 (bk (S10.nth 0 rfl) bn) (hR _ _ ?_)
 obtain ⟨e1,e2,e3⟩:=op_zero (op:=op) (ta:=ta) (tb:=tb) (t:=t) (ra:=ra) (rb:=rb) om
 exact⟨by rw[e1,e2,e3];rfl,S10.nil⟩
 refine J.r 3 [false] [] []<|J.drawPlan (fun w_=>Sep w [box b3 (aP t) 75,box b2 (vlL tb rb) 82,box b1 (vlL ta ra) 82] w_) [(0,true),(1,true),(2,true),(4,true),(3,false),(5,false),(6,false),(7,true)] S9 Tryz.mixed kr (aF (T:=[(0,some 50,1),(0,some 51,32),(0,some 52,64),(7,some 53,7881299347898368),(0,some 54,128),(24,some 55,27021597764222976),(63,none,36028797018964224),(127,some 9,0)]) kr kr) ?_
 intro w11 S11
 refine PB.mk (S11.erase 0)<|PL.take 0 50 (iv op) (fun _ _=>kr)<|PL.takeOK 1 (fun w_ S_=>OK.ldBox S_ 2 51 82 0 (.agg (vlA ta ra)) kr rfl kr) rfl<|PL.takeOK 2 (fun w_ S_=>OK.ldBox S_ 1 52 82 0 (.agg (vlA tb rb)) kr rfl kr) rfl<|PL.takeOK 4 (fun w_ S_=>OK.ldBox S_ 0 54 75 0 (.agg (aJ t)) kr rfl kr) rfl<|PL.callF 53 195 #[iv op,.agg (vlA ta ra),.agg (vlA tb rb)] hb195 kr (combine_any op ta ra tb rb _ fa ha fb hb om) ?_
 rintro _ w12 ⟨rfl,T1⟩
 have S12:Sep w [box b4 dG 82,box b3 (aP t) 75,box b2 (vlL tb rb) 82,box b1 (vlL ta ra) 82] w12:=S11.trans T1
 refine PB.mk (S12.erase 0)<|PL.callF 55 193 #[.agg (exA (cmN op (ac ta ra) (ta).aa (ac tb rb) (tb).aa) (cmD op (ta).aa (ac tb rb) (tb).aa)),.agg (aJ t)] hb193 kr (result_any (cmN op (ac ta ra) (ta).aa (ac tb rb) (tb).aa) (cmD op (ta).aa (ac tb rb) (tb).aa) t _ (aq ht S12) ft (cm_ok (ep fa ha) (ep fb hb) ho (fun _=>om))) ?_
 rintro _ w13 ⟨rfl,T2⟩
 have S13:Sep w [box b4 dG 82,box b3 (aP t) 75,box b2 (vlL tb rb) 82,box b1 (vlL ta ra) 82] w13:=S12.trans T2
 have hrb:=res_bd ((cmN op (ac ta ra) (ta).aa (ac tb rb) (tb).aa)) ((cmD op (ta).aa (ac tb rb) (tb).aa)) (t)
 refine PB.mk (S13.erase 0)<|PL.stBox S13 0 82 0 (.agg (vlA t (du (cmN op (ac ta ra) (ta).aa (ac tb rb) (tb).aa) (cmD op (ta).aa (ac tb rb) (tb).aa) t))) (vlL t (du (cmN op (ac ta ra) (ta).aa (ac tb rb) (tb).aa) (cmD op (ta).aa (ac tb rb) (tb).aa) t)) [box b4 (vlL t (du (cmN op (ac ta ra) (ta).aa (ac tb rb) (tb).aa) (cmD op (ta).aa (ac tb rb) (tb).aa) t)) 82,box b3 (aP t) 75,box b2 (vlL tb rb) 82,box b1 (vlL ta ra) 82] kr rfl kr kr rfl ?_
 intro w14 S14
 refine PB.mk (S14.erase 0)<|PL.take 7 9 (iv 0) (fun _ _=>kr)<|PL.done<|J.ez 0 [.agg (vlA t (du (cmN op (ac ta ra) (ta).aa (ac tb rb) (tb).aa) (cmD op (ta).aa (ac tb rb) (tb).aa) t)),iv 0] func162 (bk (S14.nth 0 rfl) bn) (hR _ _ ?_)
 obtain ⟨e1,e2,e3⟩:=op_fine (op:=op) (ta:=ta) (tb:=tb) (t:=t) (ra:=ra) (rb:=rb) om
 exact⟨by rw[e1,e2,e3];rfl,S14.nil⟩
 refine J.r 7 [false] [] []<|J.drawPlan (fun w_=>Sep w [box b3 (aP t) 75,box b2 (vlL tb rb) 82,box b1 (vlL ta ra) 82] w_) [(0,true),(1,true),(2,true),(4,true),(3,false),(5,false),(6,false),(7,true)] S9 Tryz.mixed kr (aF (T:=[(0,some 50,1),(0,some 51,32),(0,some 52,64),(7,some 53,7881299347898368),(0,some 54,128),(24,some 55,27021597764222976),(63,none,36028797018964224),(127,some 9,0)]) kr kr) ?_
 intro w15 S15
 refine PB.mk (S15.erase 0)<|PL.take 0 50 (iv op) (fun _ _=>kr)<|PL.takeOK 1 (fun w_ S_=>OK.ldBox S_ 2 51 82 0 (.agg (vlA ta ra)) kr rfl kr) rfl<|PL.takeOK 2 (fun w_ S_=>OK.ldBox S_ 1 52 82 0 (.agg (vlA tb rb)) kr rfl kr) rfl<|PL.takeOK 4 (fun w_ S_=>OK.ldBox S_ 0 54 75 0 (.agg (aJ t)) kr rfl kr) rfl<|PL.callF 53 195 #[iv op,.agg (vlA ta ra),.agg (vlA tb rb)] hb195 kr (combine_any op ta ra tb rb _ fa ha fb hb om) ?_
 rintro _ w16 ⟨rfl,T3⟩
 have S16:Sep w [box b4 dG 82,box b3 (aP t) 75,box b2 (vlL tb rb) 82,box b1 (vlL ta ra) 82] w16:=S15.trans T3
 refine PB.mk (S16.erase 0)<|PL.callF 55 193 #[.agg (exA (cmN op (ac ta ra) (ta).aa (ac tb rb) (tb).aa) (cmD op (ta).aa (ac tb rb) (tb).aa)),.agg (aJ t)] hb193 kr (result_any (cmN op (ac ta ra) (ta).aa (ac tb rb) (tb).aa) (cmD op (ta).aa (ac tb rb) (tb).aa) t _ (aq ht S16) ft (cm_ok (ep fa ha) (ep fb hb) ho (fun _=>om))) ?_
 rintro _ w17 ⟨rfl,T4⟩
 have S17:Sep w [box b4 dG 82,box b3 (aP t) 75,box b2 (vlL tb rb) 82,box b1 (vlL ta ra) 82] w17:=S16.trans T4
 have hrb:=res_bd ((cmN op (ac ta ra) (ta).aa (ac tb rb) (tb).aa)) ((cmD op (ta).aa (ac tb rb) (tb).aa)) (t)
 refine PB.mk (S17.erase 0)<|PL.stBox S17 0 82 0 (.agg (vlA t (du (cmN op (ac ta ra) (ta).aa (ac tb rb) (tb).aa) (cmD op (ta).aa (ac tb rb) (tb).aa) t))) (vlL t (du (cmN op (ac ta ra) (ta).aa (ac tb rb) (tb).aa) (cmD op (ta).aa (ac tb rb) (tb).aa) t)) [box b4 (vlL t (du (cmN op (ac ta ra) (ta).aa (ac tb rb) (tb).aa) (cmD op (ta).aa (ac tb rb) (tb).aa) t)) 82,box b3 (aP t) 75,box b2 (vlL tb rb) 82,box b1 (vlL ta ra) 82] kr rfl kr kr rfl ?_
 intro w18 S18
 refine PB.mk (S18.erase 0)<|PL.take 7 9 (iv 0) (fun _ _=>kr)<|PL.done<|J.ez 0 [.agg (vlA t (du (cmN op (ac ta ra) (ta).aa (ac tb rb) (tb).aa) (cmD op (ta).aa (ac tb rb) (tb).aa) t)),iv 0] func162 (bk (S18.nth 0 rfl) bn) (hR _ _ ?_)
 obtain ⟨e1,e2,e3⟩:=op_fine (op:=op) (ta:=ta) (tb:=tb) (t:=t) (ra:=ra) (rb:=rb) om
 exact⟨by rw[e1,e2,e3];rfl,S18.nil⟩

theorem hb114:af prog 114:=fun _ _=>by kernel_rfl

theorem fop1_any (ta:Fxd) (ra:Int) (tb:Fxd) (rb:Int) (t:Fxd) (w:World) (qa:cE w ta) (fa:bP ta=true) (ha:inT ta ra) (qb:cE w tb) (fb:bP tb=true) (hb:inT tb rb) (ht:cE w t) (ft:bP t=true) (hf:fitOK 1 (au ta) (au tb) (au t)=true):Ret prog 114 #[.agg (vlA ta ra),.agg (vlA tb rb),.agg (aJ t)] w (fun v w'=>v=.tuple #[.agg (vlA (eM 1 tb rb t) (dt 1 ta ra tb rb t)),iv (opE 1 tb rb)]∧Sep w [] w'):=by
 refine Ret.st (N:=14) func114 fun R hR S0=>?_
 obtain ⟨q1,q2,q3,q4,q5,q6,q7,q8,q9,_⟩:=id qa
 obtain ⟨q10,q11,q12,q13,q14,q15,q16,q17,q18,_⟩:=id qb
 obtain ⟨q19,q20,q21,q22,q23,q24,q25,q26,q27,_⟩:=id ht
 refine J.nw 2 [] [] [] S0 3 (vlL ta ra) 82 fun b1 w1 S1=>J.nw 0 [] [] [] S1 4 (vlL tb rb) 82 fun b2 w2 S2=>J.nw 0 [] [] [] S2 5 (aP t) 75 fun b3 w3 S3=>J.nw 0 [] [] [] S3 6 dG 82 fun b4 w4 S4=>J.lb 4 [] [] [] S4 3 rfl 8 (.agg (vlA ta ra))<|J.lb 0 [] [] [] S4 2 rfl 9 (.agg (vlA tb rb))<|J.lb 0 [] [] [] S4 1 rfl 10 (.agg (aJ t))<|J.c0 0 [] [] [] S4 11 hb162 (operate_any 1 ta ra tb rb t _ (aq qa S4) fa ha (aq qb S4) fb hb (aq ht S4) ft om hf) fun w5 S5=>J.sb 2 [] [(13,iv (opE 1 tb rb))] [] S5 0 rfl (vlL (eM 1 tb rb t) (dt 1 ta ra tb rb t)) rfl fun w6 S6=>J.ez 2 [.agg (vlA (eM 1 tb rb t) (dt 1 ta ra tb rb t)),iv (opE 1 tb rb)] func114 (bk (S6.nth 0 rfl) bn) (hR _ _ ?_)
 exact⟨rfl,S6.nil⟩

theorem hb115:af prog 115:=fun _ _=>by kernel_rfl

theorem fop2_any (ta:Fxd) (ra:Int) (tb:Fxd) (rb:Int) (t:Fxd) (w:World) (qa:cE w ta) (fa:bP ta=true) (ha:inT ta ra) (qb:cE w tb) (fb:bP tb=true) (hb:inT tb rb) (ht:cE w t) (ft:bP t=true) (hf:fitOK 2 (au ta) (au tb) (au t)=true):Ret prog 115 #[.agg (vlA ta ra),.agg (vlA tb rb),.agg (aJ t)] w (fun v w'=>v=.tuple #[.agg (vlA (eM 2 tb rb t) (dt 2 ta ra tb rb t)),iv (opE 2 tb rb)]∧Sep w [] w'):=by
 refine Ret.st (N:=14) func115 fun R hR S0=>?_
 obtain ⟨q1,q2,q3,q4,q5,q6,q7,q8,q9,_⟩:=id qa
 obtain ⟨q10,q11,q12,q13,q14,q15,q16,q17,q18,_⟩:=id qb
 obtain ⟨q19,q20,q21,q22,q23,q24,q25,q26,q27,_⟩:=id ht
 refine J.nw 2 [] [] [] S0 3 (vlL ta ra) 82 fun b1 w1 S1=>J.nw 0 [] [] [] S1 4 (vlL tb rb) 82 fun b2 w2 S2=>J.nw 0 [] [] [] S2 5 (aP t) 75 fun b3 w3 S3=>J.nw 0 [] [] [] S3 6 dG 82 fun b4 w4 S4=>J.lb 4 [] [] [] S4 3 rfl 8 (.agg (vlA ta ra))<|J.lb 0 [] [] [] S4 2 rfl 9 (.agg (vlA tb rb))<|J.lb 0 [] [] [] S4 1 rfl 10 (.agg (aJ t))<|J.c0 0 [] [] [] S4 11 hb162 (operate_any 2 ta ra tb rb t _ (aq qa S4) fa ha (aq qb S4) fb hb (aq ht S4) ft om hf) fun w5 S5=>J.sb 2 [] [(13,iv (opE 2 tb rb))] [] S5 0 rfl (vlL (eM 2 tb rb t) (dt 2 ta ra tb rb t)) rfl fun w6 S6=>J.ez 2 [.agg (vlA (eM 2 tb rb t) (dt 2 ta ra tb rb t)),iv (opE 2 tb rb)] func115 (bk (S6.nth 0 rfl) bn) (hR _ _ ?_)
 exact⟨rfl,S6.nil⟩

theorem hb116:af prog 116:=fun _ _=>by kernel_rfl

theorem fop3_any (ta:Fxd) (ra:Int) (tb:Fxd) (rb:Int) (t:Fxd) (w:World) (qa:cE w ta) (fa:bP ta=true) (ha:inT ta ra) (qb:cE w tb) (fb:bP tb=true) (hb:inT tb rb) (ht:cE w t) (ft:bP t=true) (hf:fitOK 3 (au ta) (au tb) (au t)=true):Ret prog 116 #[.agg (vlA ta ra),.agg (vlA tb rb),.agg (aJ t)] w (fun v w'=>v=.tuple #[.agg (vlA (eM 3 tb rb t) (dt 3 ta ra tb rb t)),iv (opE 3 tb rb)]∧Sep w [] w'):=by
 refine Ret.st (N:=14) func116 fun R hR S0=>?_
 obtain ⟨q1,q2,q3,q4,q5,q6,q7,q8,q9,_⟩:=id qa
 obtain ⟨q10,q11,q12,q13,q14,q15,q16,q17,q18,_⟩:=id qb
 obtain ⟨q19,q20,q21,q22,q23,q24,q25,q26,q27,_⟩:=id ht
 refine J.nw 2 [] [] [] S0 3 (vlL ta ra) 82 fun b1 w1 S1=>J.nw 0 [] [] [] S1 4 (vlL tb rb) 82 fun b2 w2 S2=>J.nw 0 [] [] [] S2 5 (aP t) 75 fun b3 w3 S3=>J.nw 0 [] [] [] S3 6 dG 82 fun b4 w4 S4=>J.lb 4 [] [] [] S4 3 rfl 8 (.agg (vlA ta ra))<|J.lb 0 [] [] [] S4 2 rfl 9 (.agg (vlA tb rb))<|J.lb 0 [] [] [] S4 1 rfl 10 (.agg (aJ t))<|J.c0 0 [] [] [] S4 11 hb162 (operate_any 3 ta ra tb rb t _ (aq qa S4) fa ha (aq qb S4) fb hb (aq ht S4) ft om hf) fun w5 S5=>J.sb 2 [] [(13,iv (opE 3 tb rb))] [] S5 0 rfl (vlL (eM 3 tb rb t) (dt 3 ta ra tb rb t)) rfl fun w6 S6=>J.ez 2 [.agg (vlA (eM 3 tb rb t) (dt 3 ta ra tb rb t)),iv (opE 3 tb rb)] func116 (bk (S6.nth 0 rfl) bn) (hR _ _ ?_)
 exact⟨rfl,S6.nil⟩

theorem hb117:af prog 117:=fun _ _=>by kernel_rfl

theorem fop4_any (ta:Fxd) (ra:Int) (tb:Fxd) (rb:Int) (t:Fxd) (w:World) (qa:cE w ta) (fa:bP ta=true) (ha:inT ta ra) (qb:cE w tb) (fb:bP tb=true) (hb:inT tb rb) (ht:cE w t) (ft:bP t=true) (hf:fitOK 4 (au ta) (au tb) (au t)=true):Ret prog 117 #[.agg (vlA ta ra),.agg (vlA tb rb),.agg (aJ t)] w (fun v w'=>v=.tuple #[.agg (vlA (eM 4 tb rb t) (dt 4 ta ra tb rb t)),iv (opE 4 tb rb)]∧Sep w [] w'):=by
 refine Ret.st (N:=14) func117 fun R hR S0=>?_
 obtain ⟨q1,q2,q3,q4,q5,q6,q7,q8,q9,_⟩:=id qa
 obtain ⟨q10,q11,q12,q13,q14,q15,q16,q17,q18,_⟩:=id qb
 obtain ⟨q19,q20,q21,q22,q23,q24,q25,q26,q27,_⟩:=id ht
 refine J.nw 2 [] [] [] S0 3 (vlL ta ra) 82 fun b1 w1 S1=>J.nw 0 [] [] [] S1 4 (vlL tb rb) 82 fun b2 w2 S2=>J.nw 0 [] [] [] S2 5 (aP t) 75 fun b3 w3 S3=>J.nw 0 [] [] [] S3 6 dG 82 fun b4 w4 S4=>J.lb 4 [] [] [] S4 3 rfl 8 (.agg (vlA ta ra))<|J.lb 0 [] [] [] S4 2 rfl 9 (.agg (vlA tb rb))<|J.lb 0 [] [] [] S4 1 rfl 10 (.agg (aJ t))<|J.c0 0 [] [] [] S4 11 hb162 (operate_any 4 ta ra tb rb t _ (aq qa S4) fa ha (aq qb S4) fb hb (aq ht S4) ft om hf) fun w5 S5=>J.sb 2 [] [(13,iv (opE 4 tb rb))] [] S5 0 rfl (vlL (eM 4 tb rb t) (dt 4 ta ra tb rb t)) rfl fun w6 S6=>J.ez 2 [.agg (vlA (eM 4 tb rb t) (dt 4 ta ra tb rb t)),iv (opE 4 tb rb)] func117 (bk (S6.nth 0 rfl) bn) (hR _ _ ?_)
 exact⟨rfl,S6.nil⟩

theorem hb161:af prog 161:=fun _ _=>by kernel_rfl

theorem change_any (ta:Fxd) (ra:Int) (t:Fxd) (sg:Int) (w:World) (qa:cE w ta) (fa:bP ta=true) (ha:inT ta ra) (ht:cE w t) (ft:bP t=true) (hs:sg=1∨sg= -1) (hu:ct (au ta) (au t)=true):Ret prog 161 #[.agg (vlA ta ra),.agg (aJ t),iv sg] w (fun v w'=>v=.tuple #[.agg (vlA t (du (ac ta ra*sg) ta.aa t)),iv 0]∧Sep w [] w'):=by
 refine Ret.st (N:=40) func161 fun R hR S0=>?_
 obtain ⟨q1,q2,q3,q4,q5,q6,q7,q8,q9,_⟩:=id qa
 obtain ⟨q10,q11,q12,q13,q14,q15,q16,q17,q18,_⟩:=id ht
 have hoa:=ep fa ha
 have hob: -4503600701112320≤ac ta ra*sg∧ac ta ra*sg≤4503600701112320:=by rcases hs with e | e<;>rw[e]<;>omega
 refine J.nw 2 [] [] [] S0 3 (vlL ta ra) 82 fun b1 w1 S1=>J.nw 0 [] [] [] S1 4 (aP t) 75 fun b2 w2 S2=>J.nw 0 [] [] [] S2 6 dG 82 fun b3 w3 S3=>J.lb 5 [] [] [] S3 2 rfl 10 (.agg (vlA ta ra))<|J.c0 0 [] [] [] S3 11 hb163 (valid4_any ta ra _ (aq qa S3) fa ha) fun w4 S4=>J.lb 2 [] [(13,.bool false)] [] S4 1 rfl 14 (.agg (aJ t))<|J.c0 0 [] [] [] S4 15 hb95 (fxvalid_any t _ (aq ht S4)) fun w5 S5=>?_
 have fk2:(bP t)=true:=ft
 refine J.h 3 [] [] [] 17 (.bool (!(bP t))) (.bool false) (congrArg Value.bool (by rw[fk2];rfl))<|J.lb 7 [false] [] [] S5 2 rfl 21 (.agg #[iv ta.ah,iv ta.ae,iv ta.ag,iv ta.aj,iv ta.ai])<|J.lb 1 [] [] [] S5 1 rfl 23 (.agg #[iv t.ah,iv t.ae,iv t.ag,iv t.aj,iv t.ai])<|J.ok (OK.neUnt 24 (au ta) (au t) kr) ?_
 have fk4:(ct (au ta) (au t))=true:=hu
 refine J.h 1 [] [] [] 24 (.bool (!(ct (au ta) (au t)))) (.bool false) (congrArg Value.bool (by rw[fk4];rfl))<|J.lb 4 [false] [] [] S5 2 rfl 27 (.agg (vlA ta ra))<|J.c0 0 [] [] [] S5 28 hb164 (number_any ta ra _ fa ha) fun w6 S6=>J.r 7 [] [(9,iv ((ta).aa)),(8,iv (ac ta ra))] []<|J.drawPlan (fun w_=>Sep w [box b2 (aP t) 75,box b1 (vlL ta ra) 82] w_) [(0,true),(2,true),(4,true),(7,true),(1,false),(3,false),(5,false),(6,true),(8,false),(9,false),(10,true)] S6 Tryz.mixed kr (aF (T:=[(0,some 31,256),(1,some 32,2147483648),(0,some 33,4),(6,some 34,12884901888),(0,some 35,512),(24,some 36,34359738368),(40,some 37,85899345920),(0,some 38,16),(224,some 39,412316860416),(511,none,549755813952),(1023,some 7,0)]) kr kr) ?_
 intro w7 S7
 refine PB.mk (S7.erase 0)<|PL.take 0 31 (iv (ac ta ra)) (fun _ _=>kr)<|PL.take 2 33 (iv sg) (fun _ _=>kr)<|PL.take 4 35 (iv ((ta).aa)) (fun _ _=>kr)<|PL.takeOK 7 (fun w_ S_=>OK.ldBox S_ 0 38 75 0 (.agg (aJ t)) kr rfl kr) rfl<|PL.callF 32 165 #[iv (ac ta ra)] hb165 kr (eg (ac ta ra) _ om) ?_
 rintro _ w8 ⟨rfl,T1⟩
 have S8:Sep w [box b3 dG 82,box b2 (aP t) 75,box b1 (vlL ta ra) 82] w8:=S7.trans T1
 refine PB.mk (S8.erase 0)<|PL.callF 34 166 #[.agg (wvA (ac ta ra)),iv sg] eN kr (bQ (ac ta ra) sg _ cO om) ?_
 rintro _ w9 ⟨rfl,T2⟩
 have S9:Sep w [box b3 dG 82,box b2 (aP t) 75,box b1 (vlL ta ra) 82] w9:=S8.trans T2
 refine PB.mk (S9.erase 0)<|PL.callF 36 165 #[iv ((ta).aa)] hb165 kr (eg ((ta).aa) _ om) ?_
 rintro _ w10 ⟨rfl,T3⟩
 have S10:Sep w [box b3 dG 82,box b2 (aP t) 75,box b1 (vlL ta ra) 82] w10:=S9.trans T3
 refine PB.mk (S10.erase 0)<|PL.take 6 37 (.agg (exA ((ac ta ra)*sg) ((ta).aa))) (fun _ _=>kr)<|PL.callF 39 193 #[.agg (exA ((ac ta ra)*sg) ((ta).aa)),.agg (aJ t)] hb193 kr (result_any ((ac ta ra)*sg) ((ta).aa) t _ (aq ht S10) ft ⟨om,om⟩) ?_
 rintro _ w11 ⟨rfl,T4⟩
 have S11:Sep w [box b3 dG 82,box b2 (aP t) 75,box b1 (vlL ta ra) 82] w11:=S10.trans T4
 have hrb:=res_bd (((ac ta ra)*sg)) (((ta).aa)) (t)
 refine PB.mk (S11.erase 0)<|PL.stBox S11 0 82 0 (.agg (vlA t (du ((ac ta ra)*sg) ((ta).aa) t))) (vlL t (du ((ac ta ra)*sg) ((ta).aa) t)) [box b3 (vlL t (du ((ac ta ra)*sg) ((ta).aa) t)) 82,box b2 (aP t) 75,box b1 (vlL ta ra) 82] kr rfl kr kr rfl ?_
 intro w12 S12
 refine PB.mk (S12.erase 0)<|PL.take 10 7 (iv 0) (fun _ _=>kr)<|PL.done<|J.ez 0 [.agg (vlA t (du ((ac ta ra)*sg) ((ta).aa) t)),iv 0] func161 (bk (S12.nth 0 rfl) bn) (hR _ _ ?_)
 exact⟨rfl,S12.nil⟩

theorem hb112:af prog 112:=fun _ _=>by kernel_rfl

theorem fneg_any (ta:Fxd) (ra:Int) (t:Fxd) (w:World) (qa:cE w ta) (fa:bP ta=true) (ha:inT ta ra) (ht:cE w t) (ft:bP t=true) (hu:ct (au ta) (au t)=true):Ret prog 112 #[.agg (vlA ta ra),.agg (aJ t)] w (fun v w'=>v=.tuple #[.agg (vlA t (du (ac ta ra*(-1)) ta.aa t)),iv 0]∧Sep w [] w'):=by
 refine Ret.st (N:=11) func112 fun R hR S0=>?_
 obtain ⟨q1,q2,q3,q4,q5,q6,q7,q8,q9,_⟩:=id qa
 obtain ⟨q10,q11,q12,q13,q14,q15,q16,q17,q18,_⟩:=id ht
 refine J.nw 2 [] [] [] S0 2 (vlL ta ra) 82 fun b1 w1 S1=>J.nw 0 [] [] [] S1 3 (aP t) 75 fun b2 w2 S2=>J.nw 0 [] [] [] S2 4 dG 82 fun b3 w3 S3=>J.lb 4 [] [] [] S3 2 rfl 6 (.agg (vlA ta ra))<|J.lb 0 [] [] [] S3 1 rfl 7 (.agg (aJ t))<|J.c0 0 [] [] [] S3 8 hb161 (change_any ta ra t (-1) _ (aq qa S3) fa ha (aq ht S3) ft om hu) fun w4 S4=>J.sb 2 [] [(10,iv 0)] [] S4 0 rfl (vlL t (du (ac ta ra* -1) ta.aa t)) rfl fun w5 S5=>J.ez 2 [.agg (vlA t (du (ac ta ra* -1) ta.aa t)),iv 0] func112 (bk (S5.nth 0 rfl) bn) (hR _ _ ?_)
 exact⟨rfl,S5.nil⟩

theorem hb113:af prog 113:=fun _ _=>by kernel_rfl

theorem fconv_any (ta:Fxd) (ra:Int) (t:Fxd) (w:World) (qa:cE w ta) (fa:bP ta=true) (ha:inT ta ra) (ht:cE w t) (ft:bP t=true) (hu:ct (au ta) (au t)=true):Ret prog 113 #[.agg (vlA ta ra),.agg (aJ t)] w (fun v w'=>v=.tuple #[.agg (vlA t (du (ac ta ra*1) ta.aa t)),iv 0]∧Sep w [] w'):=by
 refine Ret.st (N:=11) func113 fun R hR S0=>?_
 obtain ⟨q1,q2,q3,q4,q5,q6,q7,q8,q9,_⟩:=id qa
 obtain ⟨q10,q11,q12,q13,q14,q15,q16,q17,q18,_⟩:=id ht
 refine J.nw 2 [] [] [] S0 2 (vlL ta ra) 82 fun b1 w1 S1=>J.nw 0 [] [] [] S1 3 (aP t) 75 fun b2 w2 S2=>J.nw 0 [] [] [] S2 4 dG 82 fun b3 w3 S3=>J.lb 4 [] [] [] S3 2 rfl 6 (.agg (vlA ta ra))<|J.lb 0 [] [] [] S3 1 rfl 7 (.agg (aJ t))<|J.c0 0 [] [] [] S3 8 hb161 (change_any ta ra t 1 _ (aq qa S3) fa ha (aq ht S3) ft om hu) fun w4 S4=>J.sb 2 [] [(10,iv 0)] [] S4 0 rfl (vlL t (du (ac ta ra*1) ta.aa t)) rfl fun w5 S5=>J.ez 2 [.agg (vlA t (du (ac ta ra*1) ta.aa t)),iv 0] func113 (bk (S5.nth 0 rfl) bn) (hR _ _ ?_)
 exact⟨rfl,S5.nil⟩

theorem hb118:af prog 118:=fun _ _=>by kernel_rfl

theorem fless_any (ta:Fxd) (ra:Int) (tb:Fxd) (rb:Int) (w:World) (qa:cE w ta) (fa:bP ta=true) (ha:inT ta ra) (qb:cE w tb) (fb:bP tb=true) (hb:inT tb rb) (hu:ct (au ta) (au tb)=true):Ret prog 118 #[.agg (vlA ta ra),.agg (vlA tb rb)] w (fun v w'=>v=.tuple #[.bool (!decide (ac tb rb*ta.aa≤ac ta ra*tb.aa)),iv 0]∧Sep w [] w'):=by
 refine Ret.st (N:=45) func118 fun R hR S0=>?_
 obtain ⟨q1,q2,q3,q4,q5,q6,q7,q8,q9,_⟩:=id qa
 obtain ⟨q10,q11,q12,q13,q14,q15,q16,q17,q18,_⟩:=id qb
 have hoa:=ep fa ha
 have hob:=ep fb hb
 have hp0:=dd (x:=ac ta ra) (y:=tb.aa) 4503600701112320 1048576 om om
 have hp1:=dd (x:=ac tb rb) (y:=ta.aa) 4503600701112320 1048576 om om
 refine J.nw 2 [] [] [] S0 2 (vlL ta ra) 82 fun b1 w1 S1=>J.nw 0 [] [] [] S1 3 (vlL tb rb) 82 fun b2 w2 S2=>J.lb 6 [] [] [] S2 1 rfl 10 (.agg (vlA ta ra))<|J.c0 0 [] [] [] S2 11 hb163 (valid4_any ta ra _ (aq qa S2) fa ha) fun w3 S3=>J.lb 2 [] [(13,.bool false)] [] S3 0 rfl 14 (.agg (vlA tb rb))<|J.c0 0 [] [] [] S3 15 hb163 (valid4_any tb rb _ (aq qb S3) fb hb) fun w4 S4=>J.lb 10 [false] [] [] S4 1 rfl 20 (.agg #[iv ta.ah,iv ta.ae,iv ta.ag,iv ta.aj,iv ta.ai])<|J.lb 2 [] [] [] S4 0 rfl 23 (.agg #[iv tb.ah,iv tb.ae,iv tb.ag,iv tb.aj,iv tb.ai])<|J.ok (OK.neUnt 24 (au ta) (au tb) kr) ?_
 have fk2:(ct (au ta) (au tb))=true:=hu
 refine J.h 1 [] [] [] 24 (.bool (!(ct (au ta) (au tb)))) (.bool false) (congrArg Value.bool (by rw[fk2];rfl))<|J.lb 4 [false] [] [] S4 1 rfl 26 (.agg (vlA ta ra))<|J.c0 0 [] [] [] S4 27 hb164 (number_any ta ra _ fa ha) fun w5 S5=>J.lb 8 [] [(7,iv ((ta).aa)),(6,iv (ac ta ra))] [] S5 0 rfl 31 (.agg (vlA tb rb))<|J.c0 0 [] [] [] S5 32 hb164 (number_any tb rb _ fb hb) fun w6 S6=>J.c0 9 [] [(9,iv ((tb).aa))] [] S6 36 hb165 (eg (ac tb rb) _ om) fun w7 S7=>J.c0 1 [] [] [] S7 38 eN (bQ (ac tb rb) ((ta).aa) _ cO om) fun w8 S8=>J.c0 1 [] [] [] S8 40 hb165 (eg (ac ta ra) _ om) fun w9 S9=>J.c0 1 [] [] [] S9 42 eN (bQ (ac ta ra) ((tb).aa) _ cO om) fun w10 S10=>J.c0 0 [] [] [] S10 43 hb167 (watmost_any ((ac tb rb)*((ta).aa)) ((ac ta ra)*((tb).aa)) _ cO cO) fun w11 S11=>J.e 4 [.bool (!(decide (((ac tb rb)*((ta).aa))≤((ac ta ra)*((tb).aa))))),iv 0] func118 (hR _ _ ?_)
 exact⟨rfl,S11.nil⟩

end Go.Proofs.YtaoolgcddapegaaGreatDoor

namespace Go.Proofs.YtaoolgcddapegaaGreatDoor
open Go.Eng Go.RowKit Go.Proofs.Tryz
set_option maxRecDepth 20000
set_option maxHeartbeats 20000000
def lagB (y r sh:Int):Bool:=decide (-1099511627776≤y∧y≤1099511627776)&&decide (0≤r)&&decide (r<2^sh.toNat)
def eq (y r x sh:Int):Int:=y+(x-y+r)/2^sh.toNat
def lagR (y r x sh:Int):Int:=x-y+r-(x-y+r)/2^sh.toNat*2^sh.toNat
def lagE (y r sh:Int):Int:=if lagB y r sh then 0 else 1
def lagP (y r x sh:Int):Int:=if lagB y r sh then eq y r x sh else 0
def lagQ (y r x sh:Int):Int:=if lagB y r sh then lagR y r x sh else 0
theorem lag_yes {y r x sh:Int} (h:lagB y r sh=true):lagE y r sh=0∧lagP y r x sh=eq y r x sh∧lagQ y r x sh=lagR y r x sh:=by unfold lagE lagP lagQ;rw[h];exact⟨rfl,rfl,rfl⟩
theorem lag_no {y r x sh:Int} (h:lagB y r sh=false):lagE y r sh=1∧lagP y r x sh=0∧lagQ y r x sh=0:=by unfold lagE lagP lagQ;rw[h];exact⟨rfl,rfl,rfl⟩
theorem lagB_no {y r sh:Int} (h:¬ (-1099511627776≤y∧y≤1099511627776)∨r<0∨2^sh.toNat≤r):lagB y r sh=false:=by
  unfold lagB
  rcases h with h | h | h
  · rw[decide_eq_false h];rfl
  · rw[decide_eq_false (show ¬ 0≤r by omega)];simp
  · rw[decide_eq_false (show ¬ r<2^sh.toNat by omega)];simp
theorem lagB_yes {y r sh:Int} (h1: -1099511627776≤y∧y≤1099511627776) (h2:0≤r) (h3:r<2^sh.toNat):lagB y r sh=true:=by
  unfold lagB;rw[decide_eq_true h1,decide_eq_true h2,decide_eq_true h3];rfl
theorem lagB_zero (sh:Int):lagB 0 0 sh=true:=lagB_yes om om (by exact_mod_cast Nat.two_pow_pos _)
theorem lagE_iff {y r sh:Int}:lagE y r sh=0↔lagB y r sh=true:=by unfold lagE;split<;>simp_all
theorem lag_bd {n:Int} {k:Nat} (h: -4398046511104≤n∧n≤4398046511104):(-4398046511104≤n/2^k∧n/2^k≤4398046511104)∧n/2^k*2^k≤n∧n<n/2^k*2^k+2^k:=by
  have hp:(1:Int)≤2^k:=by exact_mod_cast Nat.one_le_two_pow
  have h1:=Int.mul_ediv_add_emod n (2^k)
  have h2:=Int.emod_nonneg n (show(2:Int)^k≠0 by omega)
  have h3:=Int.emod_lt_of_pos n (show(0:Int)<2^k by omega)
  rw[Int.mul_comm] at h1
  refine⟨⟨?_,?_⟩,om,om⟩
  · exact Int.le_ediv_of_mul_le om om
  · refine Int.le_of_lt_add_one (Int.ediv_lt_of_lt_mul om ?_)
    have:=Int.mul_le_mul_of_nonneg_left hp (show(0:Int)≤4398046511105 by omega);omega
theorem pow_20 (sh:Int) (h:0≤sh∧sh≤20):(1:Int)≤2^sh.toNat∧(2:Int)^sh.toNat≤1048576:=by
  have h1:(1:Int)≤2^sh.toNat:=by exact_mod_cast Nat.one_le_two_pow
  have h2:(2:Int)^sh.toNat≤2^20:=by exact_mod_cast Nat.pow_le_pow_right om om
  omega
theorem shr_p {x y:Int} (hy:0≤y∧y≤64):Int.fdiv x (2^(min y.toNat 64))=x/2^y.toNat:=by
  rw[show min y.toNat 64=y.toNat by omega,Int.fdiv_eq_ediv_of_nonneg _ (by exact_mod_cast Nat.zero_le _)]
theorem shl_p {x y:Int} (hy:0≤y∧y≤64) (h: -9223372036854775808≤x*2^y.toNat∧x*2^y.toNat≤9223372036854775807):IntKind.wrap .i64 (x*2^(min y.toNat 64))=x*2^y.toNat:=by
  rw[show min y.toNat 64=y.toNat by omega];exact IntWalk.i64_in _ h
def arN (t:Fxd) (x:Int):Int:=ac t (ab t x)
def arE (op:Int) (tb:Fxd) (y:Int):Int:=if op=8∧arN tb y=0 then 10 else 0
def arV (op:Int) (ta tb t:Fxd) (x y:Int):Int :=
  if op=9 then du (arN ta x* -1) ta.aa t else if op=10 then du (arN ta x*1) ta.aa t
  else if op=13 then (if arN ta x*tb.aa<arN tb y*ta.aa then 1 else 0) else if op=14 then (if arN ta x*tb.aa=arN tb y*ta.aa then 1 else 0)
  else if arE op tb y=0 then opV (op-4) ta (ab ta x) tb (ab tb y) t else 0
def dP (b:Bool):Int:=if b then 1 else 0
def exE (p:Prg) (i:Ins) (rs:List Int):Int:=if el i.gOp then arE i.gOp (tyB p i.gOp i.gK) (rs.getD i.gC.toNat 0) else 0
def lgOK (i:Ins) (cs:List Int):Bool:=lagB (cs.getD (i.gK/32).toNat 0) (cs.getD (i.gK/32+1).toNat 0) (i.gK%32)
def lgX (x:Int):Int:=min (max x (-1099511627776)) 1099511627776
def lgY (i:Ins) (cs:List Int) (x:Int):Int:=if lgOK i cs then eq (cs.getD (i.gK/32).toNat 0) (cs.getD (i.gK/32+1).toNat 0) (lgX x) (i.gK%32) else eq 0 0 (lgX x) (i.gK%32)
def lgR (i:Ins) (cs:List Int) (x:Int):Int:=if lgOK i cs then lagR (cs.getD (i.gK/32).toNat 0) (cs.getD (i.gK/32+1).toNat 0) (lgX x) (i.gK%32) else lagR 0 0 (lgX x) (i.gK%32)
def lgC (i:Ins) (cs:List Int) (x:Int):List Int:=(cs.set (i.gK/32).toNat (lgY i cs x)).set (i.gK/32+1).toNat (lgR i cs x)
def exV (p:Prg) (i:Ins) (rs cs:List Int):Int :=
  if i.gOp=1 then i.gK else if i.gOp=2 then cs.getD i.gK.toNat 0 else if i.gOp=4 then rs.getD i.gB.toNat 0 else if i.gOp=11 then min (rs.getD i.gB.toNat 0) (rs.getD i.gC.toNat 0)
  else if i.gOp=12 then max (rs.getD i.gB.toNat 0) (rs.getD i.gC.toNat 0) else if i.gOp=15 then dP (decide (rs.getD i.gB.toNat 0<rs.getD i.gC.toNat 0)) else if i.gOp=16 then dP (!decide (rs.getD i.gB.toNat 0=0)&& !decide (rs.getD i.gC.toNat 0=0))
  else if i.gOp=17 then dP (!decide (rs.getD i.gB.toNat 0=0)|| !decide (rs.getD i.gC.toNat 0=0)) else if i.gOp=18 then dP (decide (rs.getD i.gB.toNat 0=0))
  else if i.gOp=19 then (if rs.getD i.gK.toNat 0=0 then rs.getD i.gC.toNat 0 else rs.getD i.gB.toNat 0) else if i.gOp=20 then atV (p.bN.getD i.gK.toNat (⟨none,0,0,[],none,0,0,[]⟩:Crv)) (rs.getD i.gB.toNat 0)
  else if i.gOp=21 then atF (p.cB.getD i.gK.toNat (⟨none,0,0,[],none,0,0,[],none,0,0,[]⟩:Mp)) (rs.getD i.gB.toNat 0) (rs.getD i.gC.toNat 0) else if i.gOp=22 then lgY i cs (rs.getD i.gB.toNat 0)
  else arV i.gOp (tyA p i.gOp i.gK) (tyB p i.gOp i.gK) (tyC p i.gOp i.gK) (rs.getD i.gB.toNat 0) (rs.getD i.gC.toNat 0)
def exR (p:Prg) (i:Ins) (rs cs:List Int):List Int:=if exE p i rs≠0∨i.gOp=3 then rs else rs.set i.gA.toNat (exV p i rs cs)
def exC (i:Ins) (rs cs:List Int):List Int:=if i.gOp=3 then cs.set i.gK.toNat (rs.getD i.gA.toNat 0) else if i.gOp=22 then lgC i cs (rs.getD i.gB.toNat 0) else cs
theorem exR_len (p:Prg) (i:Ins) (rs cs:List Int):(exR p i rs cs).length=rs.length:=by unfold exR;split<;>simp
theorem exC_len (i:Ins) (rs cs:List Int):(exC i rs cs).length=cs.length:=by unfold exC lgC;split<;>(try split)<;>simp
theorem ar_op {op k:Int} {ta tb t:Fxd} {x y:Int} (h:op=k+4) (hk:1≤k∧k≤4):arV op ta tb t x y=dt k ta (ab ta x) tb (ab tb y) t∧arE op tb y=opE k tb (ab tb y):=by
  subst h
  have e:arE (k+4) tb y=opE k tb (ab tb y):=by
    unfold arE opE arN
    by_cases h:k=4∧ac tb (ab tb y)=0
    · rw[if_pos h,if_pos ⟨om,h.2⟩]
    · rw[if_neg h,if_neg (fun e=>h ⟨om,e.2⟩)]
  refine⟨?_,e⟩
  unfold arV dt
  rw[if_neg om,if_neg om,if_neg om,if_neg om,e,show k+4-4=k by omega]
theorem unEq_symm {a b:Unt} (h:ct a b=true):ct b a=true:=eL.2 (eL.1 h).symm
theorem fits_typed {p:Prg} {i:Ins} (h:cT p i=true) (ht:el i.gOp):tyOK p i.gOp i.gK=true∧cW i.gOp (au (tyA p i.gOp i.gK)) (au (tyB p i.gOp i.gK)) (au (tyC p i.gOp i.gK))=true:=by
  unfold cT cv at h
  rw[if_neg om,if_neg om,if_neg om,if_neg om,if_pos ht] at h
  simp only[Bool.and_eq_true] at h
  exact h.2
theorem tyN_fix {p:Prg} {k:Int} (hv:p.ap.all bP=true) (hl:p.ap.length=p.al) (hk:0≤k) (h:k<(p.al:Int)):bP (tyN p k)=true:=(cN fx0).1 hv k.toNat om
theorem ar_facts {p:Prg} {i:Ins} (hv:dz p=true) (hl:p.ap.length=p.al) (hf:cT p i=true) (ht:el i.gOp) (hk:0≤i.gK) :
    bP (tyA p i.gOp i.gK)=true∧(i.gOp≠9∧i.gOp≠10→bP (tyB p i.gOp i.gK)=true)∧(i.gOp≠13∧i.gOp≠14→bP (tyC p i.gOp i.gK)=true)∧cW i.gOp (au (tyA p i.gOp i.gK)) (au (tyB p i.gOp i.gK)) (au (tyC p i.gOp i.gK))=true:=by
  obtain ⟨hok,hu⟩:=fits_typed hf ht
  obtain ⟨e1,e2,e3⟩:=ty_yes hok
  have h:=dM.1 hok
  have ha:=(dR hv).2.1
  refine⟨by rw[e1];exact tyN_fix ha hl om om,fun h2=>?_,fun h3=>?_,hu⟩
  · rw[e2,if_pos h2];exact tyN_fix ha hl om om
  · rw[e3,if_pos h3];exact tyN_fix ha hl om om
theorem un_neg {op:Int} {a b t:Unt} (h:cW op a b t=true) (ho:op=9∨op=10):ct a t=true:=by
  unfold cW at h;rw[if_neg om,if_neg om,if_neg om,if_pos ho] at h;exact h
theorem un_cmp {op:Int} {a b t:Unt} (h:cW op a b t=true) (ho:op=13∨op=14):ct a b=true:=by
  unfold cW at h;rw[if_neg om,if_neg om,if_neg om,if_neg om] at h;exact h
theorem ar_less {op:Int} {ta tb t:Fxd} {x y:Int} (h:op=13):arV op ta tb t x y=dP (!decide (ac tb (ab tb y)*ta.aa≤ac ta (ab ta x)*tb.aa))∧arE op tb y=0:=by
  subst h;refine⟨?_,rfl⟩
  unfold arV dP arN
  rw[if_neg om,if_neg om,if_pos rfl]
  by_cases h:ac tb (ab tb y)*ta.aa≤ac ta (ab ta x)*tb.aa
  · rw[if_neg om,decide_eq_true h];rfl
  · rw[if_pos om,decide_eq_false h];rfl
theorem ar_eq {op:Int} {ta tb t:Fxd} {x y:Int} (h:op=14) {b:Bool} (hb:b=true↔ac tb (ab tb y)*ta.aa≤ac ta (ab ta x)*tb.aa∧ac ta (ab ta x)*tb.aa≤ac tb (ab tb y)*ta.aa):arV op ta tb t x y=dP b∧arE op tb y=0:=by
  subst h;refine⟨?_,rfl⟩
  unfold arV dP arN
  rw[if_neg om,if_neg om,if_neg om,if_pos rfl]
  by_cases h:ac ta (ab ta x)*tb.aa=ac tb (ab tb y)*ta.aa
  · rw[if_pos h,if_pos (hb.2 om)]
  · rw[if_neg h,if_neg (fun e=>h (by have:=hb.1 e;omega))]
theorem ar_neg {op:Int} {ta tb t:Fxd} {x y:Int} (h:op=9):arV op ta tb t x y=du (ac ta (ab ta x)*(-1)) ta.aa t∧arE op tb y=0:=by subst h;exact⟨rfl,rfl⟩
theorem ar_conv {op:Int} {ta tb t:Fxd} {x y:Int} (h:op=10):arV op ta tb t x y=du (ac ta (ab ta x)*1) ta.aa t∧arE op tb y=0:=by subst h;exact⟨rfl,rfl⟩
theorem eP (a b:Int):(a != b)= !decide (a=b):=rfl
theorem eQ (a b:Int):(a==b)=decide (a=b):=rfl
theorem op_facts {p:Prg} {i:Ins} (h:cv p i=true):(i.gOp=2∨i.gOp=3→i.gK<p.aA)∧(i.gOp=20→i.gK<(p.bg:Int))∧(i.gOp=21→i.gK<(p.bI:Int))∧(i.gOp=22→i.gK/32+1<p.aA):=by
  unfold cv at h
  refine⟨fun e=>?_,fun e=>?_,fun e=>?_,fun e=>?_⟩
  · rw[if_pos e] at h;exact of_decide_eq_true h
  · rw[if_neg om,if_pos e] at h;exact of_decide_eq_true h
  · rw[if_neg om,if_neg om,if_pos e] at h;exact of_decide_eq_true h
  · rw[if_neg om,if_neg om,if_neg om,if_pos e] at h;exact of_decide_eq_true h
def goodP (p:Prg) (n:Nat):Bool:=dz p&&decide ((n:Int)=p.aA)
theorem goodP_iff {p:Prg} {n:Nat}:goodP p n=true↔dz p=true∧(n:Int)=p.aA:=by unfold goodP;rw[Bool.and_eq_true,decide_eq_true_iff]
def codeI (p:Prg) (k:Int):Ins:=p.aC.getD k.toNat bq
def inC (p:Prg) (l xs:List Int):Nat→List Int
  | 0=>l
  | k+1=>(inC p l xs k).set (p.ao.getD k 0).toNat (xs.getD k 0)
theorem inC_len (p:Prg) (l xs:List Int):∀ k,(inC p l xs k).length=l.length
  | 0=>rfl
  | k+1=>by rw[inC,List.length_set];exact inC_len p l xs k
def rnF (p:Prg) (rs cs:List Int):Nat→List Int×List Int
  | 0=>(rs,cs)
  | k+1=>(exR p (codeI p k) (rnF p rs cs k).1 (rnF p rs cs k).2,exC (codeI p k) (rnF p rs cs k).1 (rnF p rs cs k).2)
def rnE (p:Prg) (rs cs:List Int):Nat→Int
  | 0=>0
  | k+1=>if rnE p rs cs k=0 then exE p (codeI p k) (rnF p rs cs k).1 else rnE p rs cs k
theorem rnF_len (p:Prg) (rs cs:List Int):∀ k,(rnF p rs cs k).1.length=rs.length∧(rnF p rs cs k).2.length=cs.length
  | 0=>⟨rfl,rfl⟩
  | k+1=>⟨by rw[rnF,exR_len];exact(rnF_len p rs cs k).1,by rw[rnF,exC_len];exact(rnF_len p rs cs k).2⟩
theorem rnE_stop {p:Prg} {rs cs:List Int} {k:Nat} (h:rnE p rs cs k≠0):∀ n,k≤n→rnE p rs cs n=rnE p rs cs k
  | 0,hn=>by rw[show k=0 by omega]
  | n+1,hn=>by
    by_cases e:k=n+1
    · rw[e]
    · have ih:=rnE_stop h n om
      rw[rnE,ih,if_neg h]
abbrev zR:List Int:=List.replicate 16 0
def rgE (p:Prg) (n:Nat) (l xs:List Int):Int:=if goodP p n&&decide (xs.length=p.aE) then rnE p zR (inC p l xs p.aE) p.bu else 1
def rgS (p:Prg) (l xs:List Int):List Int×List Int:=rnF p zR (inC p l xs p.aE) p.bu
def outC (p:Prg) (cs:List Int) (k:Nat):List Int:=(p.aN.take k).map fun c=>cs.getD c.toNat 0
def runR (p:Prg) (n:Nat) (l xs:List Int):List Int:=if rgE p n l xs=0 then (rgS p l xs).1 else zR
def eW (p:Prg) (n:Nat) (l xs:List Int):List Int:=if rgE p n l xs=0 then (rgS p l xs).2 else []
def runO (p:Prg) (n:Nat) (l xs:List Int):List Int:=if rgE p n l xs=0 then outC p (rgS p l xs).2 p.aI else []
theorem run_bad {p:Prg} {n:Nat} {l xs:List Int} {e:Int} (h:rgE p n l xs=e) (he:e≠0):runR p n l xs=zR∧eW p n l xs=[]∧runO p n l xs=[]:=by
  unfold runR eW runO;rw[h,if_neg he,if_neg he,if_neg he];exact⟨rfl,rfl,rfl⟩
theorem run_ok {p:Prg} {n:Nat} {l xs:List Int} (h:rgE p n l xs=0):runR p n l xs=(rgS p l xs).1∧eW p n l xs=(rgS p l xs).2∧runO p n l xs=outC p (rgS p l xs).2 p.aI:=by
  unfold runR eW runO;rw[h];exact⟨rfl,rfl,rfl⟩

theorem hb159:af prog 159:=fun _ _=>by kernel_rfl

theorem fvalue_any (x:Int) (w:World):Ret prog 159 #[iv x] w (fun v w'=>v=.bool (decide (-1099511627776≤x∧x≤1099511627776))∧Sep w [] w'):=by
 refine Ret.st (N:=9) func159 fun R hR S0=>J.c 9 [] [] [] 5 (x≥(-1099511627776)) (fun fk1=>?_) fun fk1=>?_
 refine J.e 5 [.bool (decide (x≤1099511627776))] func159 (hR _ _ ?_)
 exact⟨congrArg Value.bool (by rw[Bool.eq_iff_iff];simp;omega),S0.nil⟩
 refine J.e 5 [.bool false] func159 (hR _ _ ?_)
 exact⟨congrArg Value.bool (by rw[Bool.eq_iff_iff];simp;omega),S0.nil⟩

theorem hb109:af prog 109:=fun _ _=>by kernel_rfl

theorem flag_any (y r x sh:Int) (w:World) (hs:0≤sh∧sh≤20) (hx: -1099511627776≤x∧x≤1099511627776):Ret prog 109 #[.agg #[iv y,iv r],iv x,iv sh] w (fun v w'=>v=.tuple #[.agg #[iv (lagP y r x sh),iv (lagQ y r x sh)],iv (lagE y r sh)]∧Sep w [] w'):=by
 refine Ret.st (N:=61) func109 fun R hR S0=>?_
 have hpw:=pow_bd (k:=sh.toNat) om
 have hbd:0≤r→r<2^sh.toNat→ -1099511627776≤y∧y≤1099511627776→_:=fun h1_ h2_ h3_=>lag_bd (n:=x-y+r) (k:=sh.toNat) (by have:=pow_20 sh hs;omega)
 have hp20:=pow_20 sh hs
 refine J.nw 2 [] [] [] S0 3 [iv y,iv r] 97 fun b1 w1 S1=>J.nw 0 [] [] [] S1 6 [iv 0,iv 0] 97 fun b2 w2 S2=>?_
 have fk2:¬ (sh<0):=by omega
 refine J.h 9 [] [] [] 13 (.bool (decide (sh<0))) (.bool false) (congrArg Value.bool (decide_eq_false fk2)) ?_
 have fk4:¬ (sh>20):=by omega
 refine J.h 5 [] [] [] 10 (.bool (decide (sh>20))) (.bool false) (congrArg Value.bool (decide_eq_false fk4))<|J.r 2 [false] [] [] ?_
 rcases Bool.eq_false_or_eq_true (decide (-1099511627776≤y∧y≤1099511627776)) with fk5 | fk5
 have fb1:=of_decide_eq_true fk5
 by_cases fk6:r<0
 refine J.drawPlan (fun w_=>Sep w [box b2 [iv 0,iv 0] 97,box b1 [iv y,iv r] 97] w_) [(0,true),(1,true),(2,false),(3,true),(4,true),(5,true),(6,true),(7,true),(8,true),(9,true),(10,true),(11,true),(12,true),(13,true),(14,true),(15,true),(16,true)] S2 Tryz.mixed kr (aF (T:=[(0,some 19,8),(1,some 20,524288),(2,some 21,1048576),(4,some 22,2097152),(12,some 23,4194304),(16,some 24,8388616),(48,some 25,25165824),(80,some 26,41943040),(144,some 27,75497472),(272,some 28,134217728),(512,some 29,268435464),(1536,some 30,805306368),(512,some 31,268435460),(4608,some 32,2415919104),(10752,some 33,5637144576),(16896,some 34,8858370048),(33280,some 18,17179869184)]) kr kr) ?_
 intro w3 S3
 refine PB.mk S3<|PL.take 0 19 (pv b1) (fun _ _=>kr)<|PL.takeOK 1 (fun w_ S_=>OK.ldBox S_ 1 20 3 0 (iv y) kr rfl kr) rfl<|PL.callF 21 159 #[iv y] hb159 kr (fvalue_any y _) ?_
 rintro _ w4 ⟨rfl,T1⟩
 have S4:Sep w [box b2 [iv 0,iv 0] 97,box b1 [iv y,iv r] 97] w4:=S3.trans T1
 clear T1 S3
 refine PB.head (.bool true) (congrArg Value.bool fk5)<|PB.mk S4<|PL.take 3 22 (.bool false) (fun _ _=>kr)<|PL.take 4 23 (.bool false) (fun _ _=>kr)<|PL.take 5 24 (.pointer (some ⟨b1,1,none⟩)) (fun _ _=>kr)<|PL.takeOK 6 (fun w_ S_=>OK.ldBox S_ 1 25 3 1 (iv r) kr rfl kr) rfl<|PL.take 7 26 (.bool (decide (r<0))) (fun _ _=>kr)<|PL.head (.bool true) (congrArg Value.bool (decide_eq_true fk6))<|PL.take 8 27 (.bool true) (fun _ _=>kr)<|PL.take 9 28 (.bool true) (fun _ _=>kr)<|PL.takePass 10 (some 29) kr ?_
 refine PL.takePass 11 (some 30) kr<|PL.takePass 12 (some 31) kr<|PL.takePass 13 (some 32) kr<|PL.takePass 14 (some 33) kr<|PL.take 15 34 (.bool true) (fun _ _=>kr)<|PL.take 16 18 (.bool true) (fun _ _=>kr)<|PL.done<|J.sb 4 [true] [] [] S4 0 rfl [iv 0,iv 0] rfl fun w5 S5=>J.ez 2 [.agg #[iv 0,iv 0],iv 1] func109 (bk (S5.nth 0 rfl) bn) (hR _ _ ?_)
 obtain ⟨e1,e2,e3⟩:=lag_no (x:=x) (lagB_no (y:=y) (r:=r) (sh:=sh) om)
 exact⟨by rw[e1,e2,e3];rfl,S5.nil⟩
 refine J.drawPlan (fun w_=>Sep w [box b2 [iv 0,iv 0] 97,box b1 [iv y,iv r] 97] w_) [(0,true),(1,true),(2,false),(3,true),(4,true),(5,true),(6,true),(7,true),(8,true),(9,true),(10,true),(11,true),(12,true),(13,true),(14,true),(15,true),(16,true)] S2 Tryz.mixed kr (aF (T:=[(0,some 19,8),(1,some 20,524288),(2,some 21,1048576),(4,some 22,2097152),(12,some 23,4194304),(16,some 24,8388616),(48,some 25,25165824),(80,some 26,41943040),(144,some 27,75497472),(272,some 28,134217728),(512,some 29,268435464),(1536,some 30,805306368),(512,some 31,268435460),(4608,some 32,2415919104),(10752,some 33,5637144576),(16896,some 34,8858370048),(33280,some 18,17179869184)]) kr kr) ?_
 intro w6 S6
 refine PB.mk S6<|PL.take 0 19 (pv b1) (fun _ _=>kr)<|PL.takeOK 1 (fun w_ S_=>OK.ldBox S_ 1 20 3 0 (iv y) kr rfl kr) rfl<|PL.callF 21 159 #[iv y] hb159 kr (fvalue_any y _) ?_
 rintro _ w7 ⟨rfl,T2⟩
 have S7:Sep w [box b2 [iv 0,iv 0] 97,box b1 [iv y,iv r] 97] w7:=S6.trans T2
 clear T2 S6
 refine PB.head (.bool true) (congrArg Value.bool fk5)<|PB.mk S7<|PL.take 3 22 (.bool false) (fun _ _=>kr)<|PL.take 4 23 (.bool false) (fun _ _=>kr)<|PL.take 5 24 (.pointer (some ⟨b1,1,none⟩)) (fun _ _=>kr)<|PL.takeOK 6 (fun w_ S_=>OK.ldBox S_ 1 25 3 1 (iv r) kr rfl kr) rfl<|PL.take 7 26 (.bool (decide (r<0))) (fun _ _=>kr)<|PL.head (.bool false) (congrArg Value.bool (decide_eq_false fk6))<|PL.take 8 27 (.bool false) (fun _ _=>kr)<|PL.take 9 28 (.bool false) (fun _ _=>kr)<|PL.take 10 29 (.pointer (some ⟨b1,1,none⟩)) (fun _ _=>kr) ?_
 refine PL.takeOK 11 (fun w_ S_=>OK.ldBox S_ 1 30 3 1 (iv r) kr rfl kr) rfl<|PL.take 12 31 (iv sh) (fun _ _=>kr)<|PL.takeOK 13 (fun w_ S_=>OK.shl 32 .i64 1 sh (2^(sh).toNat) kr om ((by rw[lim_shl om om,Int.one_mul]))) rfl<|PL.take 14 33 (.bool (decide (r≥(2^(sh).toNat)))) (fun _ _=>kr)<|PL.take 15 34 (.bool (decide (r≥(2^(sh).toNat)))) (fun _ _=>kr)<|PL.take 16 18 (.bool (decide (r≥(2^(sh).toNat)))) (fun _ _=>kr)<|PL.done<|J.c 0 [] [] [] 18 (r≥(2^(sh).toNat)) (fun fk7=>?_) fun fk7=>?_
 refine J.sb 4 [true] [] [] S7 0 rfl [iv 0,iv 0] rfl fun w8 S8=>J.ez 2 [.agg #[iv 0,iv 0],iv 1] func109 (bk (S8.nth 0 rfl) bn) (hR _ _ ?_)
 obtain ⟨e1,e2,e3⟩:=lag_no (x:=x) (lagB_no (y:=y) (r:=r) (sh:=sh) om)
 exact⟨by rw[e1,e2,e3];rfl,S8.nil⟩
 have hlb:=hbd om om om
 refine J.c0 4 [false] [] [] S7 38 hb159 (fvalue_any x _) fun w9 S9=>?_
 have fk9:(decide (-1099511627776≤x∧x≤1099511627776))=true:=decide_eq_true hx
 refine J.h 3 [] [] [] 36 (.bool (!(decide (-1099511627776≤x∧x≤1099511627776)))) (.bool false) (congrArg Value.bool (by rw[fk9];rfl))<|J.lb 7 [false] [(41,iv x)] [] S9 1 rfl 43 (iv y)<|J.wi 1 [] [] [] 44 (x-y)<|J.lb 1 [] [] [] S9 1 rfl 46 (iv r)<|J.wi 1 [] [] [] 47 ((x-y)+r)<|J.r 6 [] [(49,iv sh),(48,iv ((x-y)+r)),(8,iv ((x-y)+r))] []<|J.ok (OK.shr 50 .i64 ((x-y)+r) sh (((x-y)+r)/2^(sh).toNat) kr om ((shr_p om)))<|J.r 3 [] [(9,iv (((x-y)+r)/2^(sh).toNat))] []<|J.drawTail S9 10 Tryz.mixed kr kr ?_
 intro w10 S10
 refine SL.r 51 (pv b1)<|SL.lb S10 1 rfl 52 (iv y)<|SL.r 53 (iv (((x-y)+r)/2^(sh).toNat))<|SL.r 54 (iv (IntKind.wrap .i64 (y+(((x-y)+r)/2^(sh).toNat))))<|SL.head (iv (y+(((x-y)+r)/2^(sh).toNat))) (congrArg (Value.int .i64) (IntWalk.i64_in _ om))<|SL.r 55 (iv ((x-y)+r))<|SL.r 56 (iv (((x-y)+r)/2^(sh).toNat))<|SL.r 57 (iv sh)<|SL.ok dE (OK.shl 58 .i64 (((x-y)+r)/2^(sh).toNat) sh ((((x-y)+r)/2^(sh).toNat)*2^(sh).toNat) kr om ((shl_p om om)))<|SL.r 59 (iv (IntKind.wrap .i64 (((x-y)+r)-((((x-y)+r)/2^(sh).toNat)*2^(sh).toNat))))<|SL.head (iv (((x-y)+r)-((((x-y)+r)/2^(sh).toNat)*2^(sh).toNat))) (congrArg (Value.int .i64) (IntWalk.i64_in _ om)) ?_
 refine SL.r 60 (.agg #[iv (y+(((x-y)+r)/2^(sh).toNat)),iv (((x-y)+r)-((((x-y)+r)/2^(sh).toNat)*2^(sh).toNat))])<|SL.done<|TL.stBox S10 0 97 0 (.agg #[iv (y+(((x-y)+r)/2^(sh).toNat)),iv (((x-y)+r)-((((x-y)+r)/2^(sh).toNat)*2^(sh).toNat))]) [iv (y+(((x-y)+r)/2^(sh).toNat)),iv (((x-y)+r)-((((x-y)+r)/2^(sh).toNat)*2^(sh).toNat))] [box b2 [iv (y+(((x-y)+r)/2^(sh).toNat)),iv (((x-y)+r)-((((x-y)+r)/2^(sh).toNat)*2^(sh).toNat))] 97,box b1 [iv y,iv r] 97] kr rfl kr kr rfl ?_
 intro w11 S11
 refine TL.r 7 (iv 0)<|TL.done kr<|J.ez 0 [.agg #[iv (y+(((x-y)+r)/2^(sh).toNat)),iv (((x-y)+r)-((((x-y)+r)/2^(sh).toNat)*2^(sh).toNat))],iv 0] func109 (bk (S11.nth 0 rfl) bn) (hR _ _ ?_)
 obtain ⟨e1,e2,e3⟩:=lag_yes (x:=x) (lagB_yes (y:=y) (r:=r) (sh:=sh) om om om)
 exact⟨by rw[e1,e2,e3];rfl,S11.nil⟩
 have fb3:=of_decide_eq_false fk5
 refine J.drawPlan (fun w_=>Sep w [box b2 [iv 0,iv 0] 97,box b1 [iv y,iv r] 97] w_) [(0,true),(1,true),(2,false),(3,true),(4,true),(5,true),(6,true),(7,true),(8,true),(9,true),(10,true),(11,true),(12,true),(13,true),(14,true),(15,true),(16,true)] S2 Tryz.mixed kr (aF (T:=[(0,some 19,8),(1,some 20,524288),(2,some 21,1048576),(4,some 22,2097152),(12,some 23,4194304),(16,some 24,8388616),(48,some 25,25165824),(80,some 26,41943040),(144,some 27,75497472),(272,some 28,134217728),(512,some 29,268435464),(1536,some 30,805306368),(512,some 31,268435460),(4608,some 32,2415919104),(10752,some 33,5637144576),(16896,some 34,8858370048),(33280,some 18,17179869184)]) kr kr) ?_
 intro w12 S12
 refine PB.mk S12<|PL.take 0 19 (pv b1) (fun _ _=>kr)<|PL.takeOK 1 (fun w_ S_=>OK.ldBox S_ 1 20 3 0 (iv y) kr rfl kr) rfl<|PL.callF 21 159 #[iv y] hb159 kr (fvalue_any y _) ?_
 rintro _ w13 ⟨rfl,T3⟩
 have S13:Sep w [box b2 [iv 0,iv 0] 97,box b1 [iv y,iv r] 97] w13:=S12.trans T3
 clear T3 S12
 refine PB.head (.bool false) (congrArg Value.bool fk5)<|PB.mk S13<|PL.take 3 22 (.bool true) (fun _ _=>kr)<|PL.take 4 23 (.bool true) (fun _ _=>kr)<|PL.takePass 5 (some 24) kr<|PL.takePass 6 (some 25) kr<|PL.takePass 7 (some 26) kr<|PL.take 8 27 (.bool true) (fun _ _=>kr)<|PL.take 9 28 (.bool true) (fun _ _=>kr)<|PL.takePass 10 (some 29) kr<|PL.takePass 11 (some 30) kr ?_
 refine PL.takePass 12 (some 31) kr<|PL.takePass 13 (some 32) kr<|PL.takePass 14 (some 33) kr<|PL.take 15 34 (.bool true) (fun _ _=>kr)<|PL.take 16 18 (.bool true) (fun _ _=>kr)<|PL.done<|J.sb 4 [true] [] [] S13 0 rfl [iv 0,iv 0] rfl fun w14 S14=>J.ez 2 [.agg #[iv 0,iv 0],iv 1] func109 (bk (S14.nth 0 rfl) bn) (hR _ _ ?_)
 obtain ⟨e1,e2,e3⟩:=lag_no (x:=x) (lagB_no (y:=y) (r:=r) (sh:=sh) om)
 exact⟨by rw[e1,e2,e3];rfl,S14.nil⟩

theorem hb62:af prog 62:=fun _ _=>by kernel_rfl

theorem eu (b:Bool) (w:World):Ret prog 62 #[.bool b] w (fun v w'=>v=iv (dP b)∧Sep w [] w'):=by
 refine Ret.st (N:=4) func62 fun R hR S0=>J.b 9 [] [] [] 3 b (fun fk1=>?_) fun fk1=>?_
 refine J.e 5 [iv 1] func62 (hR _ _ ?_)
 exact⟨congrArg (Value.int .i64) (by unfold dP;rw[fk1];rfl),S0.nil⟩
 refine J.e 6 [iv 0] func62 (hR _ _ ?_)
 exact⟨congrArg (Value.int .i64) (by unfold dP;rw[fk1];rfl),S0.nil⟩

theorem hb111:af prog 111:=fun _ _=>by kernel_rfl

theorem mvalue_any (t:Fxd) (x:Int) (w:World) (ht:cE w t):Ret prog 111 #[.agg (aJ t),iv x] w (fun v w'=>v=.agg (vlA t (ab t x))∧Sep w [] w'):=by
 refine Ret.st (N:=19) func111 fun R hR S0=>?_
 obtain ⟨q1,q2,q3,q4,q5,q6,q7,q8,q9,_⟩:=id ht
 refine J.nw 2 [] [] [] S0 2 (aP t) 75 fun b1 w1 S1=>J.nw 0 [] [] [] S1 4 [iv 0,.bool false,iv 0,iv 0,iv 0,iv 0,iv 0,iv 0,iv 0,iv 0,iv 0] 82 fun b2 w2 S2=>J.lb 3 [] [] [] S2 1 rfl 8 (.agg (aJ t))<|J.c0 0 [] [] [] S2 9 hb160 (lim_any t _ (aq ht S2)) fun w3 S3=>?_
 have hlim:=lim_bd (t)
 refine J.lb 8 [] [(6,iv (bZ t)),(5,iv (bW t))] [] S3 1 rfl 12 (.agg (aJ t))<|J.h 3 [] [] [] 15 (iv (if (bW t)>x then (bW t) else x)) (iv (max x (bW t))) (congrArg (Value.int .i64) om)<|J.h 2 [] [] [] 17 (iv (if (bZ t)<(max x (bW t)) then (bZ t) else (max x (bW t)))) (iv (min (max x (bW t)) (bZ t))) (congrArg (Value.int .i64) om)<|J.sb 1 [] [] [] S3 0 rfl (vlL t (min (max x (bW t)) (bZ t))) rfl fun w4 S4=>J.ez 1 [.agg (vlA t (min (max x (bW t)) (bZ t)))] func111 (bk (S4.nth 0 rfl) bn) (hR _ _ ?_)
 exact⟨rfl,S4.nil⟩
theorem hb66:af prog 66:=fun _ _=>by kernel_rfl

theorem arith_any (p:Prg) (i:Ins) (x y:Int) (w:World) (hp:prgQ w p) (hi:insQ w i) (hv:dz p=true) (hf:cT p i=true) (htp:el i.gOp):Ret prog 66 #[.agg (eb p),.agg (dm i),iv x,iv y] w (fun v w'=>v=.tuple #[iv (arV i.gOp (tyA p i.gOp i.gK) (tyB p i.gOp i.gK) (tyC p i.gOp i.gK) x y),iv (arE i.gOp (tyB p i.gOp i.gK) y)]∧Sep w [] w'):=by
 refine Ret.st (N:=119) func66 fun R hR S0=>?_
 obtain ⟨q1,q2,q3,q4,q5,q6,q7,q8,q9,q10,q11,q12,q13,q14,q15,q16,q17,q18,q19,q20,q21,q22,q23,q24,q25,_⟩:=id hp
 have ql1:=q2.len_eq
 have ql2:=q5.len_eq
 have ql3:=q8.len_eq
 have ql4:=q11.len_eq
 have ql5:=q15.len_eq
 have ql6:=q18.len_eq
 have ql7:=q21.len_eq
 have ql8:=q24.len_eq
 obtain ⟨q26,q27,q28,q29,q30,_⟩:=id hi
 have hfp:=dO.1 (fits_form hf).1
 have hlt:p.ap.length=p.al:=by omega
 obtain ⟨hfa,hfb,hfc,hun⟩:=ar_facts hv hlt hf htp om
 refine J.nw 2 [] [] [] S0 4 (ba p) 28 fun b1 w1 S1=>J.nw 0 [] [] [] S1 5 (aR i) 48 fun b2 w2 S2=>J.lb 5 [] [] [] S2 1 rfl 23 (.agg (eb p))<|J.lb 0 [] [] [] S2 0 rfl 24 (.agg (dm i))<|J.c0 0 [] [] [] S2 25 hb110 (types_any p i _ (dN hp S2) (df hi S2) om) fun w3 S3=>?_
 obtain ⟨hty1a,hty1b,hty1c⟩:=ty_q (w:=w) (op:=(i).gOp) (k:=(i).gK) q6
 refine J.nw 5 [] [(29,.bool (tyOK p (i).gOp (i).gK)),(28,.agg (aJ (tyC p (i).gOp (i).gK))),(27,.agg (aJ (tyB p (i).gOp (i).gK))),(26,.agg (aJ (tyA p (i).gOp (i).gK)))] [] S3 10 [iv 0,.bool false,iv 0,iv 0,iv 0,iv 0,iv 0,iv 0,iv 0,iv 0] 75 fun b3 w4 S4=>J.nw 0 [] [] [] S4 11 [iv 0,.bool false,iv 0,iv 0,iv 0,iv 0,iv 0,iv 0,iv 0,iv 0] 75 fun b4 w5 S5=>J.nw 0 [] [] [] S5 12 [iv 0,.bool false,iv 0,iv 0,iv 0,iv 0,iv 0,iv 0,iv 0,iv 0] 75 fun b5 w6 S6=>J.sb 0 [] [] [] S6 2 rfl (aP (tyA p (i).gOp (i).gK)) rfl fun w7 S7=>J.sb 0 [] [] [] S7 1 rfl (aP (tyB p (i).gOp (i).gK)) rfl fun w8 S8=>J.sb 0 [] [] [] S8 0 rfl (aP (tyC p (i).gOp (i).gK)) rfl fun w9 S9=>J.lb 4 [] [] [] S9 2 rfl 30 (.agg (aJ (tyA p (i).gOp (i).gK)))<|J.c0 1 [] [] [] S9 32 hb111 (mvalue_any (tyA p (i).gOp (i).gK) x _ (aq hty1a S9)) fun w10 S10=>J.nw 0 [] [] [] S10 14 [iv 0,.bool false,iv 0,iv 0,iv 0,iv 0,iv 0,iv 0,iv 0,iv 0,iv 0] 82 fun b6 w11 S11=>J.sb 0 [] [] [] S11 0 rfl (vlL (tyA p (i).gOp (i).gK) (ab (tyA p (i).gOp (i).gK) x)) rfl fun w12 S12=>J.nw 3 [] [] [] S12 15 [iv 0,.bool false,iv 0,iv 0,iv 0,iv 0,iv 0,iv 0,iv 0,iv 0,iv 0] 82 fun b7 w13 S13=>?_
 refine J.lb 9 [] [] [] S13 5 rfl 34 (iv i.gOp)<|J.c 7 [] [] [] 100 (i.gOp=9) (fun fk1=>?_) fun fk1=>?_
 refine J.lb 2 [true] [] [] S13 1 rfl 103 (.agg (vlA (tyA p (i).gOp (i).gK) (ab (tyA p (i).gOp (i).gK) x)))<|J.lb 0 [] [] [] S13 2 rfl 104 (.agg (aJ (tyC p (i).gOp (i).gK)))<|J.c0 0 [] [] [] S13 105 hb112 (fneg_any (tyA p (i).gOp (i).gK) (ab (tyA p (i).gOp (i).gK) x) (tyC p (i).gOp (i).gK) _ (aq hty1a S13) hfa (bF _ _) (aq hty1c S13) (hfc om) (un_neg hun om)) fun w14 S14=>J.sb 3 [] [(107,iv 0)] [] S14 0 rfl (vlL (tyC p (i).gOp (i).gK) (du (ac (tyA p (i).gOp (i).gK) (ab (tyA p (i).gOp (i).gK) x)*(-1)) (tyA p (i).gOp (i).gK).aa (tyC p (i).gOp (i).gK))) rfl fun w15 S15=>J.lb 6 [] [(16,iv 0)] [] S15 0 rfl 117 (iv (du (ac (tyA p (i).gOp (i).gK) (ab (tyA p (i).gOp (i).gK) x)*(-1)) (tyA p (i).gOp (i).gK).aa (tyC p (i).gOp (i).gK)))<|J.e 4 [iv (du (ac (tyA p (i).gOp (i).gK) (ab (tyA p (i).gOp (i).gK) x)*(-1)) (tyA p (i).gOp (i).gK).aa (tyC p (i).gOp (i).gK)),iv 0] func66 (hR _ _ ?_)
 have e0:arV i.gOp (tyA p i.gOp i.gK) (tyB p i.gOp i.gK) (tyC p i.gOp i.gK) x y=du (ac (tyA p (i).gOp (i).gK) (ab (tyA p (i).gOp (i).gK) x)*(-1)) (tyA p (i).gOp (i).gK).aa (tyC p (i).gOp (i).gK)∧arE i.gOp (tyB p i.gOp i.gK) y=0:=ar_neg om
 exact⟨by rw[e0.1,e0.2];rfl,S15.nil⟩
 refine J.c 6 [false] [] [] 108 (i.gOp=10) (fun fk2=>?_) fun fk2=>?_
 refine J.lb 2 [true] [] [] S13 1 rfl 111 (.agg (vlA (tyA p (i).gOp (i).gK) (ab (tyA p (i).gOp (i).gK) x)))<|J.lb 0 [] [] [] S13 2 rfl 112 (.agg (aJ (tyC p (i).gOp (i).gK)))<|J.c0 0 [] [] [] S13 113 hb113 (fconv_any (tyA p (i).gOp (i).gK) (ab (tyA p (i).gOp (i).gK) x) (tyC p (i).gOp (i).gK) _ (aq hty1a S13) hfa (bF _ _) (aq hty1c S13) (hfc om) (un_neg hun om)) fun w16 S16=>J.sb 3 [] [(115,iv 0)] [] S16 0 rfl (vlL (tyC p (i).gOp (i).gK) (du (ac (tyA p (i).gOp (i).gK) (ab (tyA p (i).gOp (i).gK) x)*1) (tyA p (i).gOp (i).gK).aa (tyC p (i).gOp (i).gK))) rfl fun w17 S17=>J.lb 6 [] [(16,iv 0)] [] S17 0 rfl 117 (iv (du (ac (tyA p (i).gOp (i).gK) (ab (tyA p (i).gOp (i).gK) x)*1) (tyA p (i).gOp (i).gK).aa (tyC p (i).gOp (i).gK)))<|J.e 4 [iv (du (ac (tyA p (i).gOp (i).gK) (ab (tyA p (i).gOp (i).gK) x)*1) (tyA p (i).gOp (i).gK).aa (tyC p (i).gOp (i).gK)),iv 0] func66 (hR _ _ ?_)
 have e0:arV i.gOp (tyA p i.gOp i.gK) (tyB p i.gOp i.gK) (tyC p i.gOp i.gK) x y=du (ac (tyA p (i).gOp (i).gK) (ab (tyA p (i).gOp (i).gK) x)*1) (tyA p (i).gOp (i).gK).aa (tyC p (i).gOp (i).gK)∧arE i.gOp (tyB p i.gOp i.gK) y=0:=ar_conv om
 exact⟨by rw[e0.1,e0.2];rfl,S17.nil⟩
 refine J.lb 3 [false] [] [] S13 3 rfl 35 (.agg (aJ (tyB p (i).gOp (i).gK)))<|J.c0 1 [] [] [] S13 37 hb111 (mvalue_any (tyB p (i).gOp (i).gK) y _ (aq hty1b S13)) fun w18 S18=>J.nw 0 [] [] [] S18 17 [iv 0,.bool false,iv 0,iv 0,iv 0,iv 0,iv 0,iv 0,iv 0,iv 0,iv 0] 82 fun b8 w19 S19=>J.sb 0 [] [] [] S19 0 rfl (vlL (tyB p (i).gOp (i).gK) (ab (tyB p (i).gOp (i).gK) y)) rfl fun w20 S20=>J.lb 4 [] [] [] S20 6 rfl 39 (iv i.gOp)<|J.c 7 [] [] [] 64 (i.gOp=5) (fun fk3=>?_) fun fk3=>?_
 refine J.lb 2 [true] [] [] S20 2 rfl 67 (.agg (vlA (tyA p (i).gOp (i).gK) (ab (tyA p (i).gOp (i).gK) x)))<|J.lb 0 [] [] [] S20 0 rfl 68 (.agg (vlA (tyB p (i).gOp (i).gK) (ab (tyB p (i).gOp (i).gK) y)))<|J.lb 0 [] [] [] S20 3 rfl 69 (.agg (aJ (tyC p (i).gOp (i).gK)))<|J.c0 0 [] [] [] S20 70 hb114 (fop1_any (tyA p (i).gOp (i).gK) (ab (tyA p (i).gOp (i).gK) x) (tyB p (i).gOp (i).gK) (ab (tyB p (i).gOp (i).gK) y) (tyC p (i).gOp (i).gK) _ (aq hty1a S20) hfa (bF _ _) (aq hty1b S20) (hfb om) (bF _ _) (aq hty1c S20) (hfc om) (by have h_:=fit_of hun om;rwa [show i.gOp-4=1 by omega] at h_)) fun w21 S21=>J.sb 3 [] [(72,iv (opE 1 (tyB p (i).gOp (i).gK) (ab (tyB p (i).gOp (i).gK) y)))] [] S21 1 rfl (vlL (eM 1 (tyB p (i).gOp (i).gK) (ab (tyB p (i).gOp (i).gK) y) (tyC p (i).gOp (i).gK)) (dt 1 (tyA p (i).gOp (i).gK) (ab (tyA p (i).gOp (i).gK) x) (tyB p (i).gOp (i).gK) (ab (tyB p (i).gOp (i).gK) y) (tyC p (i).gOp (i).gK))) rfl fun w22 S22=>J.lb 7 [] [(16,iv (opE 1 (tyB p (i).gOp (i).gK) (ab (tyB p (i).gOp (i).gK) y)))] [] S22 1 rfl 117 (iv (dt 1 (tyA p (i).gOp (i).gK) (ab (tyA p (i).gOp (i).gK) x) (tyB p (i).gOp (i).gK) (ab (tyB p (i).gOp (i).gK) y) (tyC p (i).gOp (i).gK)))<|J.e 4 [iv (dt 1 (tyA p (i).gOp (i).gK) (ab (tyA p (i).gOp (i).gK) x) (tyB p (i).gOp (i).gK) (ab (tyB p (i).gOp (i).gK) y) (tyC p (i).gOp (i).gK)),iv (opE 1 (tyB p (i).gOp (i).gK) (ab (tyB p (i).gOp (i).gK) y))] func66 (hR _ _ ?_)
 have e0:arV i.gOp (tyA p i.gOp i.gK) (tyB p i.gOp i.gK) (tyC p i.gOp i.gK) x y=dt 1 (tyA p (i).gOp (i).gK) (ab (tyA p (i).gOp (i).gK) x) (tyB p (i).gOp (i).gK) (ab (tyB p (i).gOp (i).gK) y) (tyC p (i).gOp (i).gK)∧arE i.gOp (tyB p i.gOp i.gK) y=opE 1 (tyB p (i).gOp (i).gK) (ab (tyB p (i).gOp (i).gK) y):=ar_op (k:=1) om om
 exact⟨by rw[e0.1,e0.2];rfl,S22.nil⟩
 refine J.c 6 [false] [] [] 73 (i.gOp=6) (fun fk4=>?_) fun fk4=>?_
 refine J.lb 2 [true] [] [] S20 2 rfl 76 (.agg (vlA (tyA p (i).gOp (i).gK) (ab (tyA p (i).gOp (i).gK) x)))<|J.lb 0 [] [] [] S20 0 rfl 77 (.agg (vlA (tyB p (i).gOp (i).gK) (ab (tyB p (i).gOp (i).gK) y)))<|J.lb 0 [] [] [] S20 3 rfl 78 (.agg (aJ (tyC p (i).gOp (i).gK)))<|J.c0 0 [] [] [] S20 79 hb115 (fop2_any (tyA p (i).gOp (i).gK) (ab (tyA p (i).gOp (i).gK) x) (tyB p (i).gOp (i).gK) (ab (tyB p (i).gOp (i).gK) y) (tyC p (i).gOp (i).gK) _ (aq hty1a S20) hfa (bF _ _) (aq hty1b S20) (hfb om) (bF _ _) (aq hty1c S20) (hfc om) (by have h_:=fit_of hun om;rwa [show i.gOp-4=2 by omega] at h_)) fun w23 S23=>J.sb 3 [] [(81,iv (opE 2 (tyB p (i).gOp (i).gK) (ab (tyB p (i).gOp (i).gK) y)))] [] S23 1 rfl (vlL (eM 2 (tyB p (i).gOp (i).gK) (ab (tyB p (i).gOp (i).gK) y) (tyC p (i).gOp (i).gK)) (dt 2 (tyA p (i).gOp (i).gK) (ab (tyA p (i).gOp (i).gK) x) (tyB p (i).gOp (i).gK) (ab (tyB p (i).gOp (i).gK) y) (tyC p (i).gOp (i).gK))) rfl fun w24 S24=>J.lb 7 [] [(16,iv (opE 2 (tyB p (i).gOp (i).gK) (ab (tyB p (i).gOp (i).gK) y)))] [] S24 1 rfl 117 (iv (dt 2 (tyA p (i).gOp (i).gK) (ab (tyA p (i).gOp (i).gK) x) (tyB p (i).gOp (i).gK) (ab (tyB p (i).gOp (i).gK) y) (tyC p (i).gOp (i).gK)))<|J.e 4 [iv (dt 2 (tyA p (i).gOp (i).gK) (ab (tyA p (i).gOp (i).gK) x) (tyB p (i).gOp (i).gK) (ab (tyB p (i).gOp (i).gK) y) (tyC p (i).gOp (i).gK)),iv (opE 2 (tyB p (i).gOp (i).gK) (ab (tyB p (i).gOp (i).gK) y))] func66 (hR _ _ ?_)
 have e0:arV i.gOp (tyA p i.gOp i.gK) (tyB p i.gOp i.gK) (tyC p i.gOp i.gK) x y=dt 2 (tyA p (i).gOp (i).gK) (ab (tyA p (i).gOp (i).gK) x) (tyB p (i).gOp (i).gK) (ab (tyB p (i).gOp (i).gK) y) (tyC p (i).gOp (i).gK)∧arE i.gOp (tyB p i.gOp i.gK) y=opE 2 (tyB p (i).gOp (i).gK) (ab (tyB p (i).gOp (i).gK) y):=ar_op (k:=2) om om
 exact⟨by rw[e0.1,e0.2];rfl,S24.nil⟩
 refine J.c 6 [false] [] [] 82 (i.gOp=7) (fun fk5=>?_) fun fk5=>?_
 refine J.lb 2 [true] [] [] S20 2 rfl 85 (.agg (vlA (tyA p (i).gOp (i).gK) (ab (tyA p (i).gOp (i).gK) x)))<|J.lb 0 [] [] [] S20 0 rfl 86 (.agg (vlA (tyB p (i).gOp (i).gK) (ab (tyB p (i).gOp (i).gK) y)))<|J.lb 0 [] [] [] S20 3 rfl 87 (.agg (aJ (tyC p (i).gOp (i).gK)))<|J.c0 0 [] [] [] S20 88 hb116 (fop3_any (tyA p (i).gOp (i).gK) (ab (tyA p (i).gOp (i).gK) x) (tyB p (i).gOp (i).gK) (ab (tyB p (i).gOp (i).gK) y) (tyC p (i).gOp (i).gK) _ (aq hty1a S20) hfa (bF _ _) (aq hty1b S20) (hfb om) (bF _ _) (aq hty1c S20) (hfc om) (by have h_:=fit_of hun om;rwa [show i.gOp-4=3 by omega] at h_)) fun w25 S25=>J.sb 3 [] [(90,iv (opE 3 (tyB p (i).gOp (i).gK) (ab (tyB p (i).gOp (i).gK) y)))] [] S25 1 rfl (vlL (eM 3 (tyB p (i).gOp (i).gK) (ab (tyB p (i).gOp (i).gK) y) (tyC p (i).gOp (i).gK)) (dt 3 (tyA p (i).gOp (i).gK) (ab (tyA p (i).gOp (i).gK) x) (tyB p (i).gOp (i).gK) (ab (tyB p (i).gOp (i).gK) y) (tyC p (i).gOp (i).gK))) rfl fun w26 S26=>J.lb 7 [] [(16,iv (opE 3 (tyB p (i).gOp (i).gK) (ab (tyB p (i).gOp (i).gK) y)))] [] S26 1 rfl 117 (iv (dt 3 (tyA p (i).gOp (i).gK) (ab (tyA p (i).gOp (i).gK) x) (tyB p (i).gOp (i).gK) (ab (tyB p (i).gOp (i).gK) y) (tyC p (i).gOp (i).gK)))<|J.e 4 [iv (dt 3 (tyA p (i).gOp (i).gK) (ab (tyA p (i).gOp (i).gK) x) (tyB p (i).gOp (i).gK) (ab (tyB p (i).gOp (i).gK) y) (tyC p (i).gOp (i).gK)),iv (opE 3 (tyB p (i).gOp (i).gK) (ab (tyB p (i).gOp (i).gK) y))] func66 (hR _ _ ?_)
 have e0:arV i.gOp (tyA p i.gOp i.gK) (tyB p i.gOp i.gK) (tyC p i.gOp i.gK) x y=dt 3 (tyA p (i).gOp (i).gK) (ab (tyA p (i).gOp (i).gK) x) (tyB p (i).gOp (i).gK) (ab (tyB p (i).gOp (i).gK) y) (tyC p (i).gOp (i).gK)∧arE i.gOp (tyB p i.gOp i.gK) y=opE 3 (tyB p (i).gOp (i).gK) (ab (tyB p (i).gOp (i).gK) y):=ar_op (k:=3) om om
 exact⟨by rw[e0.1,e0.2];rfl,S26.nil⟩
 refine J.c 6 [false] [] [] 91 (i.gOp=8) (fun fk6=>?_) fun fk6=>?_
 refine J.lb 2 [true] [] [] S20 2 rfl 94 (.agg (vlA (tyA p (i).gOp (i).gK) (ab (tyA p (i).gOp (i).gK) x)))<|J.lb 0 [] [] [] S20 0 rfl 95 (.agg (vlA (tyB p (i).gOp (i).gK) (ab (tyB p (i).gOp (i).gK) y)))<|J.lb 0 [] [] [] S20 3 rfl 96 (.agg (aJ (tyC p (i).gOp (i).gK)))<|J.c0 0 [] [] [] S20 97 hb117 (fop4_any (tyA p (i).gOp (i).gK) (ab (tyA p (i).gOp (i).gK) x) (tyB p (i).gOp (i).gK) (ab (tyB p (i).gOp (i).gK) y) (tyC p (i).gOp (i).gK) _ (aq hty1a S20) hfa (bF _ _) (aq hty1b S20) (hfb om) (bF _ _) (aq hty1c S20) (hfc om) (by have h_:=fit_of hun om;rwa [show i.gOp-4=4 by omega] at h_)) fun w27 S27=>J.sb 3 [] [(99,iv (opE 4 (tyB p (i).gOp (i).gK) (ab (tyB p (i).gOp (i).gK) y)))] [] S27 1 rfl (vlL (eM 4 (tyB p (i).gOp (i).gK) (ab (tyB p (i).gOp (i).gK) y) (tyC p (i).gOp (i).gK)) (dt 4 (tyA p (i).gOp (i).gK) (ab (tyA p (i).gOp (i).gK) x) (tyB p (i).gOp (i).gK) (ab (tyB p (i).gOp (i).gK) y) (tyC p (i).gOp (i).gK))) rfl fun w28 S28=>J.lb 7 [] [(16,iv (opE 4 (tyB p (i).gOp (i).gK) (ab (tyB p (i).gOp (i).gK) y)))] [] S28 1 rfl 117 (iv (dt 4 (tyA p (i).gOp (i).gK) (ab (tyA p (i).gOp (i).gK) x) (tyB p (i).gOp (i).gK) (ab (tyB p (i).gOp (i).gK) y) (tyC p (i).gOp (i).gK)))<|J.e 4 [iv (dt 4 (tyA p (i).gOp (i).gK) (ab (tyA p (i).gOp (i).gK) x) (tyB p (i).gOp (i).gK) (ab (tyB p (i).gOp (i).gK) y) (tyC p (i).gOp (i).gK)),iv (opE 4 (tyB p (i).gOp (i).gK) (ab (tyB p (i).gOp (i).gK) y))] func66 (hR _ _ ?_)
 have e0:arV i.gOp (tyA p i.gOp i.gK) (tyB p i.gOp i.gK) (tyC p i.gOp i.gK) x y=dt 4 (tyA p (i).gOp (i).gK) (ab (tyA p (i).gOp (i).gK) x) (tyB p (i).gOp (i).gK) (ab (tyB p (i).gOp (i).gK) y) (tyC p (i).gOp (i).gK)∧arE i.gOp (tyB p i.gOp i.gK) y=opE 4 (tyB p (i).gOp (i).gK) (ab (tyB p (i).gOp (i).gK) y):=ar_op (k:=4) om om
 exact⟨by rw[e0.1,e0.2];rfl,S28.nil⟩
 refine J.lb 3 [false] [] [] S20 2 rfl 41 (.agg (vlA (tyA p (i).gOp (i).gK) (ab (tyA p (i).gOp (i).gK) x)))<|J.lb 0 [] [] [] S20 0 rfl 42 (.agg (vlA (tyB p (i).gOp (i).gK) (ab (tyB p (i).gOp (i).gK) y)))<|J.c0 0 [] [] [] S20 43 hb118 (fless_any (tyA p (i).gOp (i).gK) (ab (tyA p (i).gOp (i).gK) x) (tyB p (i).gOp (i).gK) (ab (tyB p (i).gOp (i).gK) y) _ (aq hty1a S20) hfa (bF _ _) (aq hty1b S20) (hfb om) (bF _ _) (un_cmp hun om)) fun w29 S29=>J.lb 8 [] [(18,.bool (!decide (ac (tyB p (i).gOp (i).gK) (ab (tyB p (i).gOp (i).gK) y)*(tyA p (i).gOp (i).gK).aa≤ac (tyA p (i).gOp (i).gK) (ab (tyA p (i).gOp (i).gK) x)*(tyB p (i).gOp (i).gK).aa)))] [] S29 0 rfl 47 (.agg (vlA (tyB p (i).gOp (i).gK) (ab (tyB p (i).gOp (i).gK) y)))<|J.lb 0 [] [] [] S29 2 rfl 48 (.agg (vlA (tyA p (i).gOp (i).gK) (ab (tyA p (i).gOp (i).gK) x)))<|J.c0 0 [] [] [] S29 49 hb118 (fless_any (tyB p (i).gOp (i).gK) (ab (tyB p (i).gOp (i).gK) y) (tyA p (i).gOp (i).gK) (ab (tyA p (i).gOp (i).gK) x) _ (aq hty1b S29) (hfb om) (bF _ _) (aq hty1a S29) hfa (bF _ _) (unEq_symm (un_cmp hun om))) fun w30 S30=>J.lb 10 [] [(20,.bool (!decide (ac (tyA p (i).gOp (i).gK) (ab (tyA p (i).gOp (i).gK) x)*(tyB p (i).gOp (i).gK).aa≤ac (tyB p (i).gOp (i).gK) (ab (tyB p (i).gOp (i).gK) y)*(tyA p (i).gOp (i).gK).aa)))] [] S30 6 rfl 53 (iv i.gOp)<|J.c 2 [] [] [] 54 (i.gOp=13) (fun fk7=>?_) fun fk7=>?_
 refine J.c0 4 [true] [] [] S30 56 hb62 (eu (!decide (ac (tyB p (i).gOp (i).gK) (ab (tyB p (i).gOp (i).gK) y)*(tyA p (i).gOp (i).gK).aa≤ac (tyA p (i).gOp (i).gK) (ab (tyA p (i).gOp (i).gK) x)*(tyB p (i).gOp (i).gK).aa)) _) fun w31 S31=>J.e 3 [iv (dP (!decide (ac (tyB p (i).gOp (i).gK) (ab (tyB p (i).gOp (i).gK) y)*(tyA p (i).gOp (i).gK).aa≤ac (tyA p (i).gOp (i).gK) (ab (tyA p (i).gOp (i).gK) x)*(tyB p (i).gOp (i).gK).aa))),iv 0] func66 (hR _ _ ?_)
 have e0:arV i.gOp (tyA p i.gOp i.gK) (tyB p i.gOp i.gK) (tyC p i.gOp i.gK) x y=dP (!decide (ac (tyB p (i).gOp (i).gK) (ab (tyB p (i).gOp (i).gK) y)*(tyA p (i).gOp (i).gK).aa≤ac (tyA p (i).gOp (i).gK) (ab (tyA p (i).gOp (i).gK) x)*(tyB p (i).gOp (i).gK).aa))∧arE i.gOp (tyB p i.gOp i.gK) y=0:=ar_less om
 exact⟨by rw[e0.1,e0.2];rfl,S31.nil⟩
 refine J.bn 7 [false] [] [] 59 (!decide (ac (tyB p (i).gOp (i).gK) (ab (tyB p (i).gOp (i).gK) y)*(tyA p (i).gOp (i).gK).aa≤ac (tyA p (i).gOp (i).gK) (ab (tyA p (i).gOp (i).gK) x)*(tyB p (i).gOp (i).gK).aa)) (fun fk8=>?_) fun fk8=>?_
 refine J.c0 3 [] [] [] S30 63 hb62 (eu false _) fun w32 S32=>J.e 3 [iv (dP false),iv 0] func66 (hR _ _ ?_)
 have e0:arV i.gOp (tyA p i.gOp i.gK) (tyB p i.gOp i.gK) (tyC p i.gOp i.gK) x y=dP false∧arE i.gOp (tyB p i.gOp i.gK) y=0:=ar_eq (b:=false) om (by have h_:=fk8;simp at h_ ⊢;omega)
 exact⟨by rw[e0.1,e0.2];rfl,S32.nil⟩
 refine J.c0 3 [] [] [] S30 63 hb62 (eu (!(!decide (ac (tyA p (i).gOp (i).gK) (ab (tyA p (i).gOp (i).gK) x)*(tyB p (i).gOp (i).gK).aa≤ac (tyB p (i).gOp (i).gK) (ab (tyB p (i).gOp (i).gK) y)*(tyA p (i).gOp (i).gK).aa))) _) fun w33 S33=>J.e 3 [iv (dP (!(!decide (ac (tyA p (i).gOp (i).gK) (ab (tyA p (i).gOp (i).gK) x)*(tyB p (i).gOp (i).gK).aa≤ac (tyB p (i).gOp (i).gK) (ab (tyB p (i).gOp (i).gK) y)*(tyA p (i).gOp (i).gK).aa)))),iv 0] func66 (hR _ _ ?_)
 have e0:arV i.gOp (tyA p i.gOp i.gK) (tyB p i.gOp i.gK) (tyC p i.gOp i.gK) x y=dP (!(!decide (ac (tyA p (i).gOp (i).gK) (ab (tyA p (i).gOp (i).gK) x)*(tyB p (i).gOp (i).gK).aa≤ac (tyB p (i).gOp (i).gK) (ab (tyB p (i).gOp (i).gK) y)*(tyA p (i).gOp (i).gK).aa)))∧arE i.gOp (tyB p i.gOp i.gK) y=0:=ar_eq (b:= !(!decide (ac (tyA p (i).gOp (i).gK) (ab (tyA p (i).gOp (i).gK) x)*(tyB p (i).gOp (i).gK).aa≤ac (tyB p (i).gOp (i).gK) (ab (tyB p (i).gOp (i).gK) y)*(tyA p (i).gOp (i).gK).aa))) om (by have h_:=fk8;simp at h_ ⊢;omega)
 exact⟨by rw[e0.1,e0.2];rfl,S33.nil⟩
end Go.Proofs.YtaoolgcddapegaaGreatDoor
