/- Walks of functions of this seat, printed by a program over the engine. Conditions: as each theorem says. -/
import Derived.Test.YtaoolgcddapegaaGreatZqW14
set_option linter.unusedSimpArgs false
set_option linter.unusedVariables false
namespace Go.Proofs.YtaoolgcddapegaaGreat
open Go.Eng Go.RowKit Go.Proofs.Tryz
set_option maxRecDepth 20000
set_option maxHeartbeats 20000000
theorem hb94:af prog 94:=fun _ _=>by kernel_rfl

theorem units_any (i:Ins) (a b t:Fxd) (w:World) (hi:insQ w i) (ha:cA w a) (hb:cA w b) (ht:cA w t):Ret prog 94 #[.agg (dP i),.agg (aI a),.agg (aI b),.agg (aI t)] w (fun v w'=>v=.bool (cQ i.gOp (az a) (az b) (az t))∧Sep w [] w'):=by
 refine Ret.st (N:=79) func94 fun R hR S0=>?_
 obtain ⟨q1,q2,q3,q4,q5,_⟩:=id hi
 obtain ⟨q6,q7,q8,q9,q10,q11,q12,q13,q14,_⟩:=id ha
 obtain ⟨q15,q16,q17,q18,q19,q20,q21,q22,q23,_⟩:=id hb
 obtain ⟨q24,q25,q26,q27,q28,q29,q30,q31,q32,_⟩:=id ht
 refine J.nw 2 [] [] [] S0 4 (aZ i) 64 fun b1 w1 S1=>J.nw 0 [] [] [] S1 5 (aN a) 54 fun b2 w2 S2=>J.nw 0 [] [] [] S2 6 (aN b) 54 fun b3 w3 S3=>J.nw 0 [] [] [] S3 7 (aN t) 54 fun b4 w4 S4=>J.lb 6 [] [] [] S4 3 rfl 14 (iv i.gOp)<|J.c 8 [] [] [] 15 (i.gOp=5) (fun fk1=>?_) fun fk1=>?_
 refine J.lb 6 [true,true] [] [] S4 2 rfl 19 (.agg #[iv a.ah,iv a.ae,iv a.ag,iv a.aj,iv a.ai])<|J.lb 1 [] [] [] S4 1 rfl 21 (.agg #[iv b.ah,iv b.ae,iv b.ag,iv b.aj,iv b.ai])<|J.ok (OK.eqUnt 22 (az a) (az b) kr)<|J.b 1 [] [] [] 23 (cj (az a) (az b)) (fun fk2=>?_) fun fk2=>?_
 refine J.lb 1 [] [] [] S4 2 rfl 25 (.agg #[iv a.ah,iv a.ae,iv a.ag,iv a.aj,iv a.ai])<|J.lb 1 [] [] [] S4 0 rfl 27 (.agg #[iv t.ah,iv t.ae,iv t.ag,iv t.aj,iv t.ai])<|J.ok (OK.eqUnt 28 (az a) (az t) kr)<|J.e 3 [.bool (cj (az a) (az t))] func94 (hR _ _ ?_)
 have e1:(cj (az a) (az b))=true:=fk2
 exact⟨congrArg Value.bool (by unfold cQ;(repeat first | rw[if_pos om] | rw[if_neg om]);rw[e1];rw[Bool.true_and]<;>rfl),S4.nil⟩
 refine J.e 8 [.bool false] func94 (hR _ _ ?_)
 have e1:(cj (az a) (az b))=false:=fk2
 exact⟨congrArg Value.bool (by unfold cQ;(repeat first | rw[if_pos om] | rw[if_neg om]);rw[e1];rfl),S4.nil⟩
 refine J.c 5 [false] [] [15] 15 (i.gOp=6) (fun fk3=>?_) fun fk3=>?_
 refine J.lb 4 [true] [] [] S4 2 rfl 19 (.agg #[iv a.ah,iv a.ae,iv a.ag,iv a.aj,iv a.ai])<|J.lb 1 [] [] [] S4 1 rfl 21 (.agg #[iv b.ah,iv b.ae,iv b.ag,iv b.aj,iv b.ai])<|J.ok (OK.eqUnt 22 (az a) (az b) kr)<|J.b 1 [] [] [] 23 (cj (az a) (az b)) (fun fk4=>?_) fun fk4=>?_
 refine J.lb 1 [] [] [] S4 2 rfl 25 (.agg #[iv a.ah,iv a.ae,iv a.ag,iv a.aj,iv a.ai])<|J.lb 1 [] [] [] S4 0 rfl 27 (.agg #[iv t.ah,iv t.ae,iv t.ag,iv t.aj,iv t.ai])<|J.ok (OK.eqUnt 28 (az a) (az t) kr)<|J.e 3 [.bool (cj (az a) (az t))] func94 (hR _ _ ?_)
 have e1:(cj (az a) (az b))=true:=fk4
 exact⟨congrArg Value.bool (by unfold cQ;(repeat first | rw[if_pos om] | rw[if_neg om]);rw[e1];rw[Bool.true_and]<;>rfl),S4.nil⟩
 refine J.e 8 [.bool false] func94 (hR _ _ ?_)
 have e1:(cj (az a) (az b))=false:=fk4
 exact⟨congrArg Value.bool (by unfold cQ;(repeat first | rw[if_pos om] | rw[if_neg om]);rw[e1];rfl),S4.nil⟩
 refine J.c 6 [false] [] [] 30 (i.gOp=7) (fun fk5=>?_) fun fk5=>?_
 refine J.lb 4 [true] [] [] S4 2 rfl 34 (.agg #[iv a.ah,iv a.ae,iv a.ag,iv a.aj,iv a.ai])<|J.lb 1 [] [] [] S4 1 rfl 36 (.agg #[iv b.ah,iv b.ae,iv b.ag,iv b.aj,iv b.ai])<|J.c0 0 [] [] [] S4 37 hb128 (umul_any (⟨a.ah,a.ae,a.ag,a.aj,a.ai⟩:Unt) (⟨b.ah,b.ae,b.ag,b.aj,b.ai⟩:Unt) _) fun w5 S5=>J.nw 3 [] [(39,iv (unE (⟨a.ah,a.ae,a.ag,a.aj,a.ai⟩:Unt) (⟨b.ah,b.ae,b.ag,b.aj,b.ai⟩:Unt) 1)),(38,.agg (bD (unX (⟨a.ah,a.ae,a.ag,a.aj,a.ai⟩:Unt) (⟨b.ah,b.ae,b.ag,b.aj,b.ai⟩:Unt) 1)))] [] S5 9 [iv 0,iv 0,iv 0,iv 0,iv 0] 52 fun b5 w6 S6=>J.sb 0 [] [] [] S6 0 rfl (bu (unX (⟨a.ah,a.ae,a.ag,a.aj,a.ai⟩:Unt) (⟨b.ah,b.ae,b.ag,b.aj,b.ai⟩:Unt) 1)) rfl fun w7 S7=>J.c 7 [] [] [] 42 ((unE (⟨a.ah,a.ae,a.ag,a.aj,a.ai⟩:Unt) (⟨b.ah,b.ae,b.ag,b.aj,b.ai⟩:Unt) 1)=0) (fun fk6=>?_) fun fk6=>?_
 refine J.lb 0 [] [] [] S7 0 rfl 43 (.agg (bD (unX (⟨a.ah,a.ae,a.ag,a.aj,a.ai⟩:Unt) (⟨b.ah,b.ae,b.ag,b.aj,b.ai⟩:Unt) 1)))<|J.lb 1 [] [] [] S7 1 rfl 45 (.agg #[iv t.ah,iv t.ae,iv t.ag,iv t.aj,iv t.ai])<|J.ok (OK.eqUnt 46 (unX (⟨a.ah,a.ae,a.ag,a.aj,a.ai⟩:Unt) (⟨b.ah,b.ae,b.ag,b.aj,b.ai⟩:Unt) 1) (az t) kr)<|J.e 3 [.bool (cj (unX (⟨a.ah,a.ae,a.ag,a.aj,a.ai⟩:Unt) (⟨b.ah,b.ae,b.ag,b.aj,b.ai⟩:Unt) 1) (az t))] func94 (hR _ _ ?_)
 have e1:((unE (az a) (az b) 1==0))=true:=(beq_iff_eq.2 fk6)
 exact⟨congrArg Value.bool (by unfold cQ;(repeat first | rw[if_pos om] | rw[if_neg om]);rw[e1];rw[Bool.true_and]<;>rfl),S7.nil⟩
 refine J.e 7 [.bool false] func94 (hR _ _ ?_)
 have e1:((unE (az a) (az b) 1==0))=false:=(beq_eq_false_iff_ne.2 fk6)
 exact⟨congrArg Value.bool (by unfold cQ;(repeat first | rw[if_pos om] | rw[if_neg om]);rw[e1];rfl),S7.nil⟩
 refine J.c 6 [false] [] [] 48 (i.gOp=8) (fun fk7=>?_) fun fk7=>?_
 refine J.lb 4 [true] [] [] S4 2 rfl 52 (.agg #[iv a.ah,iv a.ae,iv a.ag,iv a.aj,iv a.ai])<|J.lb 1 [] [] [] S4 1 rfl 54 (.agg #[iv b.ah,iv b.ae,iv b.ag,iv b.aj,iv b.ai])<|J.c0 0 [] [] [] S4 55 hb129 (udiv_any (⟨a.ah,a.ae,a.ag,a.aj,a.ai⟩:Unt) (⟨b.ah,b.ae,b.ag,b.aj,b.ai⟩:Unt) _) fun w8 S8=>J.nw 3 [] [(57,iv (unE (⟨a.ah,a.ae,a.ag,a.aj,a.ai⟩:Unt) (⟨b.ah,b.ae,b.ag,b.aj,b.ai⟩:Unt) (-1))),(56,.agg (bD (unX (⟨a.ah,a.ae,a.ag,a.aj,a.ai⟩:Unt) (⟨b.ah,b.ae,b.ag,b.aj,b.ai⟩:Unt) (-1))))] [] S8 11 [iv 0,iv 0,iv 0,iv 0,iv 0] 52 fun b6 w9 S9=>J.sb 0 [] [] [] S9 0 rfl (bu (unX (⟨a.ah,a.ae,a.ag,a.aj,a.ai⟩:Unt) (⟨b.ah,b.ae,b.ag,b.aj,b.ai⟩:Unt) (-1))) rfl fun w10 S10=>J.c 7 [] [] [] 60 ((unE (⟨a.ah,a.ae,a.ag,a.aj,a.ai⟩:Unt) (⟨b.ah,b.ae,b.ag,b.aj,b.ai⟩:Unt) (-1))=0) (fun fk8=>?_) fun fk8=>?_
 refine J.lb 0 [] [] [] S10 0 rfl 61 (.agg (bD (unX (⟨a.ah,a.ae,a.ag,a.aj,a.ai⟩:Unt) (⟨b.ah,b.ae,b.ag,b.aj,b.ai⟩:Unt) (-1))))<|J.lb 1 [] [] [] S10 1 rfl 63 (.agg #[iv t.ah,iv t.ae,iv t.ag,iv t.aj,iv t.ai])<|J.ok (OK.eqUnt 64 (unX (⟨a.ah,a.ae,a.ag,a.aj,a.ai⟩:Unt) (⟨b.ah,b.ae,b.ag,b.aj,b.ai⟩:Unt) (-1)) (az t) kr)<|J.e 3 [.bool (cj (unX (⟨a.ah,a.ae,a.ag,a.aj,a.ai⟩:Unt) (⟨b.ah,b.ae,b.ag,b.aj,b.ai⟩:Unt) (-1)) (az t))] func94 (hR _ _ ?_)
 have e1:((unE (az a) (az b) (-1)==0))=true:=(beq_iff_eq.2 fk8)
 exact⟨congrArg Value.bool (by unfold cQ;(repeat first | rw[if_pos om] | rw[if_neg om]);rw[e1];rw[Bool.true_and]<;>rfl),S10.nil⟩
 refine J.e 7 [.bool false] func94 (hR _ _ ?_)
 have e1:((unE (az a) (az b) (-1)==0))=false:=(beq_eq_false_iff_ne.2 fk8)
 exact⟨congrArg Value.bool (by unfold cQ;(repeat first | rw[if_pos om] | rw[if_neg om]);rw[e1];rfl),S10.nil⟩
 refine J.c 7 [false] [] [] 66 (i.gOp=9) (fun fk9=>?_) fun fk9=>?_
 refine J.lb 6 [true,true] [] [] S4 2 rfl 70 (.agg #[iv a.ah,iv a.ae,iv a.ag,iv a.aj,iv a.ai])<|J.lb 1 [] [] [] S4 0 rfl 72 (.agg #[iv t.ah,iv t.ae,iv t.ag,iv t.aj,iv t.ai])<|J.ok (OK.eqUnt 73 (az a) (az t) kr)<|J.e 2 [.bool (cj (az a) (az t))] func94 (hR _ _ ?_)
 exact⟨congrArg Value.bool (by unfold cQ;(repeat first | rw[if_pos om] | rw[if_neg om])<;>rfl),S4.nil⟩
 refine J.c 5 [false] [] [66] 66 (i.gOp=10) (fun fk10=>?_) fun fk10=>?_
 refine J.lb 4 [true] [] [] S4 2 rfl 70 (.agg #[iv a.ah,iv a.ae,iv a.ag,iv a.aj,iv a.ai])<|J.lb 1 [] [] [] S4 0 rfl 72 (.agg #[iv t.ah,iv t.ae,iv t.ag,iv t.aj,iv t.ai])<|J.ok (OK.eqUnt 73 (az a) (az t) kr)<|J.e 2 [.bool (cj (az a) (az t))] func94 (hR _ _ ?_)
 exact⟨congrArg Value.bool (by unfold cQ;(repeat first | rw[if_pos om] | rw[if_neg om])<;>rfl),S4.nil⟩
 refine J.lb 6 [false] [] [] S4 2 rfl 75 (.agg #[iv a.ah,iv a.ae,iv a.ag,iv a.aj,iv a.ai])<|J.lb 1 [] [] [] S4 1 rfl 77 (.agg #[iv b.ah,iv b.ae,iv b.ag,iv b.aj,iv b.ai])<|J.ok (OK.eqUnt 78 (az a) (az b) kr)<|J.e 2 [.bool (cj (az a) (az b))] func94 (hR _ _ ?_)
 exact⟨congrArg Value.bool (by unfold cQ;(repeat first | rw[if_pos om] | rw[if_neg om])<;>rfl),S4.nil⟩

theorem hb56:af prog 56:=fun _ _=>by kernel_rfl

theorem fits_any (p:Prg) (i:Ins) (w:World) (hp:prgQ w p) (hi:insQ w i):Ret prog 56 #[.agg (dq p),.agg (dP i)] w (fun v w'=>v=.bool (cN p i)∧Sep w [] w'):=by
 refine Ret.st (N:=78) func56 fun R hR S0=>?_
 obtain ⟨q1,q2,q3,q4,q5,q6,q7,q8,q9,q10,q11,q12,q13,q14,q15,q16,q17,q18,q19,q20,q21,q22,q23,q24,q25,_⟩:=id hp
 have ql1:=q2.len_eq
 have ql2:=q5.len_eq
 have ql3:=q8.len_eq
 have ql4:=q11.len_eq
 have ql5:=q15.len_eq
 have ql6:=q18.len_eq
 have ql7:=q21.len_eq
 have ql8:=q24.len_eq
 obtain ⟨q26,q27,q28,q29,q30,_⟩:=id hi
 refine J.nw 2 [] [] [] S0 2 (aO p) 28 fun b1 w1 S1=>J.nw 0 [] [] [] S1 3 (aZ i) 64 fun b2 w2 S2=>J.lb 6 [] [] [] S2 0 rfl 10 (.agg (dP i))<|J.c0 0 [] [] [] S2 11 hb91 (formed_any i _ (dF hi S2)) fun w3 S3=>J.bn 3 [] [] [] 9 (formB i) (fun fk1=>?_) fun fk1=>?_
 have hfp:=formB_iff.1 fk1
 refine J.lb 4 [false] [] [] S3 0 rfl 15 (iv i.gOp)<|J.c 2 [] [] [] 17 (i.gOp=2) (fun fk2=>?_) fun fk2=>?_
 refine J.lb 10 [true] [] [] S3 0 rfl 23 (iv i.gK)<|J.lb 1 [] [] [] S3 1 rfl 25 (iv p.ap)<|J.e 3 [.bool (decide (i.gK<p.ap))] func56 (hR _ _ ?_)
 exact⟨congrArg Value.bool (by unfold cN;rw[fk1,Bool.true_and];unfold cm;(repeat first | rw[if_pos om] | rw[if_neg om]);all_goals first | rfl | exact(decide_eq_true om).symm | exact(decide_eq_false om).symm),S3.nil⟩
 refine J.lb 1 [] [] [] S3 0 rfl 19 (iv i.gOp)<|J.c 4 [] [] [] 13 (i.gOp=3) (fun fk3=>?_) fun fk3=>?_
 refine J.lb 4 [true] [] [] S3 0 rfl 23 (iv i.gK)<|J.lb 1 [] [] [] S3 1 rfl 25 (iv p.ap)<|J.e 3 [.bool (decide (i.gK<p.ap))] func56 (hR _ _ ?_)
 exact⟨congrArg Value.bool (by unfold cN;rw[fk1,Bool.true_and];unfold cm;(repeat first | rw[if_pos om] | rw[if_neg om]);all_goals first | rfl | exact(decide_eq_true om).symm | exact(decide_eq_false om).symm),S3.nil⟩
 refine J.lb 4 [false] [] [] S3 0 rfl 29 (iv i.gOp)<|J.c 3 [] [] [] 27 (i.gOp=20) (fun fk4=>?_) fun fk4=>?_
 refine J.lb 4 [true] [] [] S3 0 rfl 32 (iv i.gK)<|J.lb 1 [] [] [] S3 1 rfl 34 (.slice p.ce p.br p.cu)<|J.e 4 [.bool (decide (i.gK<(p.br:Int)))] func56 (hR _ _ ?_)
 exact⟨congrArg Value.bool (by unfold cN;rw[fk1,Bool.true_and];unfold cm;(repeat first | rw[if_pos om] | rw[if_neg om]);all_goals first | rfl | exact(decide_eq_true om).symm | exact(decide_eq_false om).symm),S3.nil⟩
 refine J.lb 4 [false] [] [] S3 0 rfl 39 (iv i.gOp)<|J.c 3 [] [] [] 37 (i.gOp=21) (fun fk5=>?_) fun fk5=>?_
 refine J.lb 4 [true] [] [] S3 0 rfl 42 (iv i.gK)<|J.lb 1 [] [] [] S3 1 rfl 44 (.slice p.dc p.bO p.dz)<|J.e 4 [.bool (decide (i.gK<(p.bO:Int)))] func56 (hR _ _ ?_)
 exact⟨congrArg Value.bool (by unfold cN;rw[fk1,Bool.true_and];unfold cm;(repeat first | rw[if_pos om] | rw[if_neg om]);all_goals first | rfl | exact(decide_eq_true om).symm | exact(decide_eq_false om).symm),S3.nil⟩
 refine J.lb 4 [false] [] [] S3 0 rfl 49 (iv i.gOp)<|J.c 3 [] [] [] 47 (i.gOp=22) (fun fk6=>?_) fun fk6=>?_
 refine J.lb 4 [true] [] [] S3 0 rfl 52 (iv i.gK)<|J.h 1 [] [] [] 53 (iv (Int.fdiv i.gK (2^5))) (iv (i.gK/32)) (congrArg (Value.int .i64) (dl _ _ dE))<|J.wi 1 [] [] [] 54 ((i.gK/32)+1)<|J.lb 1 [] [] [] S3 1 rfl 56 (iv p.ap)<|J.e 3 [.bool (decide (((i.gK/32)+1)<p.ap))] func56 (hR _ _ ?_)
 exact⟨congrArg Value.bool (by unfold cN;rw[fk1,Bool.true_and];unfold cm;(repeat first | rw[if_pos om] | rw[if_neg om]);all_goals first | rfl | exact(decide_eq_true om).symm | exact(decide_eq_false om).symm),S3.nil⟩
 refine J.lb 4 [false] [] [] S3 0 rfl 60 (iv i.gOp)<|J.c0 0 [] [] [] S3 61 hb92 (typed_any i.gOp _) fun w4 S4=>J.b 2 [] [] [] 58 (decide (ec i.gOp)) (fun fk7=>?_) fun fk7=>?_
 have fb2:=of_decide_eq_true fk7
 refine J.lb 3 [true] [] [] S4 1 rfl 63 (.agg (dq p))<|J.lb 0 [] [] [] S4 0 rfl 64 (.agg (dP i))<|J.c0 0 [] [] [] S4 65 hb93 (types_any p i _ (cS hp S4) (dF hi S4) om) fun w5 S5=>?_
 obtain ⟨hty1a,hty1b,hty1c⟩:=ty_q (w:=w) (op:=(i).gOp) (k:=(i).gK) q6
 refine J.nw 5 [] [(69,.bool (tyOK p (i).gOp (i).gK)),(68,.agg (aI (tyC p (i).gOp (i).gK))),(67,.agg (aI (tyB p (i).gOp (i).gK))),(66,.agg (aI (tyA p (i).gOp (i).gK)))] [] S5 5 [iv 0,.bool false,iv 0,iv 0,iv 0,iv 0,iv 0,iv 0,iv 0,iv 0] 54 fun b3 w6 S6=>J.nw 0 [] [] [] S6 6 [iv 0,.bool false,iv 0,iv 0,iv 0,iv 0,iv 0,iv 0,iv 0,iv 0] 54 fun b4 w7 S7=>J.nw 0 [] [] [] S7 7 [iv 0,.bool false,iv 0,iv 0,iv 0,iv 0,iv 0,iv 0,iv 0,iv 0] 54 fun b5 w8 S8=>J.sb 0 [] [] [] S8 2 rfl (aN (tyA p (i).gOp (i).gK)) rfl fun w9 S9=>J.sb 0 [] [] [] S9 1 rfl (aN (tyB p (i).gOp (i).gK)) rfl fun w10 S10=>J.sb 0 [] [] [] S10 0 rfl (aN (tyC p (i).gOp (i).gK)) rfl fun w11 S11=>J.b 6 [] [] [] 71 (tyOK p (i).gOp (i).gK) (fun fk8=>?_) fun fk8=>?_
 refine J.lb 0 [] [] [] S11 3 rfl 72 (.agg (dP i))<|J.lb 0 [] [] [] S11 2 rfl 73 (.agg (aI (tyA p (i).gOp (i).gK)))<|J.lb 0 [] [] [] S11 1 rfl 74 (.agg (aI (tyB p (i).gOp (i).gK)))<|J.lb 0 [] [] [] S11 0 rfl 75 (.agg (aI (tyC p (i).gOp (i).gK)))<|J.c0 0 [] [] [] S11 76 hb94 (units_any i (tyA p (i).gOp (i).gK) (tyB p (i).gOp (i).gK) (tyC p (i).gOp (i).gK) _ (dF hi S11) (aw hty1a S11) (aw hty1b S11) (aw hty1c S11)) fun w12 S12=>J.e 3 [.bool (cQ (i).gOp (az (tyA p (i).gOp (i).gK)) (az (tyB p (i).gOp (i).gK)) (az (tyC p (i).gOp (i).gK)))] func56 (hR _ _ ?_)
 exact⟨congrArg Value.bool (by unfold cN;rw[fk1,Bool.true_and];unfold cm;(repeat first | rw[if_pos om] | rw[if_neg om]);rw[fk8];all_goals first | rfl | (rw[Bool.true_and];first | rfl | exact rfl.symm)),S12.nil⟩
 refine J.e 8 [.bool false] func56 (hR _ _ ?_)
 exact⟨congrArg Value.bool (by unfold cN;rw[fk1,Bool.true_and];unfold cm;(repeat first | rw[if_pos om] | rw[if_neg om]);rw[fk8];all_goals first | rfl | (rw[Bool.true_and];first | rfl | exact rfl.symm)),S11.nil⟩
 have fb3:=of_decide_eq_false fk7
 refine J.e 7 [.bool true] func56 (hR _ _ ?_)
 exact⟨congrArg Value.bool (by unfold cN;rw[fk1,Bool.true_and];unfold cm;(repeat first | rw[if_pos om] | rw[if_neg om]);all_goals first | rfl | exact(decide_eq_true om).symm | exact(decide_eq_false om).symm),S4.nil⟩
 refine J.e 5 [.bool false] func56 (hR _ _ ?_)
 exact⟨congrArg Value.bool (by unfold cN;rw[fk1];rfl),S3.nil⟩

end Go.Proofs.YtaoolgcddapegaaGreat

namespace Go.Proofs.YtaoolgcddapegaaGreat
noncomputable section
open Go.Eng Go.RowKit Go.Proofs.Tryz
set_option maxRecDepth 20000
set_option maxHeartbeats 20000000
theorem hb44:af prog 44:=fun _ _=>by kernel_rfl

theorem not_any (b:Bool) (w:World):Ret prog 44 #[.bool b] w (fun v w'=>v=.bool (!b)∧Sep w [] w'):=by
 refine Ret.st (N:=5) func44 fun R hR S0=>J.e 10 [.bool (!b)] func44 (hR _ _ ?_)
 exact⟨rfl,S0.nil⟩

theorem hb46:af prog 46:=fun _ _=>by kernel_rfl

theorem val2_any (t:Fxd) (bx:Nat) (w:World) (ht:cA w t) (hb:(box bx [.func (.func 44) #[] #[]] 87).holds w):Ret prog 46 #[.agg (aI t),pv bx] w (fun v w'=>v=.bool (!bF t)∧Sep w [] w'):=by
 refine Ret.st (N:=8) func46 fun R hR S0=>?_
 obtain ⟨q1,q2,q3,q4,q5,q6,q7,q8,q9,_⟩:=id ht
 refine J.nw 2 [] [] [] S0 2 (aN t) 54 fun b1 w1 S1=>J.r 3 [] [] []<|J.drawPlan (fun w_=>Sep w [box b1 (aN t) 54] w_) [(0,true),(1,true),(2,false),(3,false),(4,true)] S1 Tryz.mixed kr (aE (T:=[(0,some 4,2),(0,some 5,4),(2,some 6,32),(5,some 7,80),(15,some 3,128)]) kr kr) ?_
 intro w2 S2
 refine PB.mk S2<|PL.takeOK 0 (fun w_ S_=>OK.ldRo S_ hb 4 87 0 (.func (.func 44) #[] #[]) kr kr) rfl<|PL.takeOK 1 (fun w_ S_=>OK.ldBox S_ 0 5 54 0 (.agg (aI t)) kr rfl kr) rfl<|PL.callF 6 47 #[.agg (aI t)] hb47 kr (fxvalid_any t _ (aw ht S2)) ?_
 rintro _ w3 ⟨rfl,T1⟩
 have S3:Sep w [box b1 (aN t) 54] w3:=S2.trans T1
 clear T1 S2
 refine PB.mk S3<|PL.callF 7 44 #[.bool (bF t)] hb44 kr (not_any (bF t) _) ?_
 rintro _ w4 ⟨rfl,T2⟩
 have S4:Sep w [box b1 (aN t) 54] w4:=S3.trans T2
 clear T2 S3
 refine PB.mk S4<|PL.take 4 3 (.bool (!(bF t))) (fun _ _=>kr)<|PL.done<|J.e 0 [.bool (!(bF t))] func46 (hR _ _ ?_)
 exact⟨rfl,S4.nil⟩

theorem hb49:af prog 49:=fun _ _=>by kernel_rfl

theorem val3_any (c:Crv) (bx:Nat) (w:World) (hc:crvQ w c) (hb:(box bx [.func (.func 44) #[] #[]] 87).holds w):Ret prog 49 #[.agg (crvA c),pv bx] w (fun v w'=>v=.bool (!cB c)∧Sep w [] w'):=by
 refine Ret.st (N:=8) func49 fun R hR S0=>?_
 obtain ⟨q1,q2,q3,q4,q5,q6,_⟩:=id hc
 have ql1:=q2.len_eq
 have ql2:=q5.len_eq
 refine J.nw 2 [] [] [] S0 2 (crvC c) 57 fun b1 w1 S1=>J.r 3 [] [] []<|J.drawPlan (fun w_=>Sep w [box b1 (crvC c) 57] w_) [(0,true),(1,true),(2,false),(3,false),(4,true)] S1 Tryz.mixed kr (aE (T:=[(0,some 4,2),(0,some 5,4),(2,some 6,32),(5,some 7,80),(15,some 3,128)]) kr kr) ?_
 intro w2 S2
 refine PB.mk S2<|PL.takeOK 0 (fun w_ S_=>OK.ldRo S_ hb 4 87 0 (.func (.func 44) #[] #[]) kr kr) rfl<|PL.takeOK 1 (fun w_ S_=>OK.ldBox S_ 0 5 57 0 (.agg (crvA c)) kr rfl kr) rfl<|PL.callF 6 50 #[.agg (crvA c)] hb50 kr (cvalid_any c _ (dV hc S2)) ?_
 rintro _ w3 ⟨rfl,T1⟩
 have S3:Sep w [box b1 (crvC c) 57] w3:=S2.trans T1
 clear T1 S2
 refine PB.mk S3<|PL.callF 7 44 #[.bool (cB c)] hb44 kr (not_any (cB c) _) ?_
 rintro _ w4 ⟨rfl,T2⟩
 have S4:Sep w [box b1 (crvC c) 57] w4:=S3.trans T2
 clear T2 S3
 refine PB.mk S4<|PL.take 4 3 (.bool (!(cB c))) (fun _ _=>kr)<|PL.done<|J.e 0 [.bool (!(cB c))] func49 (hR _ _ ?_)
 exact⟨rfl,S4.nil⟩

theorem hb52:af prog 52:=fun _ _=>by kernel_rfl

theorem val4_any (m:Mp) (bx:Nat) (w:World) (hm:mpQ w m) (hb:(box bx [.func (.func 44) #[] #[]] 87).holds w):Ret prog 52 #[.agg (mpA m),pv bx] w (fun v w'=>v=.bool (!ch m)∧Sep w [] w'):=by
 refine Ret.st (N:=8) func52 fun R hR S0=>?_
 obtain ⟨q1,q2,q3,q4,q5,q6,q7,q8,q9,_⟩:=id hm
 have ql1:=q2.len_eq
 have ql2:=q5.len_eq
 have ql3:=q8.len_eq
 refine J.nw 2 [] [] [] S0 2 (mpC m) 61 fun b1 w1 S1=>J.r 3 [] [] []<|J.drawPlan (fun w_=>Sep w [box b1 (mpC m) 61] w_) [(0,true),(1,true),(2,false),(3,false),(4,true)] S1 Tryz.mixed kr (aE (T:=[(0,some 4,2),(0,some 5,4),(2,some 6,32),(5,some 7,80),(15,some 3,128)]) kr kr) ?_
 intro w2 S2
 refine PB.mk S2<|PL.takeOK 0 (fun w_ S_=>OK.ldRo S_ hb 4 87 0 (.func (.func 44) #[] #[]) kr kr) rfl<|PL.takeOK 1 (fun w_ S_=>OK.ldBox S_ 0 5 61 0 (.agg (mpA m)) kr rfl kr) rfl<|PL.callF 6 53 #[.agg (mpA m)] hb53 kr (valid_any m _ (dZ hm S2)) ?_
 rintro _ w3 ⟨rfl,T1⟩
 have S3:Sep w [box b1 (mpC m) 61] w3:=S2.trans T1
 clear T1 S2
 refine PB.mk S3<|PL.callF 7 44 #[.bool (ch m)] hb44 kr (not_any (ch m) _) ?_
 rintro _ w4 ⟨rfl,T2⟩
 have S4:Sep w [box b1 (mpC m) 61] w4:=S3.trans T2
 clear T2 S3
 refine PB.mk S4<|PL.take 4 3 (.bool (!(ch m))) (fun _ _=>kr)<|PL.done<|J.e 0 [.bool (!(ch m))] func52 (hR _ _ ?_)
 exact⟨rfl,S4.nil⟩

theorem hb55:af prog 55:=fun _ _=>by kernel_rfl

theorem val5_any (p:Prg) (i:Ins) (bx1 bx2:Nat) (w:World) (hp:prgQ w p) (hi:insQ w i) (hb1:(box bx1 [.func (.func 44) #[] #[]] 87).holds w) (hb2:(box bx2 (aO p) 28).holds w):Ret prog 55 #[.agg (dP i),pv bx1,pv bx2] w (fun v w'=>v=.bool (!cN p i)∧Sep w [] w'):=by
 refine Ret.st (N:=10) func55 fun R hR S0=>?_
 obtain ⟨q1,q2,q3,q4,q5,q6,q7,q8,q9,q10,q11,q12,q13,q14,q15,q16,q17,q18,q19,q20,q21,q22,q23,q24,q25,_⟩:=id hp
 have ql1:=q2.len_eq
 have ql2:=q5.len_eq
 have ql3:=q8.len_eq
 have ql4:=q11.len_eq
 have ql5:=q15.len_eq
 have ql6:=q18.len_eq
 have ql7:=q21.len_eq
 have ql8:=q24.len_eq
 obtain ⟨q26,q27,q28,q29,q30,_⟩:=id hi
 refine J.nw 2 [] [] [] S0 3 (aZ i) 64 fun b1 w1 S1=>J.r 3 [] [] []<|J.drawPlan (fun w_=>Sep w [box b1 (aZ i) 64] w_) [(0,true),(1,true),(2,true),(3,false),(4,false),(5,true)] S1 Tryz.mixed kr (aE (T:=[(0,some 5,2),(0,some 6,4),(0,some 7,8),(6,some 8,192),(9,some 9,288),(31,some 4,512)]) kr kr) ?_
 intro w2 S2
 refine PB.mk S2<|PL.takeOK 0 (fun w_ S_=>OK.ldRo S_ hb1 5 87 0 (.func (.func 44) #[] #[]) kr kr) rfl<|PL.takeOK 1 (fun w_ S_=>OK.ldRo S_ hb2 6 28 0 (.agg (dq p)) kr kr) rfl<|PL.takeOK 2 (fun w_ S_=>OK.ldBox S_ 0 7 64 0 (.agg (dP i)) kr rfl kr) rfl<|PL.callF 8 56 #[.agg (dq p),.agg (dP i)] hb56 kr (fits_any p i _ (cS hp S2) (dF hi S2)) ?_
 rintro _ w3 ⟨rfl,T1⟩
 have S3:Sep w [box b1 (aZ i) 64] w3:=S2.trans T1
 clear T1 S2
 refine PB.mk S3<|PL.callF 9 44 #[.bool (cN p i)] hb44 kr (not_any (cN p i) _) ?_
 rintro _ w4 ⟨rfl,T2⟩
 have S4:Sep w [box b1 (aZ i) 64] w4:=S3.trans T2
 clear T2 S3
 refine PB.mk S4<|PL.take 5 4 (.bool (!(cN p i))) (fun _ _=>kr)<|PL.done<|J.e 0 [.bool (!(cN p i))] func55 (hR _ _ ?_)
 exact⟨rfl,S4.nil⟩

theorem hb57:af prog 57:=fun _ _=>by kernel_rfl

theorem val6_any (p:Prg) (c:Int) (bx1:Nat) (w:World) (hb1:(box bx1 (aO p) 28).holds w):Ret prog 57 #[iv c,pv bx1] w (fun v w'=>v=.bool (!(decide (0≤c)&&decide (c<p.ap)))∧Sep w [] w'):=by
 refine Ret.st (N:=12) func57 fun R hR S0=>J.c 9 [] [] [] 6 (c<0) (fun fk1=>?_) fun fk1=>?_
 refine J.e 7 [.bool true] func57 (hR _ _ ?_)
 exact⟨congrArg Value.bool (by show _= !(decide (0≤c)&&decide (c<p.ap));by_cases q1_:0≤c<;>by_cases q2_:c<p.ap<;>simp[q1_,q2_]<;>omega),S0.nil⟩
 refine J.r 2 [] [(8,.pointer (some ⟨bx1,4,none⟩)),(7,iv c)] []<|J.ok (OK.ldRo S0 hb1 9 3 4 (iv p.ap) kr kr)<|J.e 4 [.bool (decide (c≥p.ap))] func57 (hR _ _ ?_)
 exact⟨congrArg Value.bool (by show _= !(decide (0≤c)&&decide (c<p.ap));by_cases q1_:0≤c<;>by_cases q2_:c<p.ap<;>simp[q1_,q2_]<;>omega),S0.nil⟩

theorem hb59:af prog 59:=fun _ _=>by kernel_rfl

theorem val7_any (n:Int) (w:World):Ret prog 59 #[iv n] w (fun v w'=>v=.bool (!initB n)∧Sep w [] w'):=by
 refine Ret.st (N:=9) func59 fun R hR S0=>J.c 9 [] [] [] 5 (n<(-1099511627776)) (fun fk1=>?_) fun fk1=>?_
 refine J.e 5 [.bool true] func59 (hR _ _ ?_)
 exact⟨congrArg Value.bool (by show _= !(decide (-1099511627776≤n)&&decide (n≤1099511627776));by_cases q1_: -1099511627776≤n<;>by_cases q2_:n≤1099511627776<;>simp[q1_,q2_]<;>omega),S0.nil⟩
 refine J.e 5 [.bool (decide (n>1099511627776))] func59 (hR _ _ ?_)
 exact⟨congrArg Value.bool (by show _= !(decide (-1099511627776≤n)&&decide (n≤1099511627776));by_cases q1_: -1099511627776≤n<;>by_cases q2_:n≤1099511627776<;>simp[q1_,q2_]<;>omega),S0.nil⟩

theorem hb81:af prog 81:=fun _ _=>by kernel_rfl
def K81_0:=adv 13 [] (bi Tryz.f81)
theorem indexFX1 (la:Option Addr) (len cap:Nat) (l:List Fxd) (g:FuncId) (c1:Value) (q:Fxd→Bool) (w:World) (hI:Recs fxdE 10 w la len l) (hlen:len≤9223372036854775807) (hbg:af prog g) (hcall:∀ (i:Nat) (w2:World),i<l.length→Sep w [] w2→Ret prog g #[.agg (aI (l.getD i fx0)),c1] w2 (fun v w3=>v=.bool (q (l.getD i fx0))∧Sep w2 [] w3)):Ret prog 81 #[.slice la len cap,.func (.func g) #[] #[c1]] w (fun v w'=>v=iv (cG q l)∧Sep w [] w'):=by
 refine Ret.st (N:=19) func81 fun R hR S0=>?_
 have L81_1:∀ (mm_:Nat) (i:Int) (w1:World),(0≤i)→(i≤(len:Int))→(∀ j,j<(i).toNat→q (l.getD j fx0)=false)→Sep w [] w1→((len:Int)-i).toNat=mm_→J prog 81 19 R K81_0 [(8,iv i),(7,iv (len:Int)),(0,.slice la len cap),(1,.func (.func g) #[] #[c1])] w1:=by
  intro mm1
  induction mm1 using Nat.strongRecOn with
  | _ mm1 ih1 =>
  intro i w1 h0 h1 hq S1 hm1
  refine J.c 5 [] [] [] 9 (i<(len:Int)) (fun fk1=>?_) fun fk1=>?_
  refine J.r 14 [true] [(13,iv i),(12,.slice la len cap),(11,.func (.func g) #[] #[c1]),(5,iv i)] [] ?_
  obtain ⟨p1,hp1,hc1⟩:=hI.at fx0 (i).toNat om
  refine J.ok (OK.index 14 23 10 la p1 len (i).toNat i (p1.add ((i).toNat*10)) kr kr hp1 om om rfl)<|J.ok (OK.ldCells 15 54 (p1.add ((i).toNat*10)) (aN (l.getD (i).toNat fx0)) kr kr kr (fun j_ v_ hj_=>S1.cell (hc1 j_ v_ hj_)))<|J.callF 16 g #[.agg (aI (l.getD (i).toNat fx0)),c1] hbg kr (hcall (i).toNat w1 (by have:=hI.len_eq;omega) S1.nil) ?_
  rintro _ w2 ⟨rfl,T1⟩
  have S2:Sep w [] w2:=S1.trans T1
  refine J.b 1 [] [] [] 16 (q (l.getD (i).toNat fx0)) (fun fk2=>?_) fun fk2=>?_
  refine J.e 6 [iv i] func81 (hR _ _ ?_)
  exact⟨by rw[cw,dv fx0 i.toNat (by have:=hI.len_eq;omega) hq fk2,Int.toNat_of_nonneg h0],S2.nil⟩
  exact J.wi 5 [false] [] [] 18 (i+1)<|J.t 3 (ih1 _ (show((len:Int)-(i+1)).toNat<mm1 from by omega) (i+1) w2 om om (by intro j hj;by_cases e:j=i.toNat;(subst e;exact fk2);exact hq j om) S2 rfl)
  refine J.e 6 [iv (-1)] func81 (hR _ _ ?_)
  exact⟨by rw[cw,dK fx0 fun j hj=>hq j (by have:=hI.len_eq;omega)],S1.nil⟩
 exact J.t 13 (L81_1 _ 0 w om om (by intro j hj;simp at hj) S0 rfl)

theorem hb45:af prog 45:=fun _ _=>by kernel_rfl

theorem containsFX1 (la:Option Addr) (len cap:Nat) (l:List Fxd) (g:FuncId) (c1:Value) (q:Fxd→Bool) (w:World) (hI:Recs fxdE 10 w la len l) (hlen:len≤9223372036854775807) (hbg:af prog g) (hcall:∀ (i:Nat) (w2:World),i<l.length→Sep w [] w2→Ret prog g #[.agg (aI (l.getD i fx0)),c1] w2 (fun v w3=>v=.bool (q (l.getD i fx0))∧Sep w2 [] w3)):Ret prog 45 #[.slice la len cap,.func (.func g) #[] #[c1]] w (fun v w'=>v=.bool (l.any q)∧Sep w [] w'):=by
 refine Ret.st (N:=9) func45 fun R hR S0=>J.r 8 [] [(6,.func (.func g) #[] #[c1]),(5,.slice la len cap)] []<|J.callF 7 81 #[.slice la len cap,.func (.func g) #[] #[c1]] hb81 kr (indexFX1 la len cap l g c1 q _ (hI.sep S0) oz hbg (hcall)) ?_
 rintro _ w1 ⟨rfl,T1⟩
 have S1:Sep w [] w1:=S0.trans T1
 refine J.e 3 [.bool (decide ((cG q l)≥0))] func45 (hR _ _ ?_)
 exact⟨congrArg Value.bool (by first | exact dh),S1.nil⟩

theorem hb83:af prog 83:=fun _ _=>by kernel_rfl
def K83_0:=adv 13 [] (bi Tryz.f83)
theorem indexCV1 (la:Option Addr) (len cap:Nat) (l:List Crv) (g:FuncId) (c1:Value) (q:Crv→Bool) (w:World) (hI:Recs crvE 2 w la len l) (hlen:len≤9223372036854775807) (hbg:af prog g) (hcall:∀ (i:Nat) (w2:World),i<l.length→Sep w [] w2→Ret prog g #[.agg (crvA (l.getD i (⟨none,0,0,[],none,0,0,[]⟩:Crv))),c1] w2 (fun v w3=>v=.bool (q (l.getD i (⟨none,0,0,[],none,0,0,[]⟩:Crv)))∧Sep w2 [] w3)):Ret prog 83 #[.slice la len cap,.func (.func g) #[] #[c1]] w (fun v w'=>v=iv (cG q l)∧Sep w [] w'):=by
 refine Ret.st (N:=19) func83 fun R hR S0=>?_
 have L83_1:∀ (mm_:Nat) (i:Int) (w1:World),(0≤i)→(i≤(len:Int))→(∀ j,j<(i).toNat→q (l.getD j (⟨none,0,0,[],none,0,0,[]⟩:Crv))=false)→Sep w [] w1→((len:Int)-i).toNat=mm_→J prog 83 19 R K83_0 [(8,iv i),(7,iv (len:Int)),(0,.slice la len cap),(1,.func (.func g) #[] #[c1])] w1:=by
  intro mm1
  induction mm1 using Nat.strongRecOn with
  | _ mm1 ih1 =>
  intro i w1 h0 h1 hq S1 hm1
  refine J.c 5 [] [] [] 9 (i<(len:Int)) (fun fk1=>?_) fun fk1=>?_
  refine J.r 14 [true] [(13,iv i),(12,.slice la len cap),(11,.func (.func g) #[] #[c1]),(5,iv i)] [] ?_
  obtain ⟨p1,hp1,hc1⟩:=hI.at (⟨none,0,0,[],none,0,0,[]⟩:Crv) (i).toNat om
  refine J.ok (OK.index 14 24 2 la p1 len (i).toNat i (p1.add ((i).toNat*2)) kr kr hp1 om om rfl)<|J.ok (OK.ldCells 15 57 (p1.add ((i).toNat*2)) (crvC (l.getD (i).toNat (⟨none,0,0,[],none,0,0,[]⟩:Crv))) kr kr kr (fun j_ v_ hj_=>S1.cell (hc1 j_ v_ hj_)))<|J.callF 16 g #[.agg (crvA (l.getD (i).toNat (⟨none,0,0,[],none,0,0,[]⟩:Crv))),c1] hbg kr (hcall (i).toNat w1 (by have:=hI.len_eq;omega) S1.nil) ?_
  rintro _ w2 ⟨rfl,T1⟩
  have S2:Sep w [] w2:=S1.trans T1
  refine J.b 1 [] [] [] 16 (q (l.getD (i).toNat (⟨none,0,0,[],none,0,0,[]⟩:Crv))) (fun fk2=>?_) fun fk2=>?_
  refine J.e 6 [iv i] func83 (hR _ _ ?_)
  exact⟨by rw[cw,dv (⟨none,0,0,[],none,0,0,[]⟩:Crv) i.toNat (by have:=hI.len_eq;omega) hq fk2,Int.toNat_of_nonneg h0],S2.nil⟩
  exact J.wi 5 [false] [] [] 18 (i+1)<|J.t 3 (ih1 _ (show((len:Int)-(i+1)).toNat<mm1 from by omega) (i+1) w2 om om (by intro j hj;by_cases e:j=i.toNat;(subst e;exact fk2);exact hq j om) S2 rfl)
  refine J.e 6 [iv (-1)] func83 (hR _ _ ?_)
  exact⟨by rw[cw,dK (⟨none,0,0,[],none,0,0,[]⟩:Crv) fun j hj=>hq j (by have:=hI.len_eq;omega)],S1.nil⟩
 exact J.t 13 (L83_1 _ 0 w om om (by intro j hj;simp at hj) S0 rfl)

theorem hb48:af prog 48:=fun _ _=>by kernel_rfl

theorem containsCV1 (la:Option Addr) (len cap:Nat) (l:List Crv) (g:FuncId) (c1:Value) (q:Crv→Bool) (w:World) (hI:Recs crvE 2 w la len l) (hlen:len≤9223372036854775807) (hbg:af prog g) (hcall:∀ (i:Nat) (w2:World),i<l.length→Sep w [] w2→Ret prog g #[.agg (crvA (l.getD i (⟨none,0,0,[],none,0,0,[]⟩:Crv))),c1] w2 (fun v w3=>v=.bool (q (l.getD i (⟨none,0,0,[],none,0,0,[]⟩:Crv)))∧Sep w2 [] w3)):Ret prog 48 #[.slice la len cap,.func (.func g) #[] #[c1]] w (fun v w'=>v=.bool (l.any q)∧Sep w [] w'):=by
 refine Ret.st (N:=9) func48 fun R hR S0=>J.r 8 [] [(6,.func (.func g) #[] #[c1]),(5,.slice la len cap)] []<|J.callF 7 83 #[.slice la len cap,.func (.func g) #[] #[c1]] hb83 kr (indexCV1 la len cap l g c1 q _ (hI.sep S0) oz hbg (hcall)) ?_
 rintro _ w1 ⟨rfl,T1⟩
 have S1:Sep w [] w1:=S0.trans T1
 refine J.e 3 [.bool (decide ((cG q l)≥0))] func48 (hR _ _ ?_)
 exact⟨congrArg Value.bool (by first | exact dh),S1.nil⟩

theorem hb86:af prog 86:=fun _ _=>by kernel_rfl
def K86_0:=adv 13 [] (bi Tryz.f86)
theorem indexMP1 (la:Option Addr) (len cap:Nat) (l:List Mp) (g:FuncId) (c1:Value) (q:Mp→Bool) (w:World) (hI:Recs mpE 3 w la len l) (hlen:len≤9223372036854775807) (hbg:af prog g) (hcall:∀ (i:Nat) (w2:World),i<l.length→Sep w [] w2→Ret prog g #[.agg (mpA (l.getD i (⟨none,0,0,[],none,0,0,[],none,0,0,[]⟩:Mp))),c1] w2 (fun v w3=>v=.bool (q (l.getD i (⟨none,0,0,[],none,0,0,[],none,0,0,[]⟩:Mp)))∧Sep w2 [] w3)):Ret prog 86 #[.slice la len cap,.func (.func g) #[] #[c1]] w (fun v w'=>v=iv (cG q l)∧Sep w [] w'):=by
 refine Ret.st (N:=19) func86 fun R hR S0=>?_
 have L86_1:∀ (mm_:Nat) (i:Int) (w1:World),(0≤i)→(i≤(len:Int))→(∀ j,j<(i).toNat→q (l.getD j (⟨none,0,0,[],none,0,0,[],none,0,0,[]⟩:Mp))=false)→Sep w [] w1→((len:Int)-i).toNat=mm_→J prog 86 19 R K86_0 [(8,iv i),(7,iv (len:Int)),(0,.slice la len cap),(1,.func (.func g) #[] #[c1])] w1:=by
  intro mm1
  induction mm1 using Nat.strongRecOn with
  | _ mm1 ih1 =>
  intro i w1 h0 h1 hq S1 hm1
  refine J.c 5 [] [] [] 9 (i<(len:Int)) (fun fk1=>?_) fun fk1=>?_
  refine J.r 14 [true] [(13,iv i),(12,.slice la len cap),(11,.func (.func g) #[] #[c1]),(5,iv i)] [] ?_
  obtain ⟨p1,hp1,hc1⟩:=hI.at (⟨none,0,0,[],none,0,0,[],none,0,0,[]⟩:Mp) (i).toNat om
  refine J.ok (OK.index 14 25 3 la p1 len (i).toNat i (p1.add ((i).toNat*3)) kr kr hp1 om om rfl)<|J.ok (OK.ldCells 15 61 (p1.add ((i).toNat*3)) (mpC (l.getD (i).toNat (⟨none,0,0,[],none,0,0,[],none,0,0,[]⟩:Mp))) kr kr kr (fun j_ v_ hj_=>S1.cell (hc1 j_ v_ hj_)))<|J.callF 16 g #[.agg (mpA (l.getD (i).toNat (⟨none,0,0,[],none,0,0,[],none,0,0,[]⟩:Mp))),c1] hbg kr (hcall (i).toNat w1 (by have:=hI.len_eq;omega) S1.nil) ?_
  rintro _ w2 ⟨rfl,T1⟩
  have S2:Sep w [] w2:=S1.trans T1
  refine J.b 1 [] [] [] 16 (q (l.getD (i).toNat (⟨none,0,0,[],none,0,0,[],none,0,0,[]⟩:Mp))) (fun fk2=>?_) fun fk2=>?_
  refine J.e 6 [iv i] func86 (hR _ _ ?_)
  exact⟨by rw[cw,dv (⟨none,0,0,[],none,0,0,[],none,0,0,[]⟩:Mp) i.toNat (by have:=hI.len_eq;omega) hq fk2,Int.toNat_of_nonneg h0],S2.nil⟩
  exact J.wi 5 [false] [] [] 18 (i+1)<|J.t 3 (ih1 _ (show((len:Int)-(i+1)).toNat<mm1 from by omega) (i+1) w2 om om (by intro j hj;by_cases e:j=i.toNat;(subst e;exact fk2);exact hq j om) S2 rfl)
  refine J.e 6 [iv (-1)] func86 (hR _ _ ?_)
  exact⟨by rw[cw,dK (⟨none,0,0,[],none,0,0,[],none,0,0,[]⟩:Mp) fun j hj=>hq j (by have:=hI.len_eq;omega)],S1.nil⟩
 exact J.t 13 (L86_1 _ 0 w om om (by intro j hj;simp at hj) S0 rfl)

theorem hb51:af prog 51:=fun _ _=>by kernel_rfl

theorem containsMP1 (la:Option Addr) (len cap:Nat) (l:List Mp) (g:FuncId) (c1:Value) (q:Mp→Bool) (w:World) (hI:Recs mpE 3 w la len l) (hlen:len≤9223372036854775807) (hbg:af prog g) (hcall:∀ (i:Nat) (w2:World),i<l.length→Sep w [] w2→Ret prog g #[.agg (mpA (l.getD i (⟨none,0,0,[],none,0,0,[],none,0,0,[]⟩:Mp))),c1] w2 (fun v w3=>v=.bool (q (l.getD i (⟨none,0,0,[],none,0,0,[],none,0,0,[]⟩:Mp)))∧Sep w2 [] w3)):Ret prog 51 #[.slice la len cap,.func (.func g) #[] #[c1]] w (fun v w'=>v=.bool (l.any q)∧Sep w [] w'):=by
 refine Ret.st (N:=9) func51 fun R hR S0=>J.r 8 [] [(6,.func (.func g) #[] #[c1]),(5,.slice la len cap)] []<|J.callF 7 86 #[.slice la len cap,.func (.func g) #[] #[c1]] hb86 kr (indexMP1 la len cap l g c1 q _ (hI.sep S0) oz hbg (hcall)) ?_
 rintro _ w1 ⟨rfl,T1⟩
 have S1:Sep w [] w1:=S0.trans T1
 refine J.e 3 [.bool (decide ((cG q l)≥0))] func51 (hR _ _ ?_)
 exact⟨congrArg Value.bool (by first | exact dh),S1.nil⟩

theorem hb90:af prog 90:=fun _ _=>by kernel_rfl
def K90_0:=adv 13 [] (bi Tryz.f90)
theorem indexIN2 (la:Option Addr) (len cap:Nat) (l:List Ins) (g:FuncId) (c1:Value) (c2:Value) (q:Ins→Bool) (w:World) (hI:Recs insE 5 w la len l) (hlen:len≤9223372036854775807) (hbg:af prog g) (hcall:∀ (i:Nat) (w2:World),i<l.length→Sep w [] w2→Ret prog g #[.agg (dP (l.getD i bq)),c1,c2] w2 (fun v w3=>v=.bool (q (l.getD i bq))∧Sep w2 [] w3)):Ret prog 90 #[.slice la len cap,.func (.func g) #[] #[c1,c2]] w (fun v w'=>v=iv (cG q l)∧Sep w [] w'):=by
 refine Ret.st (N:=19) func90 fun R hR S0=>?_
 have L90_1:∀ (mm_:Nat) (i:Int) (w1:World),(0≤i)→(i≤(len:Int))→(∀ j,j<(i).toNat→q (l.getD j bq)=false)→Sep w [] w1→((len:Int)-i).toNat=mm_→J prog 90 19 R K90_0 [(8,iv i),(7,iv (len:Int)),(0,.slice la len cap),(1,.func (.func g) #[] #[c1,c2])] w1:=by
  intro mm1
  induction mm1 using Nat.strongRecOn with
  | _ mm1 ih1 =>
  intro i w1 h0 h1 hq S1 hm1
  refine J.c 5 [] [] [] 9 (i<(len:Int)) (fun fk1=>?_) fun fk1=>?_
  refine J.r 14 [true] [(13,iv i),(12,.slice la len cap),(11,.func (.func g) #[] #[c1,c2]),(5,iv i)] [] ?_
  obtain ⟨p1,hp1,hc1⟩:=hI.at bq (i).toNat om
  refine J.ok (OK.index 14 22 5 la p1 len (i).toNat i (p1.add ((i).toNat*5)) kr kr hp1 om om rfl)<|J.ok (OK.ldCells 15 64 (p1.add ((i).toNat*5)) (aZ (l.getD (i).toNat bq)) kr kr kr (fun j_ v_ hj_=>S1.cell (hc1 j_ v_ hj_)))<|J.callF 16 g #[.agg (dP (l.getD (i).toNat bq)),c1,c2] hbg kr (hcall (i).toNat w1 (by have:=hI.len_eq;omega) S1.nil) ?_
  rintro _ w2 ⟨rfl,T1⟩
  have S2:Sep w [] w2:=S1.trans T1
  refine J.b 1 [] [] [] 16 (q (l.getD (i).toNat bq)) (fun fk2=>?_) fun fk2=>?_
  refine J.e 6 [iv i] func90 (hR _ _ ?_)
  exact⟨by rw[cw,dv bq i.toNat (by have:=hI.len_eq;omega) hq fk2,Int.toNat_of_nonneg h0],S2.nil⟩
  exact J.wi 5 [false] [] [] 18 (i+1)<|J.t 3 (ih1 _ (show((len:Int)-(i+1)).toNat<mm1 from by omega) (i+1) w2 om om (by intro j hj;by_cases e:j=i.toNat;(subst e;exact fk2);exact hq j om) S2 rfl)
  refine J.e 6 [iv (-1)] func90 (hR _ _ ?_)
  exact⟨by rw[cw,dK bq fun j hj=>hq j (by have:=hI.len_eq;omega)],S1.nil⟩
 exact J.t 13 (L90_1 _ 0 w om om (by intro j hj;simp at hj) S0 rfl)

theorem hb54:af prog 54:=fun _ _=>by kernel_rfl

theorem containsIN2 (la:Option Addr) (len cap:Nat) (l:List Ins) (g:FuncId) (c1:Value) (c2:Value) (q:Ins→Bool) (w:World) (hI:Recs insE 5 w la len l) (hlen:len≤9223372036854775807) (hbg:af prog g) (hcall:∀ (i:Nat) (w2:World),i<l.length→Sep w [] w2→Ret prog g #[.agg (dP (l.getD i bq)),c1,c2] w2 (fun v w3=>v=.bool (q (l.getD i bq))∧Sep w2 [] w3)):Ret prog 54 #[.slice la len cap,.func (.func g) #[] #[c1,c2]] w (fun v w'=>v=.bool (l.any q)∧Sep w [] w'):=by
 refine Ret.st (N:=9) func54 fun R hR S0=>J.r 8 [] [(6,.func (.func g) #[] #[c1,c2]),(5,.slice la len cap)] []<|J.callF 7 90 #[.slice la len cap,.func (.func g) #[] #[c1,c2]] hb90 kr (indexIN2 la len cap l g c1 c2 q _ (hI.sep S0) oz hbg (hcall)) ?_
 rintro _ w1 ⟨rfl,T1⟩
 have S1:Sep w [] w1:=S0.trans T1
 refine J.e 3 [.bool (decide ((cG q l)≥0))] func54 (hR _ _ ?_)
 exact⟨congrArg Value.bool (by first | exact dh),S1.nil⟩

def K80a_0:=adv 13 [] (bi Tryz.f80)
theorem indexI1 (la:Option Addr) (len cap:Nat) (l:List Int) (g:FuncId) (c1:Value) (q:Int→Bool) (w:World) (hI:Ones (Value.int .i64) w la len l) (hlen:len≤9223372036854775807) (hbg:af prog g) (hcall:∀ (i:Nat) (w2:World),i<l.length→Sep w [] w2→Ret prog g #[iv (l.getD i 0),c1] w2 (fun v w3=>v=.bool (q (l.getD i 0))∧Sep w2 [] w3)):Ret prog 80 #[.slice la len cap,.func (.func g) #[] #[c1]] w (fun v w'=>v=iv (cG q l)∧Sep w [] w'):=by
 refine Ret.st (N:=19) func80 fun R hR S0=>?_
 have L80_1:∀ (mm_:Nat) (i:Int) (w1:World),(0≤i)→(i≤(len:Int))→(∀ j,j<(i).toNat→q (l.getD j 0)=false)→Sep w [] w1→((len:Int)-i).toNat=mm_→J prog 80 19 R K80a_0 [(8,iv i),(7,iv (len:Int)),(0,.slice la len cap),(1,.func (.func g) #[] #[c1])] w1:=by
  intro mm1
  induction mm1 using Nat.strongRecOn with
  | _ mm1 ih1 =>
  intro i w1 h0 h1 hq S1 hm1
  refine J.c 5 [] [] [] 9 (i<(len:Int)) (fun fk1=>?_) fun fk1=>?_
  refine J.r 14 [true] [(13,iv i),(12,.slice la len cap),(11,.func (.func g) #[] #[c1]),(5,iv i)] [] ?_
  obtain ⟨p1,hp1,hc1⟩:=hI.at 0 (i).toNat om
  refine J.ok (OK.index 14 26 1 la p1 len (i).toNat i (p1.add (i).toNat) kr kr hp1 om om nO)<|J.ok (OK.ldCell 15 3 (p1.add (i).toNat) (iv (l.getD (i).toNat 0)) kr kr (S1.cell hc1))<|J.callF 16 g #[iv (l.getD (i).toNat 0),c1] hbg kr (hcall (i).toNat w1 (by have:=hI.len_eq;omega) S1.nil) ?_
  rintro _ w2 ⟨rfl,T1⟩
  have S2:Sep w [] w2:=S1.trans T1
  refine J.b 1 [] [] [] 16 (q (l.getD (i).toNat 0)) (fun fk2=>?_) fun fk2=>?_
  refine J.e 6 [iv i] func80 (hR _ _ ?_)
  exact⟨by rw[cw,dv 0 i.toNat (by have:=hI.len_eq;omega) hq fk2,Int.toNat_of_nonneg h0],S2.nil⟩
  exact J.wi 5 [false] [] [] 18 (i+1)<|J.t 3 (ih1 _ (show((len:Int)-(i+1)).toNat<mm1 from by omega) (i+1) w2 om om (by intro j hj;by_cases e:j=i.toNat;(subst e;exact fk2);exact hq j om) S2 rfl)
  refine J.e 6 [iv (-1)] func80 (hR _ _ ?_)
  exact⟨by rw[cw,dK 0 fun j hj=>hq j (by have:=hI.len_eq;omega)],S1.nil⟩
 exact J.t 13 (L80_1 _ 0 w om om (by intro j hj;simp at hj) S0 rfl)

theorem containsI1 (la:Option Addr) (len cap:Nat) (l:List Int) (g:FuncId) (c1:Value) (q:Int→Bool) (w:World) (hI:Ones (Value.int .i64) w la len l) (hlen:len≤9223372036854775807) (hbg:af prog g) (hcall:∀ (i:Nat) (w2:World),i<l.length→Sep w [] w2→Ret prog g #[iv (l.getD i 0),c1] w2 (fun v w3=>v=.bool (q (l.getD i 0))∧Sep w2 [] w3)):Ret prog 41 #[.slice la len cap,.func (.func g) #[] #[c1]] w (fun v w'=>v=.bool (l.any q)∧Sep w [] w'):=by
 refine Ret.st (N:=9) func41 fun R hR S0=>J.r 8 [] [(6,.func (.func g) #[] #[c1]),(5,.slice la len cap)] []<|J.callF 7 80 #[.slice la len cap,.func (.func g) #[] #[c1]] hb80 kr (indexI1 la len cap l g c1 q _ (hI.sep S0) oz hbg (hcall)) ?_
 rintro _ w1 ⟨rfl,T1⟩
 have S1:Sep w [] w1:=S0.trans T1
 refine J.e 3 [.bool (decide ((cG q l)≥0))] func41 (hR _ _ ?_)
 exact⟨congrArg Value.bool (by first | exact dh),S1.nil⟩
theorem hb95:af prog 95:=fun _ _=>by kernel_rfl

theorem grow_any (n:Int) (w:World) (hn:0≤n∧n≤1099511627776):Ret prog 95 #[.slice none 0 0,iv n] w (fun v w'=>∃ a cap,v=.slice a 0 cap∧Sep w [ak aA a cap 3 1 []] w'):=by
 refine Ret.st (N:=27) func95 fun R hR S0=>?_
 have fk2:¬ (n<0):=by omega
 refine J.h 10 [] [] [] 6 (.bool (decide (n<0))) (.bool false) (congrArg Value.bool (decide_eq_false fk2))<|J.wi 12 [false] [] [] 14 (n-0)<|J.c 7 [] [(1,iv (n-0))] [] 16 ((n-0)>0) (fun fk3=>?_) fun fk3=>?_
 refine J.r 5 [true] [(19,iv 0),(17,.slice none 0 0)] []<|J.ok (OK.slice 20 26 1 none 0 0 none (some (iv 0)) 0 0 kr kr (.inl ⟨rfl,rfl⟩) (.inr ⟨_,_,rfl,rfl⟩) oz oz)<|J.head (.slice none 0 0) (by rw[subA_zero];try rfl)<|J.r 1 [] [(21,iv (n-0))] []<|J.appz aA (0:Int) S0 22 26 3 3 1 .i64 .i64 (n-0) (n-0).toNat (iv 0) 8 kr om om kr kr kr kr dE rF (⟨om,om⟩) ?_
 intro b1 rc1 w1 S1
 refine J.r 2 [] [(24,iv 0)] [] ?_
 have:=(ed (S1.nth 0 rfl)).2.2
 refine J.ok (OK.slice 25 26 1 (some ⟨b1,0,none⟩) ((List.replicate (n-0).toNat (0:Int)).length) rc1 none (some (iv 0)) 0 0 kr kr (.inl ⟨rfl,rfl⟩) (.inr ⟨_,_,rfl,rfl⟩) oz oz)<|J.head (.slice (some ⟨b1,0,none⟩) 0 rc1) (by rw[subA_zero];try rfl)<|J.e 7 [.slice (some ⟨b1,0,none⟩) 0 rc1] func95 (hR _ _ ?_)
 exact⟨_,_,rfl,(S1.cut 0 rfl (fun _=>rfl) 0 (Nat.zero_le _)).pick 0 rfl⟩
 refine J.e 7 [.slice none 0 0] func95 (hR _ _ ?_)
 exact⟨none,0,rfl,S0.nil.nilRow 3 1⟩

theorem hb58:af prog 58:=fun _ _=>by kernel_rfl

theorem concat2_any (bx:Nat) (la:Option Addr) (na ca:Nat) (xa:List Int) (lb:Option Addr) (nb cb:Nat) (xb:List Int) (w:World) (ha:dj w la na xa) (hb:dj w lb nb xb) (hbx:(box bx [.slice la na ca,.slice lb nb cb] 26).holds w) (hsm:na≤1048576∧nb≤1048576):Ret prog 58 #[.slice (some ⟨bx,0,none⟩) 2 2] w (fun v w'=>∃ a cap,v=.slice a (xa++xb).length cap∧Sep w [ak aA a cap 3 1 (xa++xb)] w'):=by
 refine Ret.st (N:=36) func58 fun R hR S0=>?_
 have hla_:=ha.len_eq
 have hlb_:=hb.len_eq
 refine J.r 28 [true] [(11,iv 0),(10,iv 2),(9,.slice (some ⟨bx,0,none⟩) 2 2),(3,iv 0)] []<|J.ok (OK.index 13 59 1 (some ⟨bx,0,none⟩) ⟨bx,0,none⟩ 2 0 0 ⟨bx,0,none⟩ kr kr rfl om om rF)<|J.ok (OK.ldRo S0 hbx 14 26 0 (.slice la na ca) kr kr)<|J.wi 8 [] [] [] 18 (0+(na:Int)) ?_
 have fk2:¬ ((0+(na:Int))<0):=by omega
 refine J.h 7 [] [(3,iv (0+(na:Int)))] [] 20 (.bool (decide ((0+(na:Int))<0))) (.bool false) (congrArg Value.bool (decide_eq_false fk2))<|J.r 19 [false,true] [(11,iv 1)] []<|J.ok (OK.index 13 59 1 (some ⟨bx,0,none⟩) ⟨bx,0,none⟩ 2 1 1 ⟨bx,1,none⟩ kr kr rfl om om rF)<|J.ok (OK.ldRo S0 hbx 14 26 1 (.slice lb nb cb) kr kr)<|J.wi 8 [] [] [18] 18 ((0+(na:Int))+(nb:Int)) ?_
 have fk4:¬ (((0+(na:Int))+(nb:Int))<0):=by omega
 refine J.h 7 [] [(3,iv ((0+(na:Int))+(nb:Int)))] [20] 20 (.bool (decide (((0+(na:Int))+(nb:Int))<0))) (.bool false) (congrArg Value.bool (decide_eq_false fk4))<|J.cf 18 [false,false] [] [11] 24 hb95 (grow_any ((0+(na:Int))+(nb:Int)) _ om) ?_
 rintro _ w1 ⟨ra1,rc1,rfl,T1⟩
 have S1:Sep w [ak aA ra1 rc1 3 1 ([])] w1:=S0.trans T1
 refine J.r 22 [true] [(27,iv 0),(26,iv 2),(25,.slice (some ⟨bx,0,none⟩) 2 2),(6,.slice ra1 0 rc1)] []<|J.ok (OK.index 29 59 1 (some ⟨bx,0,none⟩) ⟨bx,0,none⟩ 2 0 0 ⟨bx,0,none⟩ kr kr rfl om om rF)<|J.ok (OK.ldRo S1 hbx 30 26 0 (.slice la na ca) kr kr)<|J.r 5 [] [(32,.slice la na ca),(31,.slice ra1 0 rc1)] [] ?_
 have hz1:=ha.sep S1
 have:=hz1.len_eq
 refine J.appendN aA S1 0 ([]) xa na oz 33 26 (iv 0) 8 la ca rfl kr kr kr kr dE (ha.sep S1).enc (fun h_=>Ones.nil (h_▸hz1)) (fun _=>rfl) (fun _=>rfl) (⟨by first | omega | (simp;omega),by first | omega | (simp;omega)⟩) ?_
 intro ra2 rc2 w2 S2
 replace S2:Sep w [ak aA ra2 rc2 3 1 xa] w2:=S2
 refine J.r 19 [true] [(27,iv 1),(6,.slice ra2 xa.length rc2)] []<|J.ok (OK.index 29 59 1 (some ⟨bx,0,none⟩) ⟨bx,0,none⟩ 2 1 1 ⟨bx,1,none⟩ kr kr rfl om om rF)<|J.ok (OK.ldRo S2 hbx 30 26 1 (.slice lb nb cb) kr kr)<|J.r 5 [] [(32,.slice lb nb cb),(31,.slice ra2 xa.length rc2)] [] ?_
 have hz2:=hb.sep S2
 have:=hz2.len_eq
 refine J.appendN aA S2 0 xa xb nb oz 33 26 (iv 0) 8 lb cb rfl kr kr kr kr dE (hb.sep S2).enc (fun h_=>Ones.nil (h_▸hz2)) (fun _=>rfl) (fun _=>rfl) (⟨by first | omega | (simp;omega),by first | omega | (simp;omega)⟩) ?_
 intro ra3 rc3 w3 S3
 replace S3:Sep w [ak aA ra3 rc3 3 1 (xa++xb)] w3:=S3
 refine J.e 20 [.slice ra3 ((xa++xb).length) rc3] func58 (hR _ _ ?_)
 exact⟨_,_,rfl,S3.pick 0 rfl⟩

theorem hb26:af prog 26:=fun _ _=>by kernel_rfl
def K26_0:=adv 234 [false,false,false,true,false,true,false,true,false,false] (bi Tryz.f26)
theorem pvalid_any (p:Prg) (w:World) (hp:prgQ w p):Ret prog 26 #[.agg (dq p)] w (fun v w'=>v=.bool (bX p)∧Sep w [] w'):=by
 refine Ret.st (N:=117) func26 fun R hR S0=>?_
 obtain ⟨q1,q2,q3,q4,q5,q6,q7,q8,q9,q10,q11,q12,q13,q14,q15,q16,q17,q18,q19,q20,q21,q22,q23,q24,q25,_⟩:=id hp
 have ql1:=q2.len_eq
 have ql2:=q5.len_eq
 have ql3:=q8.len_eq
 have ql4:=q11.len_eq
 have ql5:=q15.len_eq
 have ql6:=q18.len_eq
 have ql7:=q21.len_eq
 have ql8:=q24.len_eq
 have hrep:(List.replicate (p.ap).toNat false).length=p.ap.toNat:=List.length_replicate
 have hcat:(p.au++p.ao).length=p.au.length+p.ao.length:=List.length_append
 refine J.nw 2 [] [] [] S0 1 (aO p) 28 fun b1 w1 S1=>J.lb 6 [] [] [] S1 0 rfl 10 (.slice p.cD p.bl p.dd)<|J.c 3 [] [] [] 13 ((p.bl:Int)>4000) (fun fk1=>?_) fun fk1=>?_
 refine J.e 42 [.bool false] func26 (hR _ _ ?_)
 exact⟨congrArg Value.bool (aX (.inl om)).symm,S1.nil⟩
 refine J.lb 1 [] [] [] S1 0 rfl 15 (.slice p.aJ p.am p.bj)<|J.c 4 [] [] [] 19 ((p.am:Int)>100) (fun fk2=>?_) fun fk2=>?_
 refine J.e 36 [.bool false] func26 (hR _ _ ?_)
 exact⟨congrArg Value.bool (aX (.inl om)).symm,S1.nil⟩
 refine J.lb 1 [] [] [] S1 0 rfl 21 (.slice p.ce p.br p.cu)<|J.c 4 [] [] [] 25 ((p.br:Int)>100) (fun fk3=>?_) fun fk3=>?_
 refine J.e 30 [.bool false] func26 (hR _ _ ?_)
 exact⟨congrArg Value.bool (aX (.inl om)).symm,S1.nil⟩
 refine J.lb 1 [] [] [] S1 0 rfl 27 (.slice p.dc p.bO p.dz)<|J.c 4 [] [] [] 31 ((p.bO:Int)>100) (fun fk4=>?_) fun fk4=>?_
 refine J.e 24 [.bool false] func26 (hR _ _ ?_)
 exact⟨congrArg Value.bool (aX (.inl om)).symm,S1.nil⟩
 refine J.lb 1 [] [] [] S1 0 rfl 33 (iv p.ap)<|J.c 3 [] [] [] 36 (p.ap<0) (fun fk5=>?_) fun fk5=>?_
 refine J.e 19 [.bool false] func26 (hR _ _ ?_)
 exact⟨congrArg Value.bool (aX (.inl om)).symm,S1.nil⟩
 refine J.lb 1 [] [] [] S1 0 rfl 38 (iv p.ap)<|J.c 3 [] [] [] 41 (p.ap>1000) (fun fk6=>?_) fun fk6=>?_
 refine J.e 14 [.bool false] func26 (hR _ _ ?_)
 exact⟨congrArg Value.bool (aX (.inl om)).symm,S1.nil⟩
 refine J.lb 1 [] [] [] S1 0 rfl 43 (.slice p.bU p.bc p.co)<|J.lb 2 [] [(44,iv (p.bc:Int))] [] S1 0 rfl 46 (.slice p.aY p.aH p.ba)<|J.cn 4 [] [] [] 49 ((p.bc:Int)=(p.aH:Int)) (fun fk7=>?_) fun fk7=>?_
 refine J.nw 4 [false] [] [] S1 3 [.nilFunc] 87 fun b2 w2 S2=>J.sb 0 [] [] [] S2 0 rfl [.func (.func 44) #[] #[]] rfl fun w3 S3=>J.lb 5 [] [] [] S3 1 rfl 51 (.slice p.aJ p.am p.bj)<|J.r 1 [] [(52,.func (.func 46) #[] #[pv b2])] []<|J.callF 53 45 #[.slice p.aJ p.am p.bj,.func (.func 46) #[] #[pv b2]] hb45 kr (containsFX1 p.aJ p.am p.bj p.av 46 (pv b2) (fun x=> !bF x) _ (q5.sep S3) oz hb46 (fun i_ w_ hi_ S_=>val2_any _ b2 w_ (aw (aw (aP q6 fx0 (n:=i_) hi_) S3) S_) (dG (S3.nth 0 rfl) S_))) ?_
 rintro _ w4 ⟨rfl,T1⟩
 have S4:Sep w [box b2 [.func (.func 44) #[] #[]] 87,box b1 (aO p) 28] w4:=S3.trans T1
 refine J.b 1 [] [] [] 54 (List.any p.av (fun x=> !bF x)) (fun fk8=>?_) fun fk8=>?_
 refine J.e 17 [.bool false] func26 (hR _ _ ?_)
 exact⟨congrArg Value.bool (aX (.inr (.inl (any_true_all fk8)))).symm,S4.nil⟩
 refine J.lb 1 [] [] [] S4 1 rfl 56 (.slice p.ce p.br p.cu)<|J.r 1 [] [(57,.func (.func 49) #[] #[pv b2])] []<|J.callF 58 48 #[.slice p.ce p.br p.cu,.func (.func 49) #[] #[pv b2]] hb48 kr (containsCV1 p.ce p.br p.cu p.bS 49 (pv b2) (fun x=> !cB x) _ (q8.sep S4) oz hb49 (fun i_ w_ hi_ S_=>val3_any _ b2 w_ (dV (dV (aP q9 (⟨none,0,0,[],none,0,0,[]⟩:Crv) (n:=i_) hi_) S4) S_) (dG (S4.nth 0 rfl) S_))) ?_
 rintro _ w5 ⟨rfl,T2⟩
 have S5:Sep w [box b2 [.func (.func 44) #[] #[]] 87,box b1 (aO p) 28] w5:=S4.trans T2
 refine J.b 2 [] [] [] 60 (List.any p.bS (fun x=> !cB x)) (fun fk9=>?_) fun fk9=>?_
 refine J.e 11 [.bool false] func26 (hR _ _ ?_)
 exact⟨congrArg Value.bool (aX (.inr (.inr (.inl (any_true_all fk9))))).symm,S5.nil⟩
 refine J.lb 1 [] [] [] S5 1 rfl 62 (.slice p.dc p.bO p.dz)<|J.r 1 [] [(63,.func (.func 52) #[] #[pv b2])] []<|J.callF 64 51 #[.slice p.dc p.bO p.dz,.func (.func 52) #[] #[pv b2]] hb51 kr (containsMP1 p.dc p.bO p.dz p.cX 52 (pv b2) (fun x=> !ch x) _ (q11.sep S5) oz hb52 (fun i_ w_ hi_ S_=>val4_any _ b2 w_ (dZ (dZ (aP q12 (⟨none,0,0,[],none,0,0,[],none,0,0,[]⟩:Mp) (n:=i_) hi_) S5) S_) (dG (S5.nth 0 rfl) S_))) ?_
 rintro _ w6 ⟨rfl,T3⟩
 have S6:Sep w [box b2 [.func (.func 44) #[] #[]] 87,box b1 (aO p) 28] w6:=S5.trans T3
 refine J.b 2 [] [] [] 65 (List.any p.cX (fun x=> !ch x)) (fun fk10=>?_) fun fk10=>?_
 refine J.e 5 [.bool false] func26 (hR _ _ ?_)
 exact⟨congrArg Value.bool (aX (.inr (.inr (.inr (.inl (any_true_all fk10)))))).symm,S6.nil⟩
 refine J.lb 6 [false] [] [] S6 1 rfl 67 (.slice p.cD p.bl p.dd)<|J.r 1 [] [(68,.func (.func 55) #[] #[pv b2,pv b1])] []<|J.callF 69 54 #[.slice p.cD p.bl p.dd,.func (.func 55) #[] #[pv b2,pv b1]] hb54 kr (containsIN2 p.cD p.bl p.dd p.aB 55 (pv b2) (pv b1) (fun x=> !cN p x) _ (q2.sep S6) oz hb55 (fun i_ w_ hi_ S_=>val5_any p _ b2 b1 w_ (cS (cS hp S6) S_) (dF (dF (aP q3 bq (n:=i_) hi_) S6) S_) (dG (S6.nth 0 rfl) S_) (dG (S6.nth 1 rfl) S_))) ?_
 rintro _ w7 ⟨rfl,T4⟩
 have S7:Sep w [box b2 [.func (.func 44) #[] #[]] 87,box b1 (aO p) 28] w7:=S6.trans T4
 refine J.b 1 [] [] [] 69 (List.any p.aB (fun x=> !cN p x)) (fun fk11=>?_) fun fk11=>?_
 refine J.e 5 [.bool false] func26 (hR _ _ ?_)
 exact⟨congrArg Value.bool (aX (.inr (.inr (.inr (.inr (.inl (any_true_all fk11))))))).symm,S7.nil⟩
 refine J.lb 6 [false] [] [] S7 1 rfl 71 (.slice p.aU p.aq p.aW)<|J.lb 1 [] [] [] S7 1 rfl 73 (.slice p.bt p.aL p.bv)<|J.lb 1 [] [] [] S7 1 rfl 75 (.slice p.aY p.aH p.ba)<|J.newSlice S7 76 3 [.slice p.aU p.aq p.aW,.slice p.bt p.aL p.bv,.slice p.aY p.aH p.ba] 26 kr ?_
 intro b3 w8 S8
 refine J.r 16 [true] [(78,iv 0),(77,iv 3)] []<|J.ok (OK.index 80 59 1 (some ⟨b3,0,none⟩) ⟨b3,0,none⟩ 3 0 0 ⟨b3,0,none⟩ kr kr rfl om om rF)<|J.lb 0 [] [] [] S8 0 rfl 81 (.slice p.aU p.aq p.aW)<|J.c 8 [] [(5,.slice p.aU p.aq p.aW)] [] 85 ((p.aq:Int)>1000) (fun fk12=>?_) fun fk12=>?_
 refine J.e 10 [.bool false] func26 (hR _ _ ?_)
 exact⟨congrArg Value.bool (aX (.inr (.inr (.inr (.inr (.inr (.inl (cellsL_long om)))))))).symm,S8.nil⟩
 refine J.r 2 [] [(87,.func (.func 57) #[] #[pv b1]),(86,.slice p.aU p.aq p.aW)] []<|J.callF 88 41 #[.slice p.aU p.aq p.aW,.func (.func 57) #[] #[pv b1]] hb41 kr (containsI1 p.aU p.aq p.aW p.au 57 (pv b1) (fun c=> !(decide (0≤c)&&decide (c<p.ap))) _ (q15.sep S8) oz hb57 (fun i_ w_ hi_ S_=>val6_any p _ b1 w_ (dG (S8.nth 2 rfl) S_))) ?_
 rintro _ w9 ⟨rfl,T5⟩
 have S9:Sep w [box b3 [.slice p.aU p.aq p.aW,.slice p.bt p.aL p.bv,.slice p.aY p.aH p.ba] 26,box b2 [.func (.func 44) #[] #[]] 87,box b1 (aO p) 28] w9:=S8.trans T5
 refine J.b 2 [] [] [] 89 (List.any p.au (fun c=> !(decide (0≤c)&&decide (c<p.ap)))) (fun fk13=>?_) fun fk13=>?_
 refine J.e 5 [.bool false] func26 (hR _ _ ?_)
 exact⟨congrArg Value.bool (aX (.inr (.inr (.inr (.inr (.inr (.inl (cellsL_any fk13)))))))).symm,S9.nil⟩
 refine J.r 19 [false,true] [(78,iv 1)] []<|J.ok (OK.index 80 59 1 (some ⟨b3,0,none⟩) ⟨b3,0,none⟩ 3 1 1 ⟨b3,1,none⟩ kr kr rfl om om rF)<|J.lb 0 [] [] [] S9 0 rfl 81 (.slice p.bt p.aL p.bv)<|J.c 8 [] [(5,.slice p.bt p.aL p.bv)] [85] 85 ((p.aL:Int)>1000) (fun fk14=>?_) fun fk14=>?_
 refine J.e 10 [.bool false] func26 (hR _ _ ?_)
 exact⟨congrArg Value.bool (aX (.inr (.inr (.inr (.inr (.inr (.inr (.inl (cellsL_long om))))))))).symm,S9.nil⟩
 refine J.r 2 [] [(87,.func (.func 57) #[] #[pv b1]),(86,.slice p.bt p.aL p.bv)] []<|J.callF 88 41 #[.slice p.bt p.aL p.bv,.func (.func 57) #[] #[pv b1]] hb41 kr (containsI1 p.bt p.aL p.bv p.aM 57 (pv b1) (fun c=> !(decide (0≤c)&&decide (c<p.ap))) _ (q21.sep S9) oz hb57 (fun i_ w_ hi_ S_=>val6_any p _ b1 w_ (dG (S9.nth 2 rfl) S_))) ?_
 rintro _ w10 ⟨rfl,T6⟩
 have S10:Sep w [box b3 [.slice p.aU p.aq p.aW,.slice p.bt p.aL p.bv,.slice p.aY p.aH p.ba] 26,box b2 [.func (.func 44) #[] #[]] 87,box b1 (aO p) 28] w10:=S9.trans T6
 refine J.b 2 [] [] [89] 89 (List.any p.aM (fun c=> !(decide (0≤c)&&decide (c<p.ap)))) (fun fk15=>?_) fun fk15=>?_
 refine J.e 5 [.bool false] func26 (hR _ _ ?_)
 exact⟨congrArg Value.bool (aX (.inr (.inr (.inr (.inr (.inr (.inr (.inl (cellsL_any fk15))))))))).symm,S10.nil⟩
 refine J.r 19 [false,true] [(78,iv 2)] []<|J.ok (OK.index 80 59 1 (some ⟨b3,0,none⟩) ⟨b3,0,none⟩ 3 2 2 ⟨b3,2,none⟩ kr kr rfl om om rF)<|J.lb 0 [] [] [] S10 0 rfl 81 (.slice p.aY p.aH p.ba)<|J.c 8 [] [(5,.slice p.aY p.aH p.ba)] [85] 85 ((p.aH:Int)>1000) (fun fk16=>?_) fun fk16=>?_
 refine J.e 10 [.bool false] func26 (hR _ _ ?_)
 exact⟨congrArg Value.bool (aX (.inr (.inr (.inr (.inr (.inr (.inr (.inr (.inl (cellsL_long om)))))))))).symm,S10.nil⟩
 refine J.r 2 [] [(87,.func (.func 57) #[] #[pv b1]),(86,.slice p.aY p.aH p.ba)] []<|J.callF 88 41 #[.slice p.aY p.aH p.ba,.func (.func 57) #[] #[pv b1]] hb41 kr (containsI1 p.aY p.aH p.ba p.ao 57 (pv b1) (fun c=> !(decide (0≤c)&&decide (c<p.ap))) _ (q18.sep S10) oz hb57 (fun i_ w_ hi_ S_=>val6_any p _ b1 w_ (dG (S10.nth 2 rfl) S_))) ?_
 rintro _ w11 ⟨rfl,T7⟩
 have S11:Sep w [box b3 [.slice p.aU p.aq p.aW,.slice p.bt p.aL p.bv,.slice p.aY p.aH p.ba] 26,box b2 [.func (.func 44) #[] #[]] 87,box b1 (aO p) 28] w11:=S10.trans T7
 refine J.b 2 [] [] [89] 89 (List.any p.ao (fun c=> !(decide (0≤c)&&decide (c<p.ap)))) (fun fk17=>?_) fun fk17=>?_
 refine J.e 5 [.bool false] func26 (hR _ _ ?_)
 exact⟨congrArg Value.bool (aX (.inr (.inr (.inr (.inr (.inr (.inr (.inr (.inl (cellsL_any fk17)))))))))).symm,S11.nil⟩
 refine J.lb 18 [false,false] [] [78] S11 2 rfl 92 (iv p.ap)<|J.make (eP Value.bool) false S11 93 67 4 1 p.ap p.ap ((p.ap).toNat) (.bool false) 1 kr om om kr kr kr rF om ?_
 intro b4 w12 S12
 refine J.lb 6 [] [(6,.slice (some ⟨b4,0,none⟩) ((List.replicate ((p.ap).toNat) false).length) ((p.ap).toNat))] [] S12 3 rfl 95 (.slice p.aU p.aq p.aW)<|J.lb 1 [] [] [] S12 3 rfl 97 (.slice p.aY p.aH p.ba)<|J.newSlice S12 98 2 [.slice p.aU p.aq p.aW,.slice p.aY p.aH p.ba] 26 kr ?_
 intro b5 w13 S13
 refine J.cf 0 [] [] [] 99 hb58 (concat2_any b5 p.aU p.aq p.aW p.au p.aY p.aH p.ba p.ao _ (q15.sep S13) (q18.sep S13) (S13.nth 0 rfl) om) ?_
 rintro _ w14 ⟨ra1,rc1,rfl,T8⟩
 have S14:Sep w [ak aA ra1 rc1 3 1 (p.au++p.ao),box b5 [.slice p.aU p.aq p.aW,.slice p.aY p.aH p.ba] 26,ak (eP Value.bool) (some ⟨b4,0,none⟩) ((p.ap).toNat) 4 1 (List.replicate ((p.ap).toNat) false),box b3 [.slice p.aU p.aq p.aW,.slice p.bt p.aL p.bv,.slice p.aY p.aH p.ba] 26,box b2 [.func (.func 44) #[] #[]] 87,box b1 (aO p) 28] w14:=S13.trans T8
 have L26_1:∀ (mm_:Nat) (tk:List Bool) (k:Int) (w15:World),(0≤k)→(k≤((p.au++p.ao).length:Int))→(markP (p.au++p.ao) p.ap (k).toNat tk)→Sep w [ak aA ra1 rc1 3 1 (p.au++p.ao),box b5 [.slice p.aU p.aq p.aW,.slice p.aY p.aH p.ba] 26,ak (eP Value.bool) (some ⟨b4,0,none⟩) ((p.ap).toNat) 4 1 tk,box b3 [.slice p.aU p.aq p.aW,.slice p.bt p.aL p.bv,.slice p.aY p.aH p.ba] 26,box b2 [.func (.func 44) #[] #[]] 87,box b1 (aO p) 28] w15→(((p.au++p.ao).length:Int)-k).toNat=mm_→J prog 26 117 R K26_0 [(101,iv k),(100,iv ((p.au++p.ao).length:Int)),(99,.slice ra1 ((p.au++p.ao).length) rc1),(6,.slice (some ⟨b4,0,none⟩) ((List.replicate ((p.ap).toNat) false).length) ((p.ap).toNat)),(1,pv b1)] w15:=by
  intro mm1
  induction mm1 using Nat.strongRecOn with
  | _ mm1 ih1 =>
  intro tk k w15 k0 k1 hM S15 hm1
  have hck0:=fun (j:Nat) (hj:j<(p.au++p.ao).length)=>getD_two (j:=j) ((bY (cellsL_none om fk13)).2) ((bY (cellsL_none om fk17)).2) hj
  have hck1:k<((p.au++p.ao).length:Int)→_:=fun h_=>hck0 k.toNat om
  have htk:=hM.1
  refine J.c 5 [] [] [] 102 (k<((p.au++p.ao).length:Int)) (fun fk18=>?_) fun fk18=>?_
  have hck:=hck1 om
  refine J.r 6 [true] [] [] ?_
  obtain ⟨p1,hp1⟩:=bK (S15.nth 0 rfl) (show 0<(p.au++p.ao).length by first | omega | (simp;omega))
  refine J.ok (OK.index 103 26 1 ra1 p1 ((p.au++p.ao).length) (k).toNat k (p1.add (k).toNat) kr kr hp1 om oz nO)<|J.ok (OK.ldCell 104 3 (p1.add (k).toNat) (iv ((p.au++p.ao).getD (k).toNat 0)) kr kr (ct (g:=(Value.int .i64)) S15 0 rfl hp1 0 (k).toNat oz))<|J.r 7 [] [(106,iv ((p.au++p.ao).getD (k).toNat 0)),(105,.slice (some ⟨b4,0,none⟩) ((List.replicate ((p.ap).toNat) false).length) ((p.ap).toNat)),(8,iv ((p.au++p.ao).getD (k).toNat 0))] [] ?_
  obtain ⟨p2,hp2⟩:=bK (S15.nth 2 rfl) (show 0<(tk).length by first | omega | (simp;omega))
  refine J.ok (OK.index 107 67 1 (some ⟨b4,0,none⟩) p2 ((List.replicate ((p.ap).toNat) false).length) ((p.au++p.ao).getD (k).toNat 0).toNat ((p.au++p.ao).getD (k).toNat 0) (p2.add ((p.au++p.ao).getD (k).toNat 0).toNat) kr kr hp2 om oz nO)<|J.ok (OK.ldCell 108 4 (p2.add ((p.au++p.ao).getD (k).toNat 0).toNat) (.bool (tk.getD ((p.au++p.ao).getD (k).toNat 0).toNat false)) kr kr (ct (g:=Value.bool) S15 2 rfl hp2 false ((p.au++p.ao).getD (k).toNat 0).toNat oz))<|J.b 1 [] [] [] 108 (tk.getD ((p.au++p.ao).getD (k).toNat 0).toNat false) (fun fk19=>?_) fun fk19=>?_
  refine J.e 5 [.bool false] func26 (hR _ _ ?_)
  exact⟨congrArg Value.bool (aX (.inr (.inr (.inr (.inr (.inr (.inr (.inr (.inr (.inr (.inl (mark_twice hM om hck fk19)))))))))))).symm,S15.nil⟩
  refine J.r 5 [false] [(110,iv ((p.au++p.ao).getD (k).toNat 0)),(109,.slice (some ⟨b4,0,none⟩) ((List.replicate ((p.ap).toNat) false).length) ((p.ap).toNat))] []<|J.ok (OK.index 111 67 1 (some ⟨b4,0,none⟩) p2 ((List.replicate ((p.ap).toNat) false).length) ((p.au++p.ao).getD (k).toNat 0).toNat ((p.au++p.ao).getD (k).toNat 0) (p2.add ((p.au++p.ao).getD (k).toNat 0).toNat) kr kr hp2 om oz nO)<|J.stRow1 Value.bool bool_one S15 2 tk 4 p2 ((p.au++p.ao).getD (k).toNat 0).toNat true rfl kr hp2 oz kr ?_
  intro w16 S16
  replace S16:Sep w [ak aA ra1 rc1 3 1 (p.au++p.ao),box b5 [.slice p.aU p.aq p.aW,.slice p.aY p.aH p.ba] 26,ak (eP Value.bool) (some ⟨b4,0,none⟩) ((p.ap).toNat) 4 1 (tk.set ((p.au++p.ao).getD (k).toNat 0).toNat true),box b3 [.slice p.aU p.aq p.aW,.slice p.bt p.aL p.bv,.slice p.aY p.aH p.ba] 26,box b2 [.func (.func 44) #[] #[]] 87,box b1 (aO p) 28] w16:=S16
  exact J.wi 4 [] [] [] 112 (k+1)<|J.t 3 (ih1 _ (show(((p.au++p.ao).length:Int)-(k+1)).toNat<mm1 from by omega) (tk.set ((p.au++p.ao).getD (k).toNat 0).toNat true) (k+1) w16 om om (by rw[show(k+1).toNat=k.toNat+1 by omega];exact mark_step hM om hck fk19) S16 rfl)
  refine J.lb 5 [false] [] [] S15 5 rfl 114 (.slice p.bU p.bc p.co)<|J.callF 115 41 #[.slice p.bU p.bc p.co,.func (.func 59) #[] #[]] hb41 kr (containsI0 p.bU p.bc p.co p.bf 59  (fun n=> !initB n) _ (q24.sep S15) oz hb59 (fun i_ w_ hi_ S_=>val7_any _ w_)) ?_
  rintro _ w17 ⟨rfl,T9⟩
  have S17:Sep w [ak aA ra1 rc1 3 1 (p.au++p.ao),box b5 [.slice p.aU p.aq p.aW,.slice p.aY p.aH p.ba] 26,ak (eP Value.bool) (some ⟨b4,0,none⟩) ((p.ap).toNat) 4 1 tk,box b3 [.slice p.aU p.aq p.aW,.slice p.bt p.aL p.bv,.slice p.aY p.aH p.ba] 26,box b2 [.func (.func 44) #[] #[]] 87,box b1 (aO p) 28] w17:=S15.trans T9
  refine J.e 3 [.bool (!(List.any p.bf (fun n=> !initB n)))] func26 (hR _ _ ?_)
  exact⟨congrArg Value.bool (by show(!(p.bf.any (fun n=> !initB n)))=bX p;cases hz_:p.bf.any (fun n=> !initB n) with | true=>exact(aX (.inr (.inr (.inr (.inr (.inr (.inr (.inr (.inr (.inr (.inr (any_true_all hz_)))))))))))).symm | false=>exact(validP_yes om (eF fk8) (eF fk9) (eF fk10) (eF fk11) (cellsL_none om fk13) (cellsL_none om fk15) (cellsL_none om fk17) om (mark_end hM om) (eF hz_)).symm),S17.nil⟩
 exact J.t 5 (L26_1 _ (List.replicate ((p.ap).toNat) false) 0 w14 om om (mark_zero om) S14 rfl)
 refine J.e 5 [.bool false] func26 (hR _ _ ?_)
 exact⟨congrArg Value.bool (aX (.inr (.inr (.inr (.inr (.inr (.inr (.inr (.inr (.inl om)))))))))).symm,S1.nil⟩
end
end Go.Proofs.YtaoolgcddapegaaGreat
