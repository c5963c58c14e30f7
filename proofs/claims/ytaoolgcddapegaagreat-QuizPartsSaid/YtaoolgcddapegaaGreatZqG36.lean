/- Walks of functions of this seat, printed by a program over the engine. Conditions: as each theorem says. -/
import Derived.Test.YtaoolgcddapegaaGreatZqG34
set_option linter.unusedSimpArgs false
set_option linter.unusedVariables false
namespace Go.Proofs.YtaoolgcddapegaaGreat
noncomputable section
open Go.Eng Go.RowKit Go.Proofs.Tryz
set_option maxRecDepth 20000
set_option maxHeartbeats 20000000
abbrev kvG36_1:List Value:=[iv 0,.bool false,iv 0,iv 0,iv 0,iv 0,iv 0,iv 0,iv 0,iv 0,iv 0]
theorem hb40:af prog 40:=fun _ _=>by kernel_rfl
def K40_0:=List.drop 1 (adv 24 [] (cR (adv 9 [] (bi Tryz.f40))))
def K40_1:=List.drop 1 (adv 55 [false,false,false,false] (cR (adv 9 [] (bi Tryz.f40))))
def K40_2:=adv 2 [true] K40_1
abbrev dL (b4:Nat) (b3:Nat) (i:Ins) (b2:Nat) (rs:List Int) (ra:Option Addr) (n:Nat) (rc:Nat) (b1:Nat) (p:Prg) (cs:List Int) (L0:List Eng.Claim):List Eng.Claim:=(box b4 (mxC (List.replicate 16 (0:Int)) [.slice none 0 0]) 44::box b3 [iv i.gOp,iv i.gA,iv i.gB,iv i.gC,iv i.gK] 64::box b2 (mxC rs [.slice ra n rc]) 44::box b1 [.slice p.cD p.bl p.dd,.slice p.aJ p.am p.bj,.slice p.ce p.br p.cu,.slice p.dc p.bO p.dz,iv p.ap,.slice p.aU p.aq p.aW,.slice p.aY p.aH p.ba,.slice p.bt p.aL p.bv,.slice p.bU p.bc p.co] 28::ak aA ra rc 3 1 cs::L0)
def K40_3:=adv 8 [false,true] K40_1
abbrev bJ (b4:Nat) (b3:Nat) (i:Ins) (b2:Nat) (rs:List Int) (ra:Option Addr) (n:Nat) (rc:Nat) (b1:Nat) (p:Prg) (cs:List Int) (L0:List Eng.Claim):List Eng.Claim:=(dL b4 b3 i b2 rs ra n rc b1 p cs L0)
def K40_4:=adv 14 [false,false,true] K40_1
abbrev bz (b4:Nat) (b3:Nat) (i:Ins) (b2:Nat) (rs:List Int) (ra:Option Addr) (n:Nat) (rc:Nat) (b1:Nat) (p:Prg) (cs:List Int) (L0:List Eng.Claim):List Eng.Claim:=(bJ b4 b3 i b2 rs ra n rc b1 p cs L0)
def K40_5:=adv 11 [false] (cR (adv 1 [] (cR (adv 86 [false,false,false,false,false,false,false,false,false,false,false,false,false,false,true] K40_1))))
abbrev K40H3 (b4:Nat) (b3:Nat) (i:Ins) (b2:Nat) (rs:List Int) (ra:Option Addr) (n:Nat) (rc:Nat) (b1:Nat) (p:Prg) (cs:List Int) (L0:List Eng.Claim):List Eng.Claim:=(bz b4 b3 i b2 rs ra n rc b1 p cs L0)
def K40_6:=adv 14 [true] (cR (adv 1 [] (cR (adv 86 [false,false,false,false,false,false,false,false,false,false,false,false,false,false,true] K40_1))))
abbrev K40H4 (b4:Nat) (b3:Nat) (i:Ins) (b2:Nat) (rs:List Int) (ra:Option Addr) (n:Nat) (rc:Nat) (b1:Nat) (p:Prg) (cs:List Int) (L0:List Eng.Claim):List Eng.Claim:=(K40H3 b4 b3 i b2 rs ra n rc b1 p cs L0)
def K40_7:=List.drop 1 (adv 24 [] (cR (adv 9 [] (bi Tryz.f40))))
theorem rmdo_any (p:Prg) (i:Ins) (rs:List Int) (ra:Option Addr) (n rc:Nat) (cs:List Int) (w0:World) (L0:List Eng.Claim) (w:World) (S0:Sep w0 (ak aA ra rc 3 1 cs::L0) w) (hrs:rs.length=16) (hn:cs.length=n) (hp:prgQ w0 p) (hi:insQ w0 i) (hv:bX p=true) (hf:cN p i=true) (hcn:(n:Int)=p.ap):Ret prog 40 #[.agg (dq p),.agg (mxA rs [.slice ra n rc]),.agg (dP i)] w (fun v w'=>v=.tuple #[.agg (mxA (exR p i rs cs) [.slice ra n rc]),iv (exE p i rs)]∧Sep w0 (ak aA ra rc 3 1 (exC i rs cs)::L0) w'):=by
 refine Ret.st (N:=322) func40 fun R hR _=>?_
 obtain ⟨q1,q2,q3,q4,q5,q6,q7,q8,q9,q10,q11,q12,q13,q14,q15,q16,q17,q18,q19,q20,q21,q22,q23,q24,q25,_⟩:=id hp
 have ql1:=q2.len_eq
 have ql2:=q5.len_eq
 have ql3:=q8.len_eq
 have ql4:=q11.len_eq
 have ql5:=q15.len_eq
 have ql6:=q18.len_eq
 have ql7:=q21.len_eq
 have ql8:=q24.len_eq
 obtain ⟨q26,q27,q28,q29,q30,_⟩:=id hi
 have hfp:=formB_iff.1 (fits_form hf).1
 have hnm:=(fits_form hf).2
 have hop1:=op_facts hnm
 have hlt:p.av.length=p.am:=by omega
 have hvc:i.gOp=20→cB (p.bS.getD i.gK.toNat (⟨none,0,0,[],none,0,0,[]⟩:Crv))=true:=fun h_=>(cI (⟨none,0,0,[],none,0,0,[]⟩:Crv)).1 (ci hv).2.2.1 i.gK.toNat om
 refine J.nw 2 [] [] [] S0 3 (aO p) 28 fun b1 w1 S1=>J.new S1 4 (mxC rs [.slice ra n rc]) 44 kr ?_
 intro b2 w2 S2
 refine J.nw 0 [] [] [] S2 5 (aZ i) 64 fun b3 w3 S3=>J.new S3 6 (mxC (List.replicate 16 (0:Int)) [.slice none 0 0]) 44 kr ?_
 intro b4 w4 S4
 refine J.r 3 [] [] []<|J.drawStill S4 12 Tryz.mixed kr kr kr ?_
 intro w5 S5
 refine SL.r 23 (.pointer (some ⟨b3,2,none⟩))<|SL.lb S5 1 rfl 24 (iv i.gB)<|SL.r 25 (pv b2)<|SL.ok dE (OK.indexP 26 42 16 1 b2 0 ((i.gB).toNat) i.gB kr kr om om)<|SL.head (.pointer (some ⟨b2,(i.gB).toNat,none⟩)) zO<|SL.ok dE (OK.ldMi S5 2 rfl 27 3 ((i.gB).toNat))<|SL.r 28 (.pointer (some ⟨b3,3,none⟩))<|SL.lb S5 1 rfl 29 (iv i.gC)<|SL.r 30 (pv b2)<|SL.ok dE (OK.indexP 31 42 16 1 b2 0 ((i.gC).toNat) i.gC kr kr om om)<|SL.head (.pointer (some ⟨b2,(i.gC).toNat,none⟩)) zO ?_
 refine SL.ok dE (OK.ldMi S5 2 rfl 32 3 ((i.gC).toNat))<|SL.r 8 (iv (gX rs i))<|SL.r 9 (iv (gY rs i))<|SL.done<|TL.done kr<|J.lb 3 [] [] [] S5 1 rfl 35 (iv i.gK) ?_
 by_cases fk1:i.gK≥0
 refine J.h 1 [] [] [] 36 (iv (if 0>i.gK then 0 else i.gK)) (iv i.gK) (congrArg (Value.int .i64) om)<|J.c0 0 [] [] [] S5 37 hb37 (rtypes_any i.gK _ om) fun w6 S6=>J.lb 16 [] [(13,iv 0),(12,iv (i.gK%128)),(11,iv (i.gK/128%128)),(10,iv (i.gK/16384))] [] S6 1 rfl 42 (iv i.gOp) ?_
 have X1:∀ (out:Int) (cl:List Int) (w7:World),(out=exV p i rs cs)→(cl=exC i rs cs)→(exE p i rs=0)→(i.gOp≠3)→Sep w0 (box b4 (mxC (List.replicate 16 (0:Int)) [.slice none 0 0]) 44::box b3 (aZ i) 64::box b2 (mxC rs [.slice ra n rc]) 44::box b1 (aO p) 28::ak aA ra rc 3 1 cl::L0) w7→J prog 40 322 R K40_0 [(6,pv b4),(5,pv b3),(4,pv b2),(13,iv out)] w7:=by
  intro out cl w7 hout hcl hz hop S7
  refine J.lb 3 [] [] [] S7 1 rfl 317 (iv i.gA)<|J.r 2 [] [(319,pv b2),(318,iv out)] []<|J.ok (OK.indexP 320 42 16 1 b2 0 ((i.gA).toNat) i.gA kr kr om om)<|J.head (.pointer (some ⟨b2,(i.gA).toNat,none⟩)) zO<|J.stMi S7 2 rfl 3 ((i.gA).toNat) out rfl fun w8 S8=>J.r 3 [] [] []<|J.ok (OK.ldM S8 2 rfl 321 44 16 sA)<|J.stM S8 0 rfl 16 (rs.set ((i.gA).toNat) out) [.slice ra n rc] rfl rfl sA fun w9 S9=>J.r 2 [] [(7,iv 0)] []<|J.ret Tryz.f40 [.agg (mxA (rs.set ((i.gA).toNat) out) [.slice ra n rc]),iv 0] func40 ⟨⟨⟨b4,0,none⟩,kr,aS (S9.nth 0 rfl) (eJ (n:=16) kr kr sA)⟩,kr,trivial⟩<|hR _ _ ?_
  have e1:exR p i rs cs=rs.set i.gA.toNat out:=by unfold exR;rw[if_neg om,hout]
  exact⟨by rw[hz,e1];rfl,by rw[← hcl];exact((((S9.erase 0).erase 0).erase 0).erase 0)⟩
 refine J.c 7 [] [] [] 43 (i.gOp=1) (fun fk2=>?_) fun fk2=>?_
 exact J.lb 3 [true] [] [] S6 1 rfl 46 (iv i.gK)<|J.t 3 (X1 i.gK cs w6 (by unfold exV;(repeat first | rw[if_pos om] | rw[if_neg om])<;>(try simp only[eD,eE,decide_true,decide_false,Bool.not_true,Bool.not_false,Bool.true_and,Bool.false_and,Bool.true_or,Bool.false_or])) (by unfold exC;(repeat first | rw[if_pos om] | rw[if_neg om])) (by unfold exE;rw[if_neg om]) om S6)
 refine J.c 6 [false] [] [] 47 (i.gOp=2) (fun fk3=>?_) fun fk3=>?_
 refine J.r 3 [true] [(49,.pointer (some ⟨b2,16,none⟩))] []<|J.ok (OK.ldMt S6 2 rfl 50 26 16 aS0)<|J.lb 1 [] [] [] S6 1 rfl 52 (iv i.gK) ?_
 obtain ⟨p1,hp1⟩:=bK (S6.nth 4 rfl) (show 0<(cs).length by first | omega | (simp;omega))
 exact J.ok (OK.index 53 26 1 ra p1 n (i.gK).toNat i.gK (p1.add (i.gK).toNat) kr kr hp1 om oz nO)<|J.ok (OK.ldCell 54 3 (p1.add (i.gK).toNat) (iv (cs.getD (i.gK).toNat 0)) kr kr (ct (g:=(Value.int .i64)) S6 4 rfl hp1 0 (i.gK).toNat oz))<|J.t 3 (X1 (cs.getD (i.gK).toNat 0) cs w6 (by unfold exV;(repeat first | rw[if_pos om] | rw[if_neg om])<;>(try simp only[eD,eE,decide_true,decide_false,Bool.not_true,Bool.not_false,Bool.true_and,Bool.false_and,Bool.true_or,Bool.false_or])) (by unfold exC;(repeat first | rw[if_pos om] | rw[if_neg om])) (by unfold exE;rw[if_neg om]) om S6)
 refine J.c 6 [false] [] [] 55 (i.gOp=3) (fun fk4=>?_) fun fk4=>?_
 refine J.r 2 [true] [] [] ?_
 obtain ⟨p2,hp2⟩:=bK (S6.nth 4 rfl) (show 0<(cs).length by first | omega | (simp;omega))
 refine J.drawTail S6 10 Tryz.mixed kr kr ?_
 intro w10 S10
 refine SL.r 57 (.pointer (some ⟨b2,16,none⟩))<|SL.ok dE (OK.ldMt S10 2 rfl 58 26 16 aS0)<|SL.r 59 (.pointer (some ⟨b3,4,none⟩))<|SL.lb S10 1 rfl 60 (iv i.gK)<|SL.r 61 (.pointer (some ⟨b3,1,none⟩))<|SL.lb S10 1 rfl 62 (iv i.gA)<|SL.r 63 (pv b2)<|SL.ok dE (OK.indexP 64 42 16 1 b2 0 ((i.gA).toNat) i.gA kr kr om om)<|SL.head (.pointer (some ⟨b2,(i.gA).toNat,none⟩)) zO<|SL.ok dE (OK.ldMi S10 2 rfl 65 3 ((i.gA).toNat))<|SL.ok dE (OK.index 66 26 1 ra p2 n (i.gK).toNat i.gK (p2.add (i.gK).toNat) kr kr hp2 om oz nO) ?_
 refine SL.done<|TL.stRow1 (Value.int .i64) (dO _) S10 4 cs 3 p2 (i.gK).toNat (rs.getD ((i.gA).toNat) 0) rfl kr hp2 oz kr ?_
 intro w11 S11
 replace S11:Sep w0 (box b4 (mxC (List.replicate 16 (0:Int)) [.slice none 0 0]) 44::box b3 (aZ i) 64::box b2 (mxC rs [.slice ra n rc]) 44::box b1 (aO p) 28::ak aA ra rc 3 1 (cs.set (i.gK).toNat (rs.getD ((i.gA).toNat) 0))::L0) w11:=S11
 refine TL.done kr<|J.r 2 [] [] []<|J.ok (OK.ldM S11 2 rfl 67 44 16 aS0)<|J.stM S11 0 rfl 16 rs [.slice ra n rc] rfl rfl aS0 fun w12 S12=>J.r 2 [] [(7,iv 0)] []<|J.ret Tryz.f40 [.agg (mxA rs [.slice ra n rc]),iv 0] func40 ⟨⟨⟨b4,0,none⟩,kr,aS (S12.nth 0 rfl) (eJ (n:=16) kr kr aS0)⟩,kr,trivial⟩<|hR _ _ ?_
 have e0:exE p i rs=0:=by unfold exE;rw[if_neg om]
 have e1:exR p i rs cs=rs:=by unfold exR;rw[if_pos om]
 have e2:exC i rs cs=cs.set i.gK.toNat (rs.getD i.gA.toNat 0):=by unfold exC;rw[if_pos om]
 exact⟨by rw[e0,e1];rfl,by rw[e2];exact((((S12.erase 0).erase 0).erase 0).erase 0)⟩
 refine J.c 6 [false] [] [] 68 (i.gOp=4) (fun fk5=>?_) fun fk5=>?_
 exact J.t 6 (X1 (gX rs i) cs w6 (by unfold exV;(repeat first | rw[if_pos om] | rw[if_neg om])<;>(try simp only[eD,eE,decide_true,decide_false,Bool.not_true,Bool.not_false,Bool.true_and,Bool.false_and,Bool.true_or,Bool.false_or])) (by unfold exC;(repeat first | rw[if_pos om] | rw[if_neg om])) (by unfold exE;rw[if_neg om]) om S6)
 have X2:∀ (tj71:Bool) (w13:World),((tj71=true→(i.gOp=5∨i.gOp=6∨i.gOp=7∨i.gOp=8))∧(tj71=false→¬ (i.gOp=5∨i.gOp=6∨i.gOp=7∨i.gOp=8)))→Sep w0 (box b4 (mxC (List.replicate 16 (0:Int)) [.slice none 0 0]) 44::box b3 (aZ i) 64::box b2 (mxC rs [.slice ra n rc]) 44::box b1 (aO p) 28::ak aA ra rc 3 1 cs::L0) w13→J prog 40 322 R K40_1 [(42,iv i.gOp),(13,iv 0),(12,iv (i.gK%128)),(11,iv (i.gK/128%128)),(10,iv (i.gK/16384)),(9,iv (gY rs i)),(8,iv (gX rs i)),(6,pv b4),(5,pv b3),(4,pv b2),(3,pv b1),(71,.bool tj71)] w13:=by
  intro tj71 w13 htj71 S13
  refine J.b 0 [] [] [] 71 tj71 (fun fk6=>?_) fun fk6=>?_
  have fb1:=htj71.1 fk6
  obtain ⟨⟨htA,hfA,hkA⟩,htB_,htC_,hun⟩:=ty_el hv hlt hf om om
  obtain ⟨htB,hfB,hkB⟩:=htB_ om
  obtain ⟨htC,hfC,hkC⟩:=htC_ om
  rw[htA,htB,htC] at hun
  refine J.r 2 [true] [] [] ?_
  obtain ⟨p3,hp3,hc1⟩:=q5.at fx0 (i.gK/16384).toNat om
  have hel1:=aP q6 fx0 (n:=(i.gK/16384).toNat) (by have:=q5.len_eq;omega)
  obtain ⟨q31,q32,q33,q34,q35,q36,q37,q38,q39,_⟩:=id hel1
  obtain ⟨p4,hp4,hc2⟩:=q5.at fx0 (i.gK/128%128).toNat om
  have hel2:=aP q6 fx0 (n:=(i.gK/128%128).toNat) (by have:=q5.len_eq;omega)
  obtain ⟨q40,q41,q42,q43,q44,q45,q46,q47,q48,_⟩:=id hel2
  obtain ⟨p5,hp5,hc3⟩:=q5.at fx0 (i.gK%128).toNat om
  have hel3:=aP q6 fx0 (n:=(i.gK%128).toNat) (by have:=q5.len_eq;omega)
  obtain ⟨q49,q50,q51,q52,q53,q54,q55,q56,q57,_⟩:=id hel3
  replace S13:Sep w0 (dL b4 b3 i b2 rs ra n rc b1 p cs L0) w13:=S13
  have W1:∀ (bd26:Nat) (w14:World),Sep w0 (box bd26 (vlL (es (i.gOp-4) (eB p i) (ab (eB p i) (gY rs i)) (eC p i)) (di (i.gOp-4) (eA p i) (ab (eA p i) (gX rs i)) (eB p i) (ab (eB p i) (gY rs i)) (eC p i))) 102::(dL b4 b3 i b2 rs ra n rc b1 p cs L0)) w14→WA prog 40 322 R K40_2 (fun w_=>Sep w0 (dL b4 b3 i b2 rs ra n rc b1 p cs L0) w_) 0 (bA 29 536870911) [(4,pv b2),(5,pv b3),(6,pv b4),(14,pv bd26),(15,iv (opE (i.gOp-4) (eB p i) (ab (eB p i) (gY rs i))))] w14:=by
   intro bd26 w14 S14
   refine WA.done kr<|J.cn 6 [] [] [] 103 ((opE (i.gOp-4) (eB p i) (ab (eB p i) (gY rs i)))=0) (fun fk7=>?_) fun fk7=>?_
   exact J.lb 4 [false] [] [] S14 0 rfl 107 (iv (di (i.gOp-4) (eA p i) (ab (eA p i) (gX rs i)) (eB p i) (ab (eB p i) (gY rs i)) (eC p i)))<|J.t 3 (X1 (di (i.gOp-4) (eA p i) (ab (eA p i) (gX rs i)) (eB p i) (ab (eB p i) (gY rs i)) (eC p i)) cs w14 (by unfold exV;(repeat first | rw[if_pos om] | rw[if_neg om]);rw[(ar_op (op:=i.gOp) (k:=i.gOp-4) (ta:=tyA p i.gOp i.gK) (tb:=tyB p i.gOp i.gK) (t:=tyC p i.gOp i.gK) (x:=rs.getD i.gB.toNat 0) (y:=rs.getD i.gC.toNat 0) om om).1,htA,htB,htC]) (by unfold exC;(repeat first | rw[if_pos om] | rw[if_neg om])) (by unfold exE;rw[if_pos om,(ar_op (op:=i.gOp) (k:=i.gOp-4) (ta:=tyA p i.gOp i.gK) (tb:=tyB p i.gOp i.gK) (t:=tyC p i.gOp i.gK) (x:=rs.getD i.gB.toNat 0) (y:=rs.getD i.gC.toNat 0) om om).2,htB];exact fk7) om (S14.erase 0))
   refine J.r 3 [true] [] []<|J.ok (OK.ldM S14 3 rfl 104 44 16 aS0)<|J.r 1 [] [(105,iv (opE (i.gOp-4) (eB p i) (ab (eB p i) (gY rs i))))] []<|J.stM S14 1 rfl 16 rs [.slice ra n rc] rfl rfl aS0 fun w15 S15=>J.r 2 [] [(7,iv (opE (i.gOp-4) (eB p i) (ab (eB p i) (gY rs i))))] []<|J.ret Tryz.f40 [.agg (mxA rs [.slice ra n rc]),iv (opE (i.gOp-4) (eB p i) (ab (eB p i) (gY rs i)))] func40 ⟨⟨⟨b4,0,none⟩,kr,aS (S15.nth 1 rfl) (eJ (n:=16) kr kr aS0)⟩,kr,trivial⟩<|hR _ _ ?_
   have e0:exE p i rs=opE (i.gOp-4) (eB p i) (ab (eB p i) (gY rs i)):=by unfold exE;rw[if_pos om,(ar_op (op:=i.gOp) (k:=i.gOp-4) (ta:=tyA p i.gOp i.gK) (tb:=tyB p i.gOp i.gK) (t:=tyC p i.gOp i.gK) (x:=rs.getD i.gB.toNat 0) (y:=rs.getD i.gC.toNat 0) om om).2,htB]
   have e1:exR p i rs cs=rs:=by unfold exR;rw[if_pos (by rw[e0];omega)]
   have e2:exC i rs cs=cs:=by unfold exC;rw[if_neg om,if_neg om]
   exact⟨by rw[e0,e1];rfl,by rw[e2];exact(((((S15.erase 0).erase 0).erase 0).erase 0).erase 0)⟩
  have W2:∀ (bd26:Nat) (w16:World),Sep w0 (box bd26 kvG36_1 102::(dL b4 b3 i b2 rs ra n rc b1 p cs L0)) w16→WA prog 40 322 R K40_2 (fun w_=>Sep w0 (dL b4 b3 i b2 rs ra n rc b1 p cs L0) w_) 2 (bA 29 134217727) [(4,pv b2),(5,pv b3),(6,pv b4),(14,pv bd26),(100,.agg (vlA (es (i.gOp-4) (eB p i) (ab (eB p i) (gY rs i)) (eC p i)) (di (i.gOp-4) (eA p i) (ab (eA p i) (gX rs i)) (eB p i) (ab (eB p i) (gY rs i)) (eC p i)))),(101,iv (opE (i.gOp-4) (eB p i) (ab (eB p i) (gY rs i))))] w16:=by
   intro bd26 w16 S16
   refine WA.all [27] kr rfl ⟨?_,trivial⟩
   refine WO.set (bA 29 268435455) kr<|WO.stBox S16 0 102 0 (.agg (vlA (es (i.gOp-4) (eB p i) (ab (eB p i) (gY rs i)) (eC p i)) (di (i.gOp-4) (eA p i) (ab (eA p i) (gX rs i)) (eB p i) (ab (eB p i) (gY rs i)) (eC p i)))) (vlL (es (i.gOp-4) (eB p i) (ab (eB p i) (gY rs i)) (eC p i)) (di (i.gOp-4) (eA p i) (ab (eA p i) (gX rs i)) (eB p i) (ab (eB p i) (gY rs i)) (eC p i))) (box bd26 (vlL (es (i.gOp-4) (eB p i) (ab (eB p i) (gY rs i)) (eC p i)) (di (i.gOp-4) (eA p i) (ab (eA p i) (gX rs i)) (eB p i) (ab (eB p i) (gY rs i)) (eC p i))) 102::(dL b4 b3 i b2 rs ra n rc b1 p cs L0)) kr rfl kr kr rfl ?_
   intro w17 S17
   exact WB.mk (S17.erase 0)<|WA.take 28 15 (iv (opE (i.gOp-4) (eB p i) (ab (eB p i) (gY rs i)))) (bA 29 536870911) kr kr kr (fun _ _=>kr) kr<|WA.weaken kr (W1 bd26 w17 S17)
  have W3:∀ (w18:World),Sep w0 (dL b4 b3 i b2 rs ra n rc b1 p cs L0) w18→WA prog 40 322 R K40_2 (fun w_=>Sep w0 (dL b4 b3 i b2 rs ra n rc b1 p cs L0) w_) 3 (bA 29 67108863) [(4,pv b2),(5,pv b3),(6,pv b4),(100,.agg (vlA (es (i.gOp-4) (eB p i) (ab (eB p i) (gY rs i)) (eC p i)) (di (i.gOp-4) (eA p i) (ab (eA p i) (gX rs i)) (eB p i) (ab (eB p i) (gY rs i)) (eC p i)))),(101,iv (opE (i.gOp-4) (eB p i) (ab (eB p i) (gY rs i))))] w18:=by
   intro w18 S18
   refine WA.all [26] kr rfl ⟨?_,trivial⟩
   refine WO.set (bA 29 134217727) kr<|WO.new S18 14 kvG36_1 102 kr ?_
   intro bd26 w19 S19
   exact WB.mk (S19.erase 0)<|WA.weaken kr (W2 bd26 w19 S19)
  have W4:∀ (bd26:Nat) (w20:World),Sep w0 (box bd26 kvG36_1 102::(dL b4 b3 i b2 rs ra n rc b1 p cs L0)) w20→WA prog 40 322 R K40_2 (fun w_=>Sep w0 (dL b4 b3 i b2 rs ra n rc b1 p cs L0) w_) 6 (bA 29 71303167) [(4,pv b2),(5,pv b3),(6,pv b4),(14,pv bd26),(79,iv (i.gOp-4)),(86,.agg (vlA (eA p i) (ab (eA p i) (gX rs i)))),(93,.agg (vlA (eB p i) (ab (eB p i) (gY rs i)))),(98,.agg (aI (eC p i)))] w20:=by
   intro bd26 w20 S20
   refine WA.all [22] kr rfl ⟨?_,trivial⟩
   refine WO.set (bA 29 75497471) kr<|WO.callF 99 68 #[iv (i.gOp-4),.agg (vlA (eA p i) (ab (eA p i) (gX rs i))),.agg (vlA (eB p i) (ab (eB p i) (gY rs i))),.agg (aI (eC p i))] hb68 kr (rdo_any (i.gOp-4) (eA p i) (ab (eA p i) (gX rs i)) (eB p i) (ab (eB p i) (gY rs i)) (eC p i) _ (aw hel1 S20) hfA (bw _ _) (aw hel2 S20) hfB (bw _ _) (aw hel3 S20) hfC om (fit_of hun om)) ?_
   rintro _ w21 ⟨rfl,T1⟩
   exact WB.mk ((S20.trans T1).erase 0)<|WA.take 23 76 (.tuple #[.agg (vlA (es (i.gOp-4) (eB p i) (ab (eB p i) (gY rs i)) (eC p i)) (di (i.gOp-4) (eA p i) (ab (eA p i) (gX rs i)) (eB p i) (ab (eB p i) (gY rs i)) (eC p i))),iv (opE (i.gOp-4) (eB p i) (ab (eB p i) (gY rs i)))]) (bA 29 83886079) kr kr kr (fun _ _=>kr) kr<|WA.take 24 100 (.agg (vlA (es (i.gOp-4) (eB p i) (ab (eB p i) (gY rs i)) (eC p i)) (di (i.gOp-4) (eA p i) (ab (eA p i) (gX rs i)) (eB p i) (ab (eB p i) (gY rs i)) (eC p i)))) (bA 29 100663295) kr kr kr (fun _ _=>kr) kr<|WA.take 25 101 (iv (opE (i.gOp-4) (eB p i) (ab (eB p i) (gY rs i)))) (bA 29 134217727) kr kr kr (fun _ _=>kr) kr<|WA.weaken kr (W2 bd26 w21 (S20.trans T1))
  have W5:∀ (bd26:Nat) (w22:World),Sep w0 (box bd26 kvG36_1 102::(dL b4 b3 i b2 rs ra n rc b1 p cs L0)) w22→WA prog 40 322 R K40_2 (fun w_=>Sep w0 (dL b4 b3 i b2 rs ra n rc b1 p cs L0) w_) 7 (bA 29 71237631) [(4,pv b2),(5,pv b3),(6,pv b4),(14,pv bd26),(79,iv (i.gOp-4)),(86,.agg (vlA (eA p i) (ab (eA p i) (gX rs i)))),(91,.agg (aI (eB p i))),(92,iv (gY rs i)),(98,.agg (aI (eC p i)))] w22:=by
   intro bd26 w22 S22
   refine WA.all [16] kr rfl ⟨?_,trivial⟩
   refine WO.set (bA 29 71303167) kr<|WO.callF 93 69 #[.agg (aI (eB p i)),iv (gY rs i)] hb69 kr (bT (eB p i) (gY rs i) _ (aw hel2 S22) hfB) ?_
   rintro _ w23 ⟨rfl,T2⟩
   have S23:Sep w0 (box bd26 kvG36_1 102::(dL b4 b3 i b2 rs ra n rc b1 p cs L0)) w23:=S22.trans T2
   exact WB.mk (S23.erase 0)<|WA.weaken kr (W4 bd26 w23 S23)
  have W6:∀ (w24:World),Sep w0 (dL b4 b3 i b2 rs ra n rc b1 p cs L0) w24→WA prog 40 322 R K40_2 (fun w_=>Sep w0 (dL b4 b3 i b2 rs ra n rc b1 p cs L0) w_) 7 (bA 29 4194303) [(4,pv b2),(5,pv b3),(6,pv b4),(79,iv (i.gOp-4)),(86,.agg (vlA (eA p i) (ab (eA p i) (gX rs i)))),(93,.agg (vlA (eB p i) (ab (eB p i) (gY rs i)))),(98,.agg (aI (eC p i)))] w24:=by
   intro w24 S24
   refine WA.all [22,26] kr rfl ⟨?_,?_,trivial⟩
   refine WO.set (bA 29 8388607) kr<|WO.callF 99 68 #[iv (i.gOp-4),.agg (vlA (eA p i) (ab (eA p i) (gX rs i))),.agg (vlA (eB p i) (ab (eB p i) (gY rs i))),.agg (aI (eC p i))] hb68 kr (rdo_any (i.gOp-4) (eA p i) (ab (eA p i) (gX rs i)) (eB p i) (ab (eB p i) (gY rs i)) (eC p i) _ (aw hel1 S24) hfA (bw _ _) (aw hel2 S24) hfB (bw _ _) (aw hel3 S24) hfC om (fit_of hun om)) ?_
   rintro _ w25 ⟨rfl,T3⟩
   exact WB.mk (S24.trans T3)<|WA.take 23 76 (.tuple #[.agg (vlA (es (i.gOp-4) (eB p i) (ab (eB p i) (gY rs i)) (eC p i)) (di (i.gOp-4) (eA p i) (ab (eA p i) (gX rs i)) (eB p i) (ab (eB p i) (gY rs i)) (eC p i))),iv (opE (i.gOp-4) (eB p i) (ab (eB p i) (gY rs i)))]) (bA 29 16777215) kr kr kr (fun _ _=>kr) kr<|WA.take 24 100 (.agg (vlA (es (i.gOp-4) (eB p i) (ab (eB p i) (gY rs i)) (eC p i)) (di (i.gOp-4) (eA p i) (ab (eA p i) (gX rs i)) (eB p i) (ab (eB p i) (gY rs i)) (eC p i)))) (bA 29 33554431) kr kr kr (fun _ _=>kr) kr<|WA.take 25 101 (iv (opE (i.gOp-4) (eB p i) (ab (eB p i) (gY rs i)))) (bA 29 67108863) kr kr kr (fun _ _=>kr) kr<|WA.weaken kr (W3 w25 (S24.trans T3))
   refine WO.set (bA 29 71303167) kr<|WO.new S24 14 kvG36_1 102 kr ?_
   intro bd26 w26 S26
   exact WB.mk (S26.erase 0)<|WA.weaken kr (W4 bd26 w26 S26)
  have W7:∀ (w27:World),Sep w0 (dL b4 b3 i b2 rs ra n rc b1 p cs L0) w27→WA prog 40 322 R K40_2 (fun w_=>Sep w0 (dL b4 b3 i b2 rs ra n rc b1 p cs L0) w_) 8 (bA 29 4128767) [(4,pv b2),(5,pv b3),(6,pv b4),(79,iv (i.gOp-4)),(86,.agg (vlA (eA p i) (ab (eA p i) (gX rs i)))),(91,.agg (aI (eB p i))),(92,iv (gY rs i)),(98,.agg (aI (eC p i)))] w27:=by
   intro w27 S27
   refine WA.all [16,26] kr rfl ⟨?_,?_,trivial⟩
   refine WO.set (bA 29 4194303) kr<|WO.callF 93 69 #[.agg (aI (eB p i)),iv (gY rs i)] hb69 kr (bT (eB p i) (gY rs i) _ (aw hel2 S27) hfB) ?_
   rintro _ w28 ⟨rfl,T4⟩
   have S28:Sep w0 (dL b4 b3 i b2 rs ra n rc b1 p cs L0) w28:=S27.trans T4
   exact WB.mk S28<|WA.weaken kr (W6 w28 S28)
   refine WO.set (bA 29 71237631) kr<|WO.new S27 14 kvG36_1 102 kr ?_
   intro bd26 w29 S29
   exact WB.mk (S29.erase 0)<|WA.weaken kr (W5 bd26 w29 S29)
  have W8:∀ (bd26:Nat) (w30:World),Sep w0 (box bd26 kvG36_1 102::(dL b4 b3 i b2 rs ra n rc b1 p cs L0)) w30→WA prog 40 322 R K40_2 (fun w_=>Sep w0 (dL b4 b3 i b2 rs ra n rc b1 p cs L0) w_) 8 (bA 29 71237119) [(4,pv b2),(5,pv b3),(6,pv b4),(14,pv bd26),(79,iv (i.gOp-4)),(84,.agg (aI (eA p i))),(85,iv (gX rs i)),(91,.agg (aI (eB p i))),(92,iv (gY rs i)),(98,.agg (aI (eC p i)))] w30:=by
   intro bd26 w30 S30
   refine WA.all [9] kr rfl ⟨?_,trivial⟩
   refine WO.set (bA 29 71237631) kr<|WO.callF 86 69 #[.agg (aI (eA p i)),iv (gX rs i)] hb69 kr (bT (eA p i) (gX rs i) _ (aw hel1 S30) hfA) ?_
   rintro _ w31 ⟨rfl,T5⟩
   have S31:Sep w0 (box bd26 kvG36_1 102::(dL b4 b3 i b2 rs ra n rc b1 p cs L0)) w31:=S30.trans T5
   exact WB.mk (S31.erase 0)<|WA.weaken kr (W5 bd26 w31 S31)
  have W9:∀ (w32:World),Sep w0 (dL b4 b3 i b2 rs ra n rc b1 p cs L0) w32→WA prog 40 322 R K40_2 (fun w_=>Sep w0 (dL b4 b3 i b2 rs ra n rc b1 p cs L0) w_) 9 (bA 29 4128255) [(4,pv b2),(5,pv b3),(6,pv b4),(79,iv (i.gOp-4)),(84,.agg (aI (eA p i))),(85,iv (gX rs i)),(91,.agg (aI (eB p i))),(92,iv (gY rs i)),(98,.agg (aI (eC p i)))] w32:=by
   intro w32 S32
   refine WA.all [9,26] kr rfl ⟨?_,?_,trivial⟩
   refine WO.set (bA 29 4128767) kr<|WO.callF 86 69 #[.agg (aI (eA p i)),iv (gX rs i)] hb69 kr (bT (eA p i) (gX rs i) _ (aw hel1 S32) hfA) ?_
   rintro _ w33 ⟨rfl,T6⟩
   have S33:Sep w0 (dL b4 b3 i b2 rs ra n rc b1 p cs L0) w33:=S32.trans T6
   exact WB.mk S33<|WA.weaken kr (W7 w33 S33)
   refine WO.set (bA 29 71237119) kr<|WO.new S32 14 kvG36_1 102 kr ?_
   intro bd26 w34 S34
   exact WB.mk (S34.erase 0)<|WA.weaken kr (W8 bd26 w34 S34)
  refine J.drawAny (fun w_=>Sep w0 (dL b4 b3 i b2 rs ra n rc b1 p cs L0) w_) S13 29 (bA 29 0) Tryz.mixed kr kr kr ?_
  intro w35 S35
  refine WB.mk S35<|WA.take 0 77 (pv b3) (bA 29 1) kr kr kr (fun _ _=>kr) kr<|WA.takeOK 1 (bA 29 3) kr kr kr kr (fun w_ S_=>OK.ldBox S_ 1 78 3 0 (iv i.gOp) kr rfl kr) rfl<|WA.take 2 79 (iv (IntKind.wrap .i64 (i.gOp-4))) (bA 29 7) kr kr kr (fun _ _=>kr) kr<|WA.head (iv (i.gOp-4)) (congrArg (Value.int .i64) (IntWalk.i64_in _ om))<|WA.take 3 80 (.pointer (some ⟨b1,1,none⟩)) (bA 29 15) kr kr kr (fun _ _=>kr) kr<|WA.takeOK 4 (bA 29 31) kr kr kr kr (fun w_ S_=>OK.ldBox S_ 3 81 23 1 (.slice p.aJ p.am p.bj) kr rfl kr) rfl<|WA.take 5 82 (iv (i.gK/16384)) (bA 29 63) kr kr kr (fun _ _=>kr) kr<|WA.takeOK 6 (bA 29 127) kr kr kr kr (fun w_ S_=>OK.index 83 23 10 p.aJ p3 p.am (i.gK/16384).toNat (i.gK/16384) (p3.add ((i.gK/16384).toNat*10)) kr kr hp3 om om rfl) rfl<|WA.takeOK 7 (bA 29 255) kr kr kr kr (fun w_ S_=>OK.ldCells 84 54 (p3.add ((i.gK/16384).toNat*10)) (aN (eA p i)) kr kr kr (fun j_ v_ hj_=>S_.cell (hc1 j_ v_ hj_))) rfl<|WA.take 8 85 (iv (gX rs i)) (bA 29 511) kr kr kr (fun _ _=>kr) kr ?_
  refine WA.take 10 87 (.pointer (some ⟨b1,1,none⟩)) (bA 29 1535) kr kr kr (fun _ _=>kr) kr<|WA.takeOK 11 (bA 29 3583) kr kr kr kr (fun w_ S_=>OK.ldBox S_ 3 88 23 1 (.slice p.aJ p.am p.bj) kr rfl kr) rfl<|WA.take 12 89 (iv (i.gK/128%128)) (bA 29 7679) kr kr kr (fun _ _=>kr) kr<|WA.takeOK 13 (bA 29 15871) kr kr kr kr (fun w_ S_=>OK.index 90 23 10 p.aJ p4 p.am (i.gK/128%128).toNat (i.gK/128%128) (p4.add ((i.gK/128%128).toNat*10)) kr kr hp4 om om rfl) rfl<|WA.takeOK 14 (bA 29 32255) kr kr kr kr (fun w_ S_=>OK.ldCells 91 54 (p4.add ((i.gK/128%128).toNat*10)) (aN (eB p i)) kr kr kr (fun j_ v_ hj_=>S_.cell (hc2 j_ v_ hj_))) rfl<|WA.take 15 92 (iv (gY rs i)) (bA 29 65023) kr kr kr (fun _ _=>kr) kr<|WA.take 17 94 (.pointer (some ⟨b1,1,none⟩)) (bA 29 196095) kr kr kr (fun _ _=>kr) kr<|WA.takeOK 18 (bA 29 458239) kr kr kr kr (fun w_ S_=>OK.ldBox S_ 3 95 23 1 (.slice p.aJ p.am p.bj) kr rfl kr) rfl<|WA.take 19 96 (iv (i.gK%128)) (bA 29 982527) kr kr kr (fun _ _=>kr) kr<|WA.takeOK 20 (bA 29 2031103) kr kr kr kr (fun w_ S_=>OK.index 97 23 10 p.aJ p5 p.am (i.gK%128).toNat (i.gK%128) (p5.add ((i.gK%128).toNat*10)) kr kr hp5 om om rfl) rfl<|WA.takeOK 21 (bA 29 4128255) kr kr kr kr (fun w_ S_=>OK.ldCells 98 54 (p5.add ((i.gK%128).toNat*10)) (aN (eC p i)) kr kr kr (fun j_ v_ hj_=>S_.cell (hc3 j_ v_ hj_))) rfl ?_
  exact WA.weaken (env':=[(4,pv b2),(5,pv b3),(6,pv b4),(79,iv (i.gOp-4)),(84,.agg (aI (eA p i))),(85,iv (gX rs i)),(91,.agg (aI (eB p i))),(92,iv (gY rs i)),(98,.agg (aI (eC p i)))]) kr<|W9 w35 S35
  have fb2:=htj71.2 fk6
  refine J.c 6 [false] [] [] 108 (i.gOp=9) (fun fk8=>?_) fun fk8=>?_
  obtain ⟨⟨htA,hfA,hkA⟩,htB_,htC_,hun⟩:=ty_el hv hlt hf om om
  obtain ⟨htC,hfC,hkC⟩:=htC_ om
  refine J.r 2 [true] [] [] ?_
  obtain ⟨p6,hp6,hc4⟩:=q5.at fx0 (i.gK/16384).toNat om
  have hel4:=aP q6 fx0 (n:=(i.gK/16384).toNat) (by have:=q5.len_eq;omega)
  obtain ⟨q58,q59,q60,q61,q62,q63,q64,q65,q66,_⟩:=id hel4
  replace S13:Sep w0 (bJ b4 b3 i b2 rs ra n rc b1 p cs L0) w13:=S13
  have W10:∀ (bd118:Nat) (bd117:Nat) (ae113:Option Addr) (ce113:Nat) (ad113:Option Addr) (cd113:Nat) (w36:World),Sep w0 (bgR (ac (eA p i) (ab (eA p i) (gX rs i))) ad113 cd113::bgR ((eA p i).aa) ae113 ce113::box bd117 (bgC (ac (eA p i) (ab (eA p i) (gX rs i))) ad113 cd113) 107::box bd118 (bgC ((eA p i).aa) ae113 ce113) 107::(bJ b4 b3 i b2 rs ra n rc b1 p cs L0)) w36→WA prog 40 322 R K40_3 (fun w_=>Sep w0 (bJ b4 b3 i b2 rs ra n rc b1 p cs L0) w_) 0 (bA 21 2097151) [(3,pv b1),(4,pv b2),(5,pv b3),(6,pv b4),(12,iv (i.gK%128)),(16,pv bd117),(17,pv bd118)] w36:=by
   intro bd118 bd117 ae113 ce113 ad113 cd113 w36 S36
   refine WA.done kr ?_
   obtain ⟨p7,hp7,hc5⟩:=q5.at fx0 (i.gK%128).toNat om
   have hel5:=aP q6 fx0 (n:=(i.gK%128).toNat) (by have:=q5.len_eq;omega)
   obtain ⟨q67,q68,q69,q70,q71,q72,q73,q74,q75,_⟩:=id hel5
   refine J.drawPlan (fun w_=>Sep w0 (bgR (ac (eA p i) (ab (eA p i) (gX rs i))) ad113 cd113::bgR ((eA p i).aa) ae113 ce113::box bd117 (bgC (ac (eA p i) (ab (eA p i) (gX rs i))) ad113 cd113) 107::box bd118 (bgC ((eA p i).aa) ae113 ce113) 107::(bJ b4 b3 i b2 rs ra n rc b1 p cs L0)) w_) [(0,true),(1,true),(2,true),(3,true),(4,true),(5,true),(7,true),(6,false),(8,false),(9,true)] S36 Tryz.mixed kr (aE (T:=[(0,some 127,8),(1,some 128,170141183460469231731687303715884105728),(0,some 129,4096),(6,some 130,1020847100762815390390123822295304634368),(8,some 131,1361129467683753853853498429727072845824),(0,some 132,65536),(32,some 133,5444517870735015415413993718908291383296),(0,some 134,131072),(208,some 135,35389366159777600200190959172903893991424),(511,some 13,43556142965880123323311949751266331066368)]) kr kr) ?_
   intro w37 S37
   refine PB.mk S37<|PL.take 0 127 (.pointer (some ⟨b1,1,none⟩)) (fun _ _=>kr)<|PL.takeOK 1 (fun w_ S_=>OK.ldBox S_ 7 128 23 1 (.slice p.aJ p.am p.bj) kr rfl kr) rfl<|PL.take 2 129 (iv (i.gK%128)) (fun _ _=>kr)<|PL.takeOK 3 (fun w_ S_=>OK.index 130 23 10 p.aJ p7 p.am (i.gK%128).toNat (i.gK%128) (p7.add ((i.gK%128).toNat*10)) kr kr hp7 om om rfl) rfl<|PL.takeOK 4 (fun w_ S_=>OK.ldCells 131 54 (p7.add ((i.gK%128).toNat*10)) (aN (eC p i)) kr kr kr (fun j_ v_ hj_=>S_.cell (hc5 j_ v_ hj_))) rfl<|PL.takeOK 5 (fun w_ S_=>OK.ldBox S_ 2 132 107 0 (bgV (ac (eA p i) (ab (eA p i) (gX rs i))) ad113 cd113) kr rfl kr) rfl<|PL.takeOK 7 (fun w_ S_=>OK.ldBox S_ 3 134 107 0 (bgV ((eA p i).aa) ae113 ce113) kr rfl kr) rfl ?_
   have:=aC (S37.nth 0 rfl)
   refine PL.callF 133 72 #[bgV (ac (eA p i) (ab (eA p i) (gX rs i))) ad113 cd113] hb72 kr (ee (ac (eA p i) (ab (eA p i) (gX rs i))) ad113 ((al (ac (eA p i) (ab (eA p i) (gX rs i)))).length) cd113 _ ((aD (S37.nth 0 rfl) ((al (ac (eA p i) (ab (eA p i) (gX rs i)))).length) rO))) ?_
   rintro _ w38 ⟨rfl,T7⟩
   have S38:Sep w0 (bgR (ac (eA p i) (ab (eA p i) (gX rs i))) ad113 cd113::bgR ((eA p i).aa) ae113 ce113::box bd117 (bgC (ac (eA p i) (ab (eA p i) (gX rs i))) ad113 cd113) 107::box bd118 (bgC ((eA p i).aa) ae113 ce113) 107::(bJ b4 b3 i b2 rs ra n rc b1 p cs L0)) w38:=S37.trans T7
   clear T7 S37
   refine PB.mk S38 ?_
   have:=aC (S38.nth 0 rfl)
   have:=aC (S38.nth 1 rfl)
   refine PL.callF 135 71 #[.agg (aI (eC p i)),.agg #[.bool (decide ((-(ac (eA p i) (ab (eA p i) (gX rs i))))<0)),.slice ad113 ((al (ac (eA p i) (ab (eA p i) (gX rs i)))).length) cd113],bgV ((eA p i).aa) ae113 ce113] hb71 kr (rnear_any (eC p i) (-(ac (eA p i) (ab (eA p i) (gX rs i)))) ad113 ((al (ac (eA p i) (ab (eA p i) (gX rs i)))).length) cd113 ((eA p i).aa) ae113 ((al ((eA p i).aa)).length) ce113 _ (aw hel5 S38) hfC (by first | exact ok_neg hfA | exact ok_pos hfA) (by rw[cY];exact(aD (S38.nth 0 rfl) ((al (ac (eA p i) (ab (eA p i) (gX rs i)))).length) rO)) ((aD (S38.nth 1 rfl) ((al ((eA p i).aa)).length) rO))) ?_
   rintro _ w39 ⟨rfl,T8⟩
   have S39:Sep w0 (bgR (ac (eA p i) (ab (eA p i) (gX rs i))) ad113 cd113::bgR ((eA p i).aa) ae113 ce113::box bd117 (bgC (ac (eA p i) (ab (eA p i) (gX rs i))) ad113 cd113) 107::box bd118 (bgC ((eA p i).aa) ae113 ce113) 107::(bJ b4 b3 i b2 rs ra n rc b1 p cs L0)) w39:=S38.trans T8
   clear T8 S38
   exact PB.mk S39<|PL.take 9 13 (iv (dk (-(ac (eA p i) (ab (eA p i) (gX rs i)))) ((eA p i).aa) (eC p i))) (fun _ _=>kr)<|PL.done<|J.t 1 (X1 (dk (-(ac (eA p i) (ab (eA p i) (gX rs i)))) ((eA p i).aa) (eC p i)) cs w39 (by unfold exV;(repeat first | rw[if_pos om] | rw[if_neg om]);rw[htA,htC,show i.gOp=9 by omega];show _=dk (ac _ _* -1) _ _;rw[Int.mul_neg,Int.mul_one]) (by unfold exC;(repeat first | rw[if_pos om] | rw[if_neg om])) (by unfold exE arE;rw[if_pos om,if_neg om]) om ((((S39.erase 3).erase 2).erase 1).erase 0))
  have W11:∀ (bd118:Nat) (bd117:Nat) (ae113:Option Addr) (ce113:Nat) (ad113:Option Addr) (cd113:Nat) (w40:World),Sep w0 (bgR (ac (eA p i) (ab (eA p i) (gX rs i))) ad113 cd113::bgR ((eA p i).aa) ae113 ce113::box bd117 (bgC (ac (eA p i) (ab (eA p i) (gX rs i))) ad113 cd113) 107::box bd118 [.bool false,.slice none 0 0] 107::(bJ b4 b3 i b2 rs ra n rc b1 p cs L0)) w40→WA prog 40 322 R K40_3 (fun w_=>Sep w0 (bJ b4 b3 i b2 rs ra n rc b1 p cs L0) w_) 1 (bA 21 1048575) [(3,pv b1),(4,pv b2),(5,pv b3),(6,pv b4),(12,iv (i.gK%128)),(16,pv bd117),(17,pv bd118),(126,bgV ((eA p i).aa) ae113 ce113)] w40:=by
   intro bd118 bd117 ae113 ce113 ad113 cd113 w40 S40
   refine WA.all [20] kr rfl ⟨?_,trivial⟩
   refine WO.set (bA 21 2097151) kr<|WO.stBox S40 3 107 0 (bgV ((eA p i).aa) ae113 ce113) (bgC ((eA p i).aa) ae113 ce113) (bgR (ac (eA p i) (ab (eA p i) (gX rs i))) ad113 cd113::bgR ((eA p i).aa) ae113 ce113::box bd117 (bgC (ac (eA p i) (ab (eA p i) (gX rs i))) ad113 cd113) 107::box bd118 (bgC ((eA p i).aa) ae113 ce113) 107::(bJ b4 b3 i b2 rs ra n rc b1 p cs L0)) kr rfl kr kr rfl ?_
   intro w41 S41
   exact WB.mk ((((S41.erase 3).erase 2).erase 1).erase 0)<|WA.weaken kr (W10 bd118 bd117 ae113 ce113 ad113 cd113 w41 S41)
  have W12:∀ (bd118:Nat) (bd117:Nat) (ae113:Option Addr) (ce113:Nat) (ad113:Option Addr) (cd113:Nat) (w42:World),Sep w0 (bgR (ac (eA p i) (ab (eA p i) (gX rs i))) ad113 cd113::bgR ((eA p i).aa) ae113 ce113::box bd117 [.bool false,.slice none 0 0] 107::box bd118 [.bool false,.slice none 0 0] 107::(bJ b4 b3 i b2 rs ra n rc b1 p cs L0)) w42→WA prog 40 322 R K40_3 (fun w_=>Sep w0 (bJ b4 b3 i b2 rs ra n rc b1 p cs L0) w_) 2 (bA 21 524287) [(3,pv b1),(4,pv b2),(5,pv b3),(6,pv b4),(12,iv (i.gK%128)),(16,pv bd117),(17,pv bd118),(125,bgV (ac (eA p i) (ab (eA p i) (gX rs i))) ad113 cd113),(126,bgV ((eA p i).aa) ae113 ce113)] w42:=by
   intro bd118 bd117 ae113 ce113 ad113 cd113 w42 S42
   refine WA.all [19] kr rfl ⟨?_,trivial⟩
   refine WO.set (bA 21 1048575) kr<|WO.stBox S42 2 107 0 (bgV (ac (eA p i) (ab (eA p i) (gX rs i))) ad113 cd113) (bgC (ac (eA p i) (ab (eA p i) (gX rs i))) ad113 cd113) (bgR (ac (eA p i) (ab (eA p i) (gX rs i))) ad113 cd113::bgR ((eA p i).aa) ae113 ce113::box bd117 (bgC (ac (eA p i) (ab (eA p i) (gX rs i))) ad113 cd113) 107::box bd118 [.bool false,.slice none 0 0] 107::(bJ b4 b3 i b2 rs ra n rc b1 p cs L0)) kr rfl kr kr rfl ?_
   intro w43 S43
   exact WB.mk ((((S43.erase 3).erase 2).erase 1).erase 0)<|WA.weaken kr (W11 bd118 bd117 ae113 ce113 ad113 cd113 w43 S43)
  have W13:∀ (bd118:Nat) (ae113:Option Addr) (ce113:Nat) (ad113:Option Addr) (cd113:Nat) (w44:World),Sep w0 (bgR (ac (eA p i) (ab (eA p i) (gX rs i))) ad113 cd113::bgR ((eA p i).aa) ae113 ce113::box bd118 [.bool false,.slice none 0 0] 107::(bJ b4 b3 i b2 rs ra n rc b1 p cs L0)) w44→WA prog 40 322 R K40_3 (fun w_=>Sep w0 (bJ b4 b3 i b2 rs ra n rc b1 p cs L0) w_) 3 (bA 21 393215) [(3,pv b1),(4,pv b2),(5,pv b3),(6,pv b4),(12,iv (i.gK%128)),(17,pv bd118),(125,bgV (ac (eA p i) (ab (eA p i) (gX rs i))) ad113 cd113),(126,bgV ((eA p i).aa) ae113 ce113)] w44:=by
   intro bd118 ae113 ce113 ad113 cd113 w44 S44
   refine WA.all [17] kr rfl ⟨?_,trivial⟩
   refine WO.set (bA 21 524287) kr<|WO.new S44 16 [.bool false,.slice none 0 0] 107 kr ?_
   intro bd117 w45 S45
   refine WB.mk ((((S45.erase 3).erase 2).erase 1).erase 0) ?_
   have S46:Sep w0 (box bd117 [.bool false,.slice none 0 0] 107::bgR (ac (eA p i) (ab (eA p i) (gX rs i))) ad113 cd113::bgR ((eA p i).aa) ae113 ce113::box bd118 [.bool false,.slice none 0 0] 107::(bJ b4 b3 i b2 rs ra n rc b1 p cs L0)) w45:=S45.front 0 rfl
   have S47:Sep w0 (bgR ((eA p i).aa) ae113 ce113::box bd117 [.bool false,.slice none 0 0] 107::bgR (ac (eA p i) (ab (eA p i) (gX rs i))) ad113 cd113::box bd118 [.bool false,.slice none 0 0] 107::(bJ b4 b3 i b2 rs ra n rc b1 p cs L0)) w45:=S46.front 2 rfl
   have S48:Sep w0 (bgR (ac (eA p i) (ab (eA p i) (gX rs i))) ad113 cd113::bgR ((eA p i).aa) ae113 ce113::box bd117 [.bool false,.slice none 0 0] 107::box bd118 [.bool false,.slice none 0 0] 107::(bJ b4 b3 i b2 rs ra n rc b1 p cs L0)) w45:=S47.front 2 rfl
   exact WA.weaken kr (W12 bd118 bd117 ae113 ce113 ad113 cd113 w45 S48)
  have W14:∀ (bd117:Nat) (ae113:Option Addr) (ce113:Nat) (ad113:Option Addr) (cd113:Nat) (w46:World),Sep w0 (bgR (ac (eA p i) (ab (eA p i) (gX rs i))) ad113 cd113::bgR ((eA p i).aa) ae113 ce113::box bd117 [.bool false,.slice none 0 0] 107::(bJ b4 b3 i b2 rs ra n rc b1 p cs L0)) w46→WA prog 40 322 R K40_3 (fun w_=>Sep w0 (bJ b4 b3 i b2 rs ra n rc b1 p cs L0) w_) 3 (bA 21 262143) [(3,pv b1),(4,pv b2),(5,pv b3),(6,pv b4),(12,iv (i.gK%128)),(16,pv bd117),(125,bgV (ac (eA p i) (ab (eA p i) (gX rs i))) ad113 cd113),(126,bgV ((eA p i).aa) ae113 ce113)] w46:=by
   intro bd117 ae113 ce113 ad113 cd113 w46 S49
   refine WA.all [18] kr rfl ⟨?_,trivial⟩
   refine WO.set (bA 21 524287) kr<|WO.new S49 17 [.bool false,.slice none 0 0] 107 kr ?_
   intro bd118 w47 S50
   refine WB.mk ((((S50.erase 3).erase 2).erase 1).erase 0) ?_
   have S51:Sep w0 (box bd118 [.bool false,.slice none 0 0] 107::bgR (ac (eA p i) (ab (eA p i) (gX rs i))) ad113 cd113::bgR ((eA p i).aa) ae113 ce113::box bd117 [.bool false,.slice none 0 0] 107::(bJ b4 b3 i b2 rs ra n rc b1 p cs L0)) w47:=S50.front 0 rfl
   have S52:Sep w0 (box bd117 [.bool false,.slice none 0 0] 107::box bd118 [.bool false,.slice none 0 0] 107::bgR (ac (eA p i) (ab (eA p i) (gX rs i))) ad113 cd113::bgR ((eA p i).aa) ae113 ce113::(bJ b4 b3 i b2 rs ra n rc b1 p cs L0)) w47:=S51.front 3 rfl
   have S53:Sep w0 (bgR ((eA p i).aa) ae113 ce113::box bd117 [.bool false,.slice none 0 0] 107::box bd118 [.bool false,.slice none 0 0] 107::bgR (ac (eA p i) (ab (eA p i) (gX rs i))) ad113 cd113::(bJ b4 b3 i b2 rs ra n rc b1 p cs L0)) w47:=S52.front 3 rfl
   have S54:Sep w0 (bgR (ac (eA p i) (ab (eA p i) (gX rs i))) ad113 cd113::bgR ((eA p i).aa) ae113 ce113::box bd117 [.bool false,.slice none 0 0] 107::box bd118 [.bool false,.slice none 0 0] 107::(bJ b4 b3 i b2 rs ra n rc b1 p cs L0)) w47:=S53.front 3 rfl
   exact WA.weaken kr (W12 bd118 bd117 ae113 ce113 ad113 cd113 w47 S54)
  have W15:∀ (ae113:Option Addr) (ce113:Nat) (ad113:Option Addr) (cd113:Nat) (w48:World),Sep w0 (bgR (ac (eA p i) (ab (eA p i) (gX rs i))) ad113 cd113::bgR ((eA p i).aa) ae113 ce113::(bJ b4 b3 i b2 rs ra n rc b1 p cs L0)) w48→WA prog 40 322 R K40_3 (fun w_=>Sep w0 (bJ b4 b3 i b2 rs ra n rc b1 p cs L0) w_) 4 (bA 21 131071) [(3,pv b1),(4,pv b2),(5,pv b3),(6,pv b4),(12,iv (i.gK%128)),(125,bgV (ac (eA p i) (ab (eA p i) (gX rs i))) ad113 cd113),(126,bgV ((eA p i).aa) ae113 ce113)] w48:=by
   intro ae113 ce113 ad113 cd113 w48 S55
   refine WA.all [17,18] kr rfl ⟨?_,?_,trivial⟩
   refine WO.set (bA 21 262143) kr<|WO.new S55 16 [.bool false,.slice none 0 0] 107 kr ?_
   intro bd117 w49 S56
   refine WB.mk (((S56.erase 2).erase 1).erase 0) ?_
   have S57:Sep w0 (box bd117 [.bool false,.slice none 0 0] 107::bgR (ac (eA p i) (ab (eA p i) (gX rs i))) ad113 cd113::bgR ((eA p i).aa) ae113 ce113::(bJ b4 b3 i b2 rs ra n rc b1 p cs L0)) w49:=S56.front 0 rfl
   have S58:Sep w0 (bgR ((eA p i).aa) ae113 ce113::box bd117 [.bool false,.slice none 0 0] 107::bgR (ac (eA p i) (ab (eA p i) (gX rs i))) ad113 cd113::(bJ b4 b3 i b2 rs ra n rc b1 p cs L0)) w49:=S57.front 2 rfl
   have S59:Sep w0 (bgR (ac (eA p i) (ab (eA p i) (gX rs i))) ad113 cd113::bgR ((eA p i).aa) ae113 ce113::box bd117 [.bool false,.slice none 0 0] 107::(bJ b4 b3 i b2 rs ra n rc b1 p cs L0)) w49:=S58.front 2 rfl
   exact WA.weaken kr (W14 bd117 ae113 ce113 ad113 cd113 w49 S59)
   refine WO.set (bA 21 393215) kr<|WO.new S55 17 [.bool false,.slice none 0 0] 107 kr ?_
   intro bd118 w50 S60
   refine WB.mk (((S60.erase 2).erase 1).erase 0) ?_
   have S61:Sep w0 (box bd118 [.bool false,.slice none 0 0] 107::bgR (ac (eA p i) (ab (eA p i) (gX rs i))) ad113 cd113::bgR ((eA p i).aa) ae113 ce113::(bJ b4 b3 i b2 rs ra n rc b1 p cs L0)) w50:=S60.front 0 rfl
   have S62:Sep w0 (bgR ((eA p i).aa) ae113 ce113::box bd118 [.bool false,.slice none 0 0] 107::bgR (ac (eA p i) (ab (eA p i) (gX rs i))) ad113 cd113::(bJ b4 b3 i b2 rs ra n rc b1 p cs L0)) w50:=S61.front 2 rfl
   have S63:Sep w0 (bgR (ac (eA p i) (ab (eA p i) (gX rs i))) ad113 cd113::bgR ((eA p i).aa) ae113 ce113::box bd118 [.bool false,.slice none 0 0] 107::(bJ b4 b3 i b2 rs ra n rc b1 p cs L0)) w50:=S62.front 2 rfl
   exact WA.weaken kr (W13 bd118 ae113 ce113 ad113 cd113 w50 S63)
  have W16:∀ (bd118:Nat) (bd117:Nat) (w51:World),Sep w0 (box bd117 [.bool false,.slice none 0 0] 107::box bd118 [.bool false,.slice none 0 0] 107::(bJ b4 b3 i b2 rs ra n rc b1 p cs L0)) w51→WA prog 40 322 R K40_3 (fun w_=>Sep w0 (bJ b4 b3 i b2 rs ra n rc b1 p cs L0) w_) 6 (bA 21 401407) [(3,pv b1),(4,pv b2),(5,pv b3),(6,pv b4),(12,iv (i.gK%128)),(16,pv bd117),(17,pv bd118),(115,.agg (aI (eA p i))),(123,iv (ab (eA p i) (gX rs i)))] w51:=by
   intro bd118 bd117 w51 S64
   refine WA.all [13] kr rfl ⟨?_,trivial⟩
   refine WO.set (bA 21 409599) kr<|WO.callF 124 70 #[.agg (aI (eA p i)),iv (ab (eA p i) (gX rs i))] hb70 kr (dU (eA p i) (ab (eA p i) (gX rs i)) _ (aw hel4 S64) hfA (bw _ _)) ?_
   rintro _ w52 ⟨ad113,cd113,ae113,ce113,rfl,T9⟩
   exact WB.mk (((((S64.trans T9).erase 3).erase 2).erase 1).erase 0)<|WA.take 14 110 (.tuple #[bgV (ac (eA p i) (ab (eA p i) (gX rs i))) ad113 cd113,bgV ((eA p i).aa) ae113 ce113]) (bA 21 425983) kr kr kr (fun _ _=>kr) kr<|WA.take 15 125 (bgV (ac (eA p i) (ab (eA p i) (gX rs i))) ad113 cd113) (bA 21 458751) kr kr kr (fun _ _=>kr) kr<|WA.take 16 126 (bgV ((eA p i).aa) ae113 ce113) (bA 21 524287) kr kr kr (fun _ _=>kr) kr<|WA.weaken kr (W12 bd118 bd117 ae113 ce113 ad113 cd113 w52 (S64.trans T9))
  have W17:∀ (bd118:Nat) (w53:World),Sep w0 (box bd118 [.bool false,.slice none 0 0] 107::(bJ b4 b3 i b2 rs ra n rc b1 p cs L0)) w53→WA prog 40 322 R K40_3 (fun w_=>Sep w0 (bJ b4 b3 i b2 rs ra n rc b1 p cs L0) w_) 7 (bA 21 270335) [(3,pv b1),(4,pv b2),(5,pv b3),(6,pv b4),(12,iv (i.gK%128)),(17,pv bd118),(115,.agg (aI (eA p i))),(123,iv (ab (eA p i) (gX rs i)))] w53:=by
   intro bd118 w53 S66
   refine WA.all [13,17] kr rfl ⟨?_,?_,trivial⟩
   refine WO.set (bA 21 278527) kr<|WO.callF 124 70 #[.agg (aI (eA p i)),iv (ab (eA p i) (gX rs i))] hb70 kr (dU (eA p i) (ab (eA p i) (gX rs i)) _ (aw hel4 S66) hfA (bw _ _)) ?_
   rintro _ w54 ⟨ad113,cd113,ae113,ce113,rfl,T10⟩
   exact WB.mk ((((S66.trans T10).erase 2).erase 1).erase 0)<|WA.take 14 110 (.tuple #[bgV (ac (eA p i) (ab (eA p i) (gX rs i))) ad113 cd113,bgV ((eA p i).aa) ae113 ce113]) (bA 21 294911) kr kr kr (fun _ _=>kr) kr<|WA.take 15 125 (bgV (ac (eA p i) (ab (eA p i) (gX rs i))) ad113 cd113) (bA 21 327679) kr kr kr (fun _ _=>kr) kr<|WA.take 16 126 (bgV ((eA p i).aa) ae113 ce113) (bA 21 393215) kr kr kr (fun _ _=>kr) kr<|WA.weaken kr (W13 bd118 ae113 ce113 ad113 cd113 w54 (S66.trans T10))
   refine WO.set (bA 21 401407) kr<|WO.new S66 16 [.bool false,.slice none 0 0] 107 kr ?_
   intro bd117 w55 S68
   exact WB.mk ((S68.erase 1).erase 0)<|WA.weaken kr (W16 bd118 bd117 w55 S68)
  have W18:∀ (bd117:Nat) (w56:World),Sep w0 (box bd117 [.bool false,.slice none 0 0] 107::(bJ b4 b3 i b2 rs ra n rc b1 p cs L0)) w56→WA prog 40 322 R K40_3 (fun w_=>Sep w0 (bJ b4 b3 i b2 rs ra n rc b1 p cs L0) w_) 7 (bA 21 139263) [(3,pv b1),(4,pv b2),(5,pv b3),(6,pv b4),(12,iv (i.gK%128)),(16,pv bd117),(115,.agg (aI (eA p i))),(123,iv (ab (eA p i) (gX rs i)))] w56:=by
   intro bd117 w56 S69
   refine WA.all [13,18] kr rfl ⟨?_,?_,trivial⟩
   refine WO.set (bA 21 147455) kr<|WO.callF 124 70 #[.agg (aI (eA p i)),iv (ab (eA p i) (gX rs i))] hb70 kr (dU (eA p i) (ab (eA p i) (gX rs i)) _ (aw hel4 S69) hfA (bw _ _)) ?_
   rintro _ w57 ⟨ad113,cd113,ae113,ce113,rfl,T11⟩
   exact WB.mk ((((S69.trans T11).erase 2).erase 1).erase 0)<|WA.take 14 110 (.tuple #[bgV (ac (eA p i) (ab (eA p i) (gX rs i))) ad113 cd113,bgV ((eA p i).aa) ae113 ce113]) (bA 21 163839) kr kr kr (fun _ _=>kr) kr<|WA.take 15 125 (bgV (ac (eA p i) (ab (eA p i) (gX rs i))) ad113 cd113) (bA 21 196607) kr kr kr (fun _ _=>kr) kr<|WA.take 16 126 (bgV ((eA p i).aa) ae113 ce113) (bA 21 262143) kr kr kr (fun _ _=>kr) kr<|WA.weaken kr (W14 bd117 ae113 ce113 ad113 cd113 w57 (S69.trans T11))
   refine WO.set (bA 21 401407) kr<|WO.new S69 17 [.bool false,.slice none 0 0] 107 kr ?_
   intro bd118 w58 S71
   refine WB.mk ((S71.erase 1).erase 0) ?_
   have S72:Sep w0 (box bd118 [.bool false,.slice none 0 0] 107::box bd117 [.bool false,.slice none 0 0] 107::(bJ b4 b3 i b2 rs ra n rc b1 p cs L0)) w58:=S71.front 0 rfl
   have S73:Sep w0 (box bd117 [.bool false,.slice none 0 0] 107::box bd118 [.bool false,.slice none 0 0] 107::(bJ b4 b3 i b2 rs ra n rc b1 p cs L0)) w58:=S72.front 1 rfl
   exact WA.weaken kr (W16 bd118 bd117 w58 S73)
  have W19:∀ (w59:World),Sep w0 (bJ b4 b3 i b2 rs ra n rc b1 p cs L0) w59→WA prog 40 322 R K40_3 (fun w_=>Sep w0 (bJ b4 b3 i b2 rs ra n rc b1 p cs L0) w_) 8 (bA 21 8191) [(3,pv b1),(4,pv b2),(5,pv b3),(6,pv b4),(12,iv (i.gK%128)),(115,.agg (aI (eA p i))),(123,iv (ab (eA p i) (gX rs i)))] w59:=by
   intro w59 S74
   refine WA.all [13,17,18] kr rfl ⟨?_,?_,?_,trivial⟩
   refine WO.set (bA 21 16383) kr<|WO.callF 124 70 #[.agg (aI (eA p i)),iv (ab (eA p i) (gX rs i))] hb70 kr (dU (eA p i) (ab (eA p i) (gX rs i)) _ (aw hel4 S74) hfA (bw _ _)) ?_
   rintro _ w60 ⟨ad113,cd113,ae113,ce113,rfl,T12⟩
   exact WB.mk (((S74.trans T12).erase 1).erase 0)<|WA.take 14 110 (.tuple #[bgV (ac (eA p i) (ab (eA p i) (gX rs i))) ad113 cd113,bgV ((eA p i).aa) ae113 ce113]) (bA 21 32767) kr kr kr (fun _ _=>kr) kr<|WA.take 15 125 (bgV (ac (eA p i) (ab (eA p i) (gX rs i))) ad113 cd113) (bA 21 65535) kr kr kr (fun _ _=>kr) kr<|WA.take 16 126 (bgV ((eA p i).aa) ae113 ce113) (bA 21 131071) kr kr kr (fun _ _=>kr) kr<|WA.weaken kr (W15 ae113 ce113 ad113 cd113 w60 (S74.trans T12))
   refine WO.set (bA 21 139263) kr<|WO.new S74 16 [.bool false,.slice none 0 0] 107 kr ?_
   intro bd117 w61 S76
   exact WB.mk (S76.erase 0)<|WA.weaken kr (W18 bd117 w61 S76)
   refine WO.set (bA 21 270335) kr<|WO.new S74 17 [.bool false,.slice none 0 0] 107 kr ?_
   intro bd118 w62 S77
   exact WB.mk (S77.erase 0)<|WA.weaken kr (W17 bd118 w62 S77)
  have W20:∀ (bd118:Nat) (bd117:Nat) (w63:World),Sep w0 (box bd117 [.bool false,.slice none 0 0] 107::box bd118 [.bool false,.slice none 0 0] 107::(bJ b4 b3 i b2 rs ra n rc b1 p cs L0)) w63→WA prog 40 322 R K40_3 (fun w_=>Sep w0 (bJ b4 b3 i b2 rs ra n rc b1 p cs L0) w_) 8 (bA 21 395263) [(3,pv b1),(4,pv b2),(5,pv b3),(6,pv b4),(12,iv (i.gK%128)),(16,pv bd117),(17,pv bd118),(115,.agg (aI (eA p i))),(120,.agg (aI (eA p i))),(121,iv (gX rs i))] w63:=by
   intro bd118 bd117 w63 S78
   refine WA.all [11] kr rfl ⟨?_,trivial⟩
   refine WO.set (bA 21 397311) kr<|WO.callF 122 69 #[.agg (aI (eA p i)),iv (gX rs i)] hb69 kr (bT (eA p i) (gX rs i) _ (aw hel4 S78) hfA) ?_
   rintro _ w64 ⟨rfl,T13⟩
   have S79:Sep w0 (box bd117 [.bool false,.slice none 0 0] 107::box bd118 [.bool false,.slice none 0 0] 107::(bJ b4 b3 i b2 rs ra n rc b1 p cs L0)) w64:=S78.trans T13
   exact WB.mk ((S79.erase 1).erase 0)<|WA.take 12 123 (iv (ab (eA p i) (gX rs i))) (bA 21 401407) kr kr kr (fun _ _=>kr) kr<|WA.weaken kr (W16 bd118 bd117 w64 S79)
  have W21:∀ (bd117:Nat) (w65:World),Sep w0 (box bd117 [.bool false,.slice none 0 0] 107::(bJ b4 b3 i b2 rs ra n rc b1 p cs L0)) w65→WA prog 40 322 R K40_3 (fun w_=>Sep w0 (bJ b4 b3 i b2 rs ra n rc b1 p cs L0) w_) 9 (bA 21 133119) [(3,pv b1),(4,pv b2),(5,pv b3),(6,pv b4),(12,iv (i.gK%128)),(16,pv bd117),(115,.agg (aI (eA p i))),(120,.agg (aI (eA p i))),(121,iv (gX rs i))] w65:=by
   intro bd117 w65 S80
   refine WA.all [11,18] kr rfl ⟨?_,?_,trivial⟩
   refine WO.set (bA 21 135167) kr<|WO.callF 122 69 #[.agg (aI (eA p i)),iv (gX rs i)] hb69 kr (bT (eA p i) (gX rs i) _ (aw hel4 S80) hfA) ?_
   rintro _ w66 ⟨rfl,T14⟩
   have S81:Sep w0 (box bd117 [.bool false,.slice none 0 0] 107::(bJ b4 b3 i b2 rs ra n rc b1 p cs L0)) w66:=S80.trans T14
   exact WB.mk (S81.erase 0)<|WA.take 12 123 (iv (ab (eA p i) (gX rs i))) (bA 21 139263) kr kr kr (fun _ _=>kr) kr<|WA.weaken kr (W18 bd117 w66 S81)
   refine WO.set (bA 21 395263) kr<|WO.new S80 17 [.bool false,.slice none 0 0] 107 kr ?_
   intro bd118 w67 S82
   refine WB.mk ((S82.erase 1).erase 0) ?_
   have S83:Sep w0 (box bd118 [.bool false,.slice none 0 0] 107::box bd117 [.bool false,.slice none 0 0] 107::(bJ b4 b3 i b2 rs ra n rc b1 p cs L0)) w67:=S82.front 0 rfl
   have S84:Sep w0 (box bd117 [.bool false,.slice none 0 0] 107::box bd118 [.bool false,.slice none 0 0] 107::(bJ b4 b3 i b2 rs ra n rc b1 p cs L0)) w67:=S83.front 1 rfl
   exact WA.weaken kr (W20 bd118 bd117 w67 S84)
  have W22:∀ (bd118:Nat) (w68:World),Sep w0 (box bd118 [.bool false,.slice none 0 0] 107::(bJ b4 b3 i b2 rs ra n rc b1 p cs L0)) w68→WA prog 40 322 R K40_3 (fun w_=>Sep w0 (bJ b4 b3 i b2 rs ra n rc b1 p cs L0) w_) 9 (bA 21 264191) [(3,pv b1),(4,pv b2),(5,pv b3),(6,pv b4),(12,iv (i.gK%128)),(17,pv bd118),(115,.agg (aI (eA p i))),(120,.agg (aI (eA p i))),(121,iv (gX rs i))] w68:=by
   intro bd118 w68 S85
   refine WA.all [11,17] kr rfl ⟨?_,?_,trivial⟩
   refine WO.set (bA 21 266239) kr<|WO.callF 122 69 #[.agg (aI (eA p i)),iv (gX rs i)] hb69 kr (bT (eA p i) (gX rs i) _ (aw hel4 S85) hfA) ?_
   rintro _ w69 ⟨rfl,T15⟩
   have S86:Sep w0 (box bd118 [.bool false,.slice none 0 0] 107::(bJ b4 b3 i b2 rs ra n rc b1 p cs L0)) w69:=S85.trans T15
   exact WB.mk (S86.erase 0)<|WA.take 12 123 (iv (ab (eA p i) (gX rs i))) (bA 21 270335) kr kr kr (fun _ _=>kr) kr<|WA.weaken kr (W17 bd118 w69 S86)
   refine WO.set (bA 21 395263) kr<|WO.new S85 16 [.bool false,.slice none 0 0] 107 kr ?_
   intro bd117 w70 S87
   exact WB.mk ((S87.erase 1).erase 0)<|WA.weaken kr (W20 bd118 bd117 w70 S87)
  have W23:∀ (w71:World),Sep w0 (bJ b4 b3 i b2 rs ra n rc b1 p cs L0) w71→WA prog 40 322 R K40_3 (fun w_=>Sep w0 (bJ b4 b3 i b2 rs ra n rc b1 p cs L0) w_) 10 (bA 21 2047) [(3,pv b1),(4,pv b2),(5,pv b3),(6,pv b4),(12,iv (i.gK%128)),(115,.agg (aI (eA p i))),(120,.agg (aI (eA p i))),(121,iv (gX rs i))] w71:=by
   intro w71 S88
   refine WA.all [11,17,18] kr rfl ⟨?_,?_,?_,trivial⟩
   refine WO.set (bA 21 4095) kr<|WO.callF 122 69 #[.agg (aI (eA p i)),iv (gX rs i)] hb69 kr (bT (eA p i) (gX rs i) _ (aw hel4 S88) hfA) ?_
   rintro _ w72 ⟨rfl,T16⟩
   have S89:Sep w0 (bJ b4 b3 i b2 rs ra n rc b1 p cs L0) w72:=S88.trans T16
   exact WB.mk S89<|WA.take 12 123 (iv (ab (eA p i) (gX rs i))) (bA 21 8191) kr kr kr (fun _ _=>kr) kr<|WA.weaken kr (W19 w72 S89)
   refine WO.set (bA 21 133119) kr<|WO.new S88 16 [.bool false,.slice none 0 0] 107 kr ?_
   intro bd117 w73 S90
   exact WB.mk (S90.erase 0)<|WA.weaken kr (W21 bd117 w73 S90)
   refine WO.set (bA 21 264191) kr<|WO.new S88 17 [.bool false,.slice none 0 0] 107 kr ?_
   intro bd118 w74 S91
   exact WB.mk (S91.erase 0)<|WA.weaken kr (W22 bd118 w74 S91)
  refine J.drawAny (fun w_=>Sep w0 (bJ b4 b3 i b2 rs ra n rc b1 p cs L0) w_) S13 21 (bA 21 0) Tryz.mixed kr kr kr ?_
  intro w75 S92
  refine WB.mk S92<|WA.take 0 111 (.pointer (some ⟨b1,1,none⟩)) (bA 21 1) kr kr kr (fun _ _=>kr) kr<|WA.takeOK 1 (bA 21 3) kr kr kr kr (fun w_ S_=>OK.ldBox S_ 3 112 23 1 (.slice p.aJ p.am p.bj) kr rfl kr) rfl<|WA.take 2 113 (iv (i.gK/16384)) (bA 21 7) kr kr kr (fun _ _=>kr) kr<|WA.takeOK 3 (bA 21 15) kr kr kr kr (fun w_ S_=>OK.index 114 23 10 p.aJ p6 p.am (i.gK/16384).toNat (i.gK/16384) (p6.add ((i.gK/16384).toNat*10)) kr kr hp6 om om rfl) rfl<|WA.takeOK 4 (bA 21 31) kr kr kr kr (fun w_ S_=>OK.ldCells 115 54 (p6.add ((i.gK/16384).toNat*10)) (aN (eA p i)) kr kr kr (fun j_ v_ hj_=>S_.cell (hc4 j_ v_ hj_))) rfl<|WA.take 5 116 (.pointer (some ⟨b1,1,none⟩)) (bA 21 63) kr kr kr (fun _ _=>kr) kr<|WA.takeOK 6 (bA 21 127) kr kr kr kr (fun w_ S_=>OK.ldBox S_ 3 117 23 1 (.slice p.aJ p.am p.bj) kr rfl kr) rfl<|WA.take 7 118 (iv (i.gK/16384)) (bA 21 255) kr kr kr (fun _ _=>kr) kr<|WA.takeOK 8 (bA 21 511) kr kr kr kr (fun w_ S_=>OK.index 119 23 10 p.aJ p6 p.am (i.gK/16384).toNat (i.gK/16384) (p6.add ((i.gK/16384).toNat*10)) kr kr hp6 om om rfl) rfl<|WA.takeOK 9 (bA 21 1023) kr kr kr kr (fun w_ S_=>OK.ldCells 120 54 (p6.add ((i.gK/16384).toNat*10)) (aN (eA p i)) kr kr kr (fun j_ v_ hj_=>S_.cell (hc4 j_ v_ hj_))) rfl ?_
  exact WA.take 10 121 (iv (gX rs i)) (bA 21 2047) kr kr kr (fun _ _=>kr) kr<|WA.weaken (env':=[(3,pv b1),(4,pv b2),(5,pv b3),(6,pv b4),(12,iv (i.gK%128)),(115,.agg (aI (eA p i))),(120,.agg (aI (eA p i))),(121,iv (gX rs i))]) kr<|W23 w75 S92
  refine J.c 6 [false] [] [] 136 (i.gOp=10) (fun fk9=>?_) fun fk9=>?_
  obtain ⟨⟨htA,hfA,hkA⟩,htB_,htC_,hun⟩:=ty_el hv hlt hf om om
  obtain ⟨htC,hfC,hkC⟩:=htC_ om
  refine J.r 2 [true] [] [] ?_
  obtain ⟨p8,hp8,hc6⟩:=q5.at fx0 (i.gK/16384).toNat om
  have hel6:=aP q6 fx0 (n:=(i.gK/16384).toNat) (by have:=q5.len_eq;omega)
  obtain ⟨q76,q77,q78,q79,q80,q81,q82,q83,q84,_⟩:=id hel6
  replace S13:Sep w0 (bz b4 b3 i b2 rs ra n rc b1 p cs L0) w13:=S13
  have W24:∀ (bd218:Nat) (bd217:Nat) (ae213:Option Addr) (ce213:Nat) (ad213:Option Addr) (cd213:Nat) (w76:World),Sep w0 (bgR (ac (eA p i) (ab (eA p i) (gX rs i))) ad213 cd213::bgR ((eA p i).aa) ae213 ce213::box bd217 (bgC (ac (eA p i) (ab (eA p i) (gX rs i))) ad213 cd213) 107::box bd218 (bgC ((eA p i).aa) ae213 ce213) 107::(bz b4 b3 i b2 rs ra n rc b1 p cs L0)) w76→WA prog 40 322 R K40_4 (fun w_=>Sep w0 (bz b4 b3 i b2 rs ra n rc b1 p cs L0) w_) 0 (bA 21 2097151) [(3,pv b1),(4,pv b2),(5,pv b3),(6,pv b4),(12,iv (i.gK%128)),(18,pv bd217),(19,pv bd218)] w76:=by
   intro bd218 bd217 ae213 ce213 ad213 cd213 w76 S93
   refine WA.done kr ?_
   obtain ⟨p9,hp9,hc7⟩:=q5.at fx0 (i.gK%128).toNat om
   have hel7:=aP q6 fx0 (n:=(i.gK%128).toNat) (by have:=q5.len_eq;omega)
   obtain ⟨q85,q86,q87,q88,q89,q90,q91,q92,q93,_⟩:=id hel7
   refine J.drawTail S93 7 Tryz.mixed kr kr ?_
   intro w77 S94
   refine SL.r 155 (.pointer (some ⟨b1,1,none⟩))<|SL.lb S94 7 rfl 156 (.slice p.aJ p.am p.bj)<|SL.r 157 (iv (i.gK%128))<|SL.ok dE (OK.index 158 23 10 p.aJ p9 p.am (i.gK%128).toNat (i.gK%128) (p9.add ((i.gK%128).toNat*10)) kr kr hp9 om om rfl)<|SL.ok dE (OK.ldCells 159 54 (p9.add ((i.gK%128).toNat*10)) (aN (eC p i)) kr kr kr (fun j_ v_ hj_=>S94.cell (hc7 j_ v_ hj_)))<|SL.lb S94 2 rfl 160 (bgV (ac (eA p i) (ab (eA p i) (gX rs i))) ad213 cd213)<|SL.lb S94 3 rfl 161 (bgV ((eA p i).aa) ae213 ce213)<|SL.done ?_
   have:=aC (S94.nth 0 rfl)
   have:=aC (S94.nth 1 rfl)
   refine TL.callF 162 71 #[.agg (aI (eC p i)),bgV (ac (eA p i) (ab (eA p i) (gX rs i))) ad213 cd213,bgV ((eA p i).aa) ae213 ce213] hb71 kr (rnear_any (eC p i) (ac (eA p i) (ab (eA p i) (gX rs i))) ad213 ((al (ac (eA p i) (ab (eA p i) (gX rs i)))).length) cd213 ((eA p i).aa) ae213 ((al ((eA p i).aa)).length) ce213 _ (aw hel7 S94) hfC (by first | exact ok_neg hfA | exact ok_pos hfA) ((aD (S94.nth 0 rfl) ((al (ac (eA p i) (ab (eA p i) (gX rs i)))).length) rO)) ((aD (S94.nth 1 rfl) ((al ((eA p i).aa)).length) rO))) ?_
   rintro _ w78 ⟨rfl,T17⟩
   have S95:Sep w0 (bgR (ac (eA p i) (ab (eA p i) (gX rs i))) ad213 cd213::bgR ((eA p i).aa) ae213 ce213::box bd217 (bgC (ac (eA p i) (ab (eA p i) (gX rs i))) ad213 cd213) 107::box bd218 (bgC ((eA p i).aa) ae213 ce213) 107::(bz b4 b3 i b2 rs ra n rc b1 p cs L0)) w78:=S94.trans T17
   clear T17 S94
   exact TL.r 13 (iv (dk (ac (eA p i) (ab (eA p i) (gX rs i))) ((eA p i).aa) (eC p i)))<|TL.done kr<|J.t 1 (X1 (dk (ac (eA p i) (ab (eA p i) (gX rs i))) ((eA p i).aa) (eC p i)) cs w78 (by unfold exV;(repeat first | rw[if_pos om] | rw[if_neg om]);rw[htA,htC,show i.gOp=10 by omega];show _=dk (ac _ _*1) _ _;rw[Int.mul_one]) (by unfold exC;(repeat first | rw[if_pos om] | rw[if_neg om])) (by unfold exE arE;rw[if_pos om,if_neg om]) om ((((S95.erase 3).erase 2).erase 1).erase 0))
  have W25:∀ (bd218:Nat) (bd217:Nat) (ae213:Option Addr) (ce213:Nat) (ad213:Option Addr) (cd213:Nat) (w79:World),Sep w0 (bgR (ac (eA p i) (ab (eA p i) (gX rs i))) ad213 cd213::bgR ((eA p i).aa) ae213 ce213::box bd217 (bgC (ac (eA p i) (ab (eA p i) (gX rs i))) ad213 cd213) 107::box bd218 [.bool false,.slice none 0 0] 107::(bz b4 b3 i b2 rs ra n rc b1 p cs L0)) w79→WA prog 40 322 R K40_4 (fun w_=>Sep w0 (bz b4 b3 i b2 rs ra n rc b1 p cs L0) w_) 1 (bA 21 1048575) [(3,pv b1),(4,pv b2),(5,pv b3),(6,pv b4),(12,iv (i.gK%128)),(18,pv bd217),(19,pv bd218),(154,bgV ((eA p i).aa) ae213 ce213)] w79:=by
   intro bd218 bd217 ae213 ce213 ad213 cd213 w79 S96
   refine WA.all [20] kr rfl ⟨?_,trivial⟩
   refine WO.set (bA 21 2097151) kr<|WO.stBox S96 3 107 0 (bgV ((eA p i).aa) ae213 ce213) (bgC ((eA p i).aa) ae213 ce213) (bgR (ac (eA p i) (ab (eA p i) (gX rs i))) ad213 cd213::bgR ((eA p i).aa) ae213 ce213::box bd217 (bgC (ac (eA p i) (ab (eA p i) (gX rs i))) ad213 cd213) 107::box bd218 (bgC ((eA p i).aa) ae213 ce213) 107::(bz b4 b3 i b2 rs ra n rc b1 p cs L0)) kr rfl kr kr rfl ?_
   intro w80 S97
   exact WB.mk ((((S97.erase 3).erase 2).erase 1).erase 0)<|WA.weaken kr (W24 bd218 bd217 ae213 ce213 ad213 cd213 w80 S97)
  have W26:∀ (bd218:Nat) (bd217:Nat) (ae213:Option Addr) (ce213:Nat) (ad213:Option Addr) (cd213:Nat) (w81:World),Sep w0 (bgR (ac (eA p i) (ab (eA p i) (gX rs i))) ad213 cd213::bgR ((eA p i).aa) ae213 ce213::box bd217 [.bool false,.slice none 0 0] 107::box bd218 [.bool false,.slice none 0 0] 107::(bz b4 b3 i b2 rs ra n rc b1 p cs L0)) w81→WA prog 40 322 R K40_4 (fun w_=>Sep w0 (bz b4 b3 i b2 rs ra n rc b1 p cs L0) w_) 2 (bA 21 524287) [(3,pv b1),(4,pv b2),(5,pv b3),(6,pv b4),(12,iv (i.gK%128)),(18,pv bd217),(19,pv bd218),(153,bgV (ac (eA p i) (ab (eA p i) (gX rs i))) ad213 cd213),(154,bgV ((eA p i).aa) ae213 ce213)] w81:=by
   intro bd218 bd217 ae213 ce213 ad213 cd213 w81 S98
   refine WA.all [19] kr rfl ⟨?_,trivial⟩
   refine WO.set (bA 21 1048575) kr<|WO.stBox S98 2 107 0 (bgV (ac (eA p i) (ab (eA p i) (gX rs i))) ad213 cd213) (bgC (ac (eA p i) (ab (eA p i) (gX rs i))) ad213 cd213) (bgR (ac (eA p i) (ab (eA p i) (gX rs i))) ad213 cd213::bgR ((eA p i).aa) ae213 ce213::box bd217 (bgC (ac (eA p i) (ab (eA p i) (gX rs i))) ad213 cd213) 107::box bd218 [.bool false,.slice none 0 0] 107::(bz b4 b3 i b2 rs ra n rc b1 p cs L0)) kr rfl kr kr rfl ?_
   intro w82 S99
   exact WB.mk ((((S99.erase 3).erase 2).erase 1).erase 0)<|WA.weaken kr (W25 bd218 bd217 ae213 ce213 ad213 cd213 w82 S99)
  have W27:∀ (bd218:Nat) (ae213:Option Addr) (ce213:Nat) (ad213:Option Addr) (cd213:Nat) (w83:World),Sep w0 (bgR (ac (eA p i) (ab (eA p i) (gX rs i))) ad213 cd213::bgR ((eA p i).aa) ae213 ce213::box bd218 [.bool false,.slice none 0 0] 107::(bz b4 b3 i b2 rs ra n rc b1 p cs L0)) w83→WA prog 40 322 R K40_4 (fun w_=>Sep w0 (bz b4 b3 i b2 rs ra n rc b1 p cs L0) w_) 3 (bA 21 393215) [(3,pv b1),(4,pv b2),(5,pv b3),(6,pv b4),(12,iv (i.gK%128)),(19,pv bd218),(153,bgV (ac (eA p i) (ab (eA p i) (gX rs i))) ad213 cd213),(154,bgV ((eA p i).aa) ae213 ce213)] w83:=by
   intro bd218 ae213 ce213 ad213 cd213 w83 S100
   refine WA.all [17] kr rfl ⟨?_,trivial⟩
   refine WO.set (bA 21 524287) kr<|WO.new S100 18 [.bool false,.slice none 0 0] 107 kr ?_
   intro bd217 w84 S101
   refine WB.mk ((((S101.erase 3).erase 2).erase 1).erase 0) ?_
   have S102:Sep w0 (box bd217 [.bool false,.slice none 0 0] 107::bgR (ac (eA p i) (ab (eA p i) (gX rs i))) ad213 cd213::bgR ((eA p i).aa) ae213 ce213::box bd218 [.bool false,.slice none 0 0] 107::(bz b4 b3 i b2 rs ra n rc b1 p cs L0)) w84:=S101.front 0 rfl
   have S103:Sep w0 (bgR ((eA p i).aa) ae213 ce213::box bd217 [.bool false,.slice none 0 0] 107::bgR (ac (eA p i) (ab (eA p i) (gX rs i))) ad213 cd213::box bd218 [.bool false,.slice none 0 0] 107::(bz b4 b3 i b2 rs ra n rc b1 p cs L0)) w84:=S102.front 2 rfl
   have S104:Sep w0 (bgR (ac (eA p i) (ab (eA p i) (gX rs i))) ad213 cd213::bgR ((eA p i).aa) ae213 ce213::box bd217 [.bool false,.slice none 0 0] 107::box bd218 [.bool false,.slice none 0 0] 107::(bz b4 b3 i b2 rs ra n rc b1 p cs L0)) w84:=S103.front 2 rfl
   exact WA.weaken kr (W26 bd218 bd217 ae213 ce213 ad213 cd213 w84 S104)
  have W28:∀ (bd217:Nat) (ae213:Option Addr) (ce213:Nat) (ad213:Option Addr) (cd213:Nat) (w85:World),Sep w0 (bgR (ac (eA p i) (ab (eA p i) (gX rs i))) ad213 cd213::bgR ((eA p i).aa) ae213 ce213::box bd217 [.bool false,.slice none 0 0] 107::(bz b4 b3 i b2 rs ra n rc b1 p cs L0)) w85→WA prog 40 322 R K40_4 (fun w_=>Sep w0 (bz b4 b3 i b2 rs ra n rc b1 p cs L0) w_) 3 (bA 21 262143) [(3,pv b1),(4,pv b2),(5,pv b3),(6,pv b4),(12,iv (i.gK%128)),(18,pv bd217),(153,bgV (ac (eA p i) (ab (eA p i) (gX rs i))) ad213 cd213),(154,bgV ((eA p i).aa) ae213 ce213)] w85:=by
   intro bd217 ae213 ce213 ad213 cd213 w85 S105
   refine WA.all [18] kr rfl ⟨?_,trivial⟩
   refine WO.set (bA 21 524287) kr<|WO.new S105 19 [.bool false,.slice none 0 0] 107 kr ?_
   intro bd218 w86 S106
   refine WB.mk ((((S106.erase 3).erase 2).erase 1).erase 0) ?_
   have S107:Sep w0 (box bd218 [.bool false,.slice none 0 0] 107::bgR (ac (eA p i) (ab (eA p i) (gX rs i))) ad213 cd213::bgR ((eA p i).aa) ae213 ce213::box bd217 [.bool false,.slice none 0 0] 107::(bz b4 b3 i b2 rs ra n rc b1 p cs L0)) w86:=S106.front 0 rfl
   have S108:Sep w0 (box bd217 [.bool false,.slice none 0 0] 107::box bd218 [.bool false,.slice none 0 0] 107::bgR (ac (eA p i) (ab (eA p i) (gX rs i))) ad213 cd213::bgR ((eA p i).aa) ae213 ce213::(bz b4 b3 i b2 rs ra n rc b1 p cs L0)) w86:=S107.front 3 rfl
   have S109:Sep w0 (bgR ((eA p i).aa) ae213 ce213::box bd217 [.bool false,.slice none 0 0] 107::box bd218 [.bool false,.slice none 0 0] 107::bgR (ac (eA p i) (ab (eA p i) (gX rs i))) ad213 cd213::(bz b4 b3 i b2 rs ra n rc b1 p cs L0)) w86:=S108.front 3 rfl
   have S110:Sep w0 (bgR (ac (eA p i) (ab (eA p i) (gX rs i))) ad213 cd213::bgR ((eA p i).aa) ae213 ce213::box bd217 [.bool false,.slice none 0 0] 107::box bd218 [.bool false,.slice none 0 0] 107::(bz b4 b3 i b2 rs ra n rc b1 p cs L0)) w86:=S109.front 3 rfl
   exact WA.weaken kr (W26 bd218 bd217 ae213 ce213 ad213 cd213 w86 S110)
  have W29:∀ (ae213:Option Addr) (ce213:Nat) (ad213:Option Addr) (cd213:Nat) (w87:World),Sep w0 (bgR (ac (eA p i) (ab (eA p i) (gX rs i))) ad213 cd213::bgR ((eA p i).aa) ae213 ce213::(bz b4 b3 i b2 rs ra n rc b1 p cs L0)) w87→WA prog 40 322 R K40_4 (fun w_=>Sep w0 (bz b4 b3 i b2 rs ra n rc b1 p cs L0) w_) 4 (bA 21 131071) [(3,pv b1),(4,pv b2),(5,pv b3),(6,pv b4),(12,iv (i.gK%128)),(153,bgV (ac (eA p i) (ab (eA p i) (gX rs i))) ad213 cd213),(154,bgV ((eA p i).aa) ae213 ce213)] w87:=by
   intro ae213 ce213 ad213 cd213 w87 S111
   refine WA.all [17,18] kr rfl ⟨?_,?_,trivial⟩
   refine WO.set (bA 21 262143) kr<|WO.new S111 18 [.bool false,.slice none 0 0] 107 kr ?_
   intro bd217 w88 S112
   refine WB.mk (((S112.erase 2).erase 1).erase 0) ?_
   have S113:Sep w0 (box bd217 [.bool false,.slice none 0 0] 107::bgR (ac (eA p i) (ab (eA p i) (gX rs i))) ad213 cd213::bgR ((eA p i).aa) ae213 ce213::(bz b4 b3 i b2 rs ra n rc b1 p cs L0)) w88:=S112.front 0 rfl
   have S114:Sep w0 (bgR ((eA p i).aa) ae213 ce213::box bd217 [.bool false,.slice none 0 0] 107::bgR (ac (eA p i) (ab (eA p i) (gX rs i))) ad213 cd213::(bz b4 b3 i b2 rs ra n rc b1 p cs L0)) w88:=S113.front 2 rfl
   have S115:Sep w0 (bgR (ac (eA p i) (ab (eA p i) (gX rs i))) ad213 cd213::bgR ((eA p i).aa) ae213 ce213::box bd217 [.bool false,.slice none 0 0] 107::(bz b4 b3 i b2 rs ra n rc b1 p cs L0)) w88:=S114.front 2 rfl
   exact WA.weaken kr (W28 bd217 ae213 ce213 ad213 cd213 w88 S115)
   refine WO.set (bA 21 393215) kr<|WO.new S111 19 [.bool false,.slice none 0 0] 107 kr ?_
   intro bd218 w89 S116
   refine WB.mk (((S116.erase 2).erase 1).erase 0) ?_
   have S117:Sep w0 (box bd218 [.bool false,.slice none 0 0] 107::bgR (ac (eA p i) (ab (eA p i) (gX rs i))) ad213 cd213::bgR ((eA p i).aa) ae213 ce213::(bz b4 b3 i b2 rs ra n rc b1 p cs L0)) w89:=S116.front 0 rfl
   have S118:Sep w0 (bgR ((eA p i).aa) ae213 ce213::box bd218 [.bool false,.slice none 0 0] 107::bgR (ac (eA p i) (ab (eA p i) (gX rs i))) ad213 cd213::(bz b4 b3 i b2 rs ra n rc b1 p cs L0)) w89:=S117.front 2 rfl
   have S119:Sep w0 (bgR (ac (eA p i) (ab (eA p i) (gX rs i))) ad213 cd213::bgR ((eA p i).aa) ae213 ce213::box bd218 [.bool false,.slice none 0 0] 107::(bz b4 b3 i b2 rs ra n rc b1 p cs L0)) w89:=S118.front 2 rfl
   exact WA.weaken kr (W27 bd218 ae213 ce213 ad213 cd213 w89 S119)
  have W30:∀ (bd218:Nat) (bd217:Nat) (w90:World),Sep w0 (box bd217 [.bool false,.slice none 0 0] 107::box bd218 [.bool false,.slice none 0 0] 107::(bz b4 b3 i b2 rs ra n rc b1 p cs L0)) w90→WA prog 40 322 R K40_4 (fun w_=>Sep w0 (bz b4 b3 i b2 rs ra n rc b1 p cs L0) w_) 6 (bA 21 401407) [(3,pv b1),(4,pv b2),(5,pv b3),(6,pv b4),(12,iv (i.gK%128)),(18,pv bd217),(19,pv bd218),(143,.agg (aI (eA p i))),(151,iv (ab (eA p i) (gX rs i)))] w90:=by
   intro bd218 bd217 w90 S120
   refine WA.all [13] kr rfl ⟨?_,trivial⟩
   refine WO.set (bA 21 409599) kr<|WO.callF 152 70 #[.agg (aI (eA p i)),iv (ab (eA p i) (gX rs i))] hb70 kr (dU (eA p i) (ab (eA p i) (gX rs i)) _ (aw hel6 S120) hfA (bw _ _)) ?_
   rintro _ w91 ⟨ad213,cd213,ae213,ce213,rfl,T18⟩
   exact WB.mk (((((S120.trans T18).erase 3).erase 2).erase 1).erase 0)<|WA.take 14 138 (.tuple #[bgV (ac (eA p i) (ab (eA p i) (gX rs i))) ad213 cd213,bgV ((eA p i).aa) ae213 ce213]) (bA 21 425983) kr kr kr (fun _ _=>kr) kr<|WA.take 15 153 (bgV (ac (eA p i) (ab (eA p i) (gX rs i))) ad213 cd213) (bA 21 458751) kr kr kr (fun _ _=>kr) kr<|WA.take 16 154 (bgV ((eA p i).aa) ae213 ce213) (bA 21 524287) kr kr kr (fun _ _=>kr) kr<|WA.weaken kr (W26 bd218 bd217 ae213 ce213 ad213 cd213 w91 (S120.trans T18))
  have W31:∀ (bd218:Nat) (w92:World),Sep w0 (box bd218 [.bool false,.slice none 0 0] 107::(bz b4 b3 i b2 rs ra n rc b1 p cs L0)) w92→WA prog 40 322 R K40_4 (fun w_=>Sep w0 (bz b4 b3 i b2 rs ra n rc b1 p cs L0) w_) 7 (bA 21 270335) [(3,pv b1),(4,pv b2),(5,pv b3),(6,pv b4),(12,iv (i.gK%128)),(19,pv bd218),(143,.agg (aI (eA p i))),(151,iv (ab (eA p i) (gX rs i)))] w92:=by
   intro bd218 w92 S122
   refine WA.all [13,17] kr rfl ⟨?_,?_,trivial⟩
   refine WO.set (bA 21 278527) kr<|WO.callF 152 70 #[.agg (aI (eA p i)),iv (ab (eA p i) (gX rs i))] hb70 kr (dU (eA p i) (ab (eA p i) (gX rs i)) _ (aw hel6 S122) hfA (bw _ _)) ?_
   rintro _ w93 ⟨ad213,cd213,ae213,ce213,rfl,T19⟩
   exact WB.mk ((((S122.trans T19).erase 2).erase 1).erase 0)<|WA.take 14 138 (.tuple #[bgV (ac (eA p i) (ab (eA p i) (gX rs i))) ad213 cd213,bgV ((eA p i).aa) ae213 ce213]) (bA 21 294911) kr kr kr (fun _ _=>kr) kr<|WA.take 15 153 (bgV (ac (eA p i) (ab (eA p i) (gX rs i))) ad213 cd213) (bA 21 327679) kr kr kr (fun _ _=>kr) kr<|WA.take 16 154 (bgV ((eA p i).aa) ae213 ce213) (bA 21 393215) kr kr kr (fun _ _=>kr) kr<|WA.weaken kr (W27 bd218 ae213 ce213 ad213 cd213 w93 (S122.trans T19))
   refine WO.set (bA 21 401407) kr<|WO.new S122 18 [.bool false,.slice none 0 0] 107 kr ?_
   intro bd217 w94 S124
   exact WB.mk ((S124.erase 1).erase 0)<|WA.weaken kr (W30 bd218 bd217 w94 S124)
  have W32:∀ (bd217:Nat) (w95:World),Sep w0 (box bd217 [.bool false,.slice none 0 0] 107::(bz b4 b3 i b2 rs ra n rc b1 p cs L0)) w95→WA prog 40 322 R K40_4 (fun w_=>Sep w0 (bz b4 b3 i b2 rs ra n rc b1 p cs L0) w_) 7 (bA 21 139263) [(3,pv b1),(4,pv b2),(5,pv b3),(6,pv b4),(12,iv (i.gK%128)),(18,pv bd217),(143,.agg (aI (eA p i))),(151,iv (ab (eA p i) (gX rs i)))] w95:=by
   intro bd217 w95 S125
   refine WA.all [13,18] kr rfl ⟨?_,?_,trivial⟩
   refine WO.set (bA 21 147455) kr<|WO.callF 152 70 #[.agg (aI (eA p i)),iv (ab (eA p i) (gX rs i))] hb70 kr (dU (eA p i) (ab (eA p i) (gX rs i)) _ (aw hel6 S125) hfA (bw _ _)) ?_
   rintro _ w96 ⟨ad213,cd213,ae213,ce213,rfl,T20⟩
   exact WB.mk ((((S125.trans T20).erase 2).erase 1).erase 0)<|WA.take 14 138 (.tuple #[bgV (ac (eA p i) (ab (eA p i) (gX rs i))) ad213 cd213,bgV ((eA p i).aa) ae213 ce213]) (bA 21 163839) kr kr kr (fun _ _=>kr) kr<|WA.take 15 153 (bgV (ac (eA p i) (ab (eA p i) (gX rs i))) ad213 cd213) (bA 21 196607) kr kr kr (fun _ _=>kr) kr<|WA.take 16 154 (bgV ((eA p i).aa) ae213 ce213) (bA 21 262143) kr kr kr (fun _ _=>kr) kr<|WA.weaken kr (W28 bd217 ae213 ce213 ad213 cd213 w96 (S125.trans T20))
   refine WO.set (bA 21 401407) kr<|WO.new S125 19 [.bool false,.slice none 0 0] 107 kr ?_
   intro bd218 w97 S127
   refine WB.mk ((S127.erase 1).erase 0) ?_
   have S128:Sep w0 (box bd218 [.bool false,.slice none 0 0] 107::box bd217 [.bool false,.slice none 0 0] 107::(bz b4 b3 i b2 rs ra n rc b1 p cs L0)) w97:=S127.front 0 rfl
   have S129:Sep w0 (box bd217 [.bool false,.slice none 0 0] 107::box bd218 [.bool false,.slice none 0 0] 107::(bz b4 b3 i b2 rs ra n rc b1 p cs L0)) w97:=S128.front 1 rfl
   exact WA.weaken kr (W30 bd218 bd217 w97 S129)
  have W33:∀ (w98:World),Sep w0 (bz b4 b3 i b2 rs ra n rc b1 p cs L0) w98→WA prog 40 322 R K40_4 (fun w_=>Sep w0 (bz b4 b3 i b2 rs ra n rc b1 p cs L0) w_) 8 (bA 21 8191) [(3,pv b1),(4,pv b2),(5,pv b3),(6,pv b4),(12,iv (i.gK%128)),(143,.agg (aI (eA p i))),(151,iv (ab (eA p i) (gX rs i)))] w98:=by
   intro w98 S130
   refine WA.all [13,17,18] kr rfl ⟨?_,?_,?_,trivial⟩
   refine WO.set (bA 21 16383) kr<|WO.callF 152 70 #[.agg (aI (eA p i)),iv (ab (eA p i) (gX rs i))] hb70 kr (dU (eA p i) (ab (eA p i) (gX rs i)) _ (aw hel6 S130) hfA (bw _ _)) ?_
   rintro _ w99 ⟨ad213,cd213,ae213,ce213,rfl,T21⟩
   exact WB.mk (((S130.trans T21).erase 1).erase 0)<|WA.take 14 138 (.tuple #[bgV (ac (eA p i) (ab (eA p i) (gX rs i))) ad213 cd213,bgV ((eA p i).aa) ae213 ce213]) (bA 21 32767) kr kr kr (fun _ _=>kr) kr<|WA.take 15 153 (bgV (ac (eA p i) (ab (eA p i) (gX rs i))) ad213 cd213) (bA 21 65535) kr kr kr (fun _ _=>kr) kr<|WA.take 16 154 (bgV ((eA p i).aa) ae213 ce213) (bA 21 131071) kr kr kr (fun _ _=>kr) kr<|WA.weaken kr (W29 ae213 ce213 ad213 cd213 w99 (S130.trans T21))
   refine WO.set (bA 21 139263) kr<|WO.new S130 18 [.bool false,.slice none 0 0] 107 kr ?_
   intro bd217 w100 S132
   exact WB.mk (S132.erase 0)<|WA.weaken kr (W32 bd217 w100 S132)
   refine WO.set (bA 21 270335) kr<|WO.new S130 19 [.bool false,.slice none 0 0] 107 kr ?_
   intro bd218 w101 S133
   exact WB.mk (S133.erase 0)<|WA.weaken kr (W31 bd218 w101 S133)
  have W34:∀ (bd218:Nat) (bd217:Nat) (w102:World),Sep w0 (box bd217 [.bool false,.slice none 0 0] 107::box bd218 [.bool false,.slice none 0 0] 107::(bz b4 b3 i b2 rs ra n rc b1 p cs L0)) w102→WA prog 40 322 R K40_4 (fun w_=>Sep w0 (bz b4 b3 i b2 rs ra n rc b1 p cs L0) w_) 8 (bA 21 395263) [(3,pv b1),(4,pv b2),(5,pv b3),(6,pv b4),(12,iv (i.gK%128)),(18,pv bd217),(19,pv bd218),(143,.agg (aI (eA p i))),(148,.agg (aI (eA p i))),(149,iv (gX rs i))] w102:=by
   intro bd218 bd217 w102 S134
   refine WA.all [11] kr rfl ⟨?_,trivial⟩
   refine WO.set (bA 21 397311) kr<|WO.callF 150 69 #[.agg (aI (eA p i)),iv (gX rs i)] hb69 kr (bT (eA p i) (gX rs i) _ (aw hel6 S134) hfA) ?_
   rintro _ w103 ⟨rfl,T22⟩
   have S135:Sep w0 (box bd217 [.bool false,.slice none 0 0] 107::box bd218 [.bool false,.slice none 0 0] 107::(bz b4 b3 i b2 rs ra n rc b1 p cs L0)) w103:=S134.trans T22
   exact WB.mk ((S135.erase 1).erase 0)<|WA.take 12 151 (iv (ab (eA p i) (gX rs i))) (bA 21 401407) kr kr kr (fun _ _=>kr) kr<|WA.weaken kr (W30 bd218 bd217 w103 S135)
  have W35:∀ (bd217:Nat) (w104:World),Sep w0 (box bd217 [.bool false,.slice none 0 0] 107::(bz b4 b3 i b2 rs ra n rc b1 p cs L0)) w104→WA prog 40 322 R K40_4 (fun w_=>Sep w0 (bz b4 b3 i b2 rs ra n rc b1 p cs L0) w_) 9 (bA 21 133119) [(3,pv b1),(4,pv b2),(5,pv b3),(6,pv b4),(12,iv (i.gK%128)),(18,pv bd217),(143,.agg (aI (eA p i))),(148,.agg (aI (eA p i))),(149,iv (gX rs i))] w104:=by
   intro bd217 w104 S136
   refine WA.all [11,18] kr rfl ⟨?_,?_,trivial⟩
   refine WO.set (bA 21 135167) kr<|WO.callF 150 69 #[.agg (aI (eA p i)),iv (gX rs i)] hb69 kr (bT (eA p i) (gX rs i) _ (aw hel6 S136) hfA) ?_
   rintro _ w105 ⟨rfl,T23⟩
   have S137:Sep w0 (box bd217 [.bool false,.slice none 0 0] 107::(bz b4 b3 i b2 rs ra n rc b1 p cs L0)) w105:=S136.trans T23
   exact WB.mk (S137.erase 0)<|WA.take 12 151 (iv (ab (eA p i) (gX rs i))) (bA 21 139263) kr kr kr (fun _ _=>kr) kr<|WA.weaken kr (W32 bd217 w105 S137)
   refine WO.set (bA 21 395263) kr<|WO.new S136 19 [.bool false,.slice none 0 0] 107 kr ?_
   intro bd218 w106 S138
   refine WB.mk ((S138.erase 1).erase 0) ?_
   have S139:Sep w0 (box bd218 [.bool false,.slice none 0 0] 107::box bd217 [.bool false,.slice none 0 0] 107::(bz b4 b3 i b2 rs ra n rc b1 p cs L0)) w106:=S138.front 0 rfl
   have S140:Sep w0 (box bd217 [.bool false,.slice none 0 0] 107::box bd218 [.bool false,.slice none 0 0] 107::(bz b4 b3 i b2 rs ra n rc b1 p cs L0)) w106:=S139.front 1 rfl
   exact WA.weaken kr (W34 bd218 bd217 w106 S140)
  have W36:∀ (bd218:Nat) (w107:World),Sep w0 (box bd218 [.bool false,.slice none 0 0] 107::(bz b4 b3 i b2 rs ra n rc b1 p cs L0)) w107→WA prog 40 322 R K40_4 (fun w_=>Sep w0 (bz b4 b3 i b2 rs ra n rc b1 p cs L0) w_) 9 (bA 21 264191) [(3,pv b1),(4,pv b2),(5,pv b3),(6,pv b4),(12,iv (i.gK%128)),(19,pv bd218),(143,.agg (aI (eA p i))),(148,.agg (aI (eA p i))),(149,iv (gX rs i))] w107:=by
   intro bd218 w107 S141
   refine WA.all [11,17] kr rfl ⟨?_,?_,trivial⟩
   refine WO.set (bA 21 266239) kr<|WO.callF 150 69 #[.agg (aI (eA p i)),iv (gX rs i)] hb69 kr (bT (eA p i) (gX rs i) _ (aw hel6 S141) hfA) ?_
   rintro _ w108 ⟨rfl,T24⟩
   have S142:Sep w0 (box bd218 [.bool false,.slice none 0 0] 107::(bz b4 b3 i b2 rs ra n rc b1 p cs L0)) w108:=S141.trans T24
   exact WB.mk (S142.erase 0)<|WA.take 12 151 (iv (ab (eA p i) (gX rs i))) (bA 21 270335) kr kr kr (fun _ _=>kr) kr<|WA.weaken kr (W31 bd218 w108 S142)
   refine WO.set (bA 21 395263) kr<|WO.new S141 18 [.bool false,.slice none 0 0] 107 kr ?_
   intro bd217 w109 S143
   exact WB.mk ((S143.erase 1).erase 0)<|WA.weaken kr (W34 bd218 bd217 w109 S143)
  have W37:∀ (w110:World),Sep w0 (bz b4 b3 i b2 rs ra n rc b1 p cs L0) w110→WA prog 40 322 R K40_4 (fun w_=>Sep w0 (bz b4 b3 i b2 rs ra n rc b1 p cs L0) w_) 10 (bA 21 2047) [(3,pv b1),(4,pv b2),(5,pv b3),(6,pv b4),(12,iv (i.gK%128)),(143,.agg (aI (eA p i))),(148,.agg (aI (eA p i))),(149,iv (gX rs i))] w110:=by
   intro w110 S144
   refine WA.all [11,17,18] kr rfl ⟨?_,?_,?_,trivial⟩
   refine WO.set (bA 21 4095) kr<|WO.callF 150 69 #[.agg (aI (eA p i)),iv (gX rs i)] hb69 kr (bT (eA p i) (gX rs i) _ (aw hel6 S144) hfA) ?_
   rintro _ w111 ⟨rfl,T25⟩
   have S145:Sep w0 (bz b4 b3 i b2 rs ra n rc b1 p cs L0) w111:=S144.trans T25
   exact WB.mk S145<|WA.take 12 151 (iv (ab (eA p i) (gX rs i))) (bA 21 8191) kr kr kr (fun _ _=>kr) kr<|WA.weaken kr (W33 w111 S145)
   refine WO.set (bA 21 133119) kr<|WO.new S144 18 [.bool false,.slice none 0 0] 107 kr ?_
   intro bd217 w112 S146
   exact WB.mk (S146.erase 0)<|WA.weaken kr (W35 bd217 w112 S146)
   refine WO.set (bA 21 264191) kr<|WO.new S144 19 [.bool false,.slice none 0 0] 107 kr ?_
   intro bd218 w113 S147
   exact WB.mk (S147.erase 0)<|WA.weaken kr (W36 bd218 w113 S147)
  refine J.drawAny (fun w_=>Sep w0 (bz b4 b3 i b2 rs ra n rc b1 p cs L0) w_) S13 21 (bA 21 0) Tryz.mixed kr kr kr ?_
  intro w114 S148
  refine WB.mk S148<|WA.take 0 139 (.pointer (some ⟨b1,1,none⟩)) (bA 21 1) kr kr kr (fun _ _=>kr) kr<|WA.takeOK 1 (bA 21 3) kr kr kr kr (fun w_ S_=>OK.ldBox S_ 3 140 23 1 (.slice p.aJ p.am p.bj) kr rfl kr) rfl<|WA.take 2 141 (iv (i.gK/16384)) (bA 21 7) kr kr kr (fun _ _=>kr) kr<|WA.takeOK 3 (bA 21 15) kr kr kr kr (fun w_ S_=>OK.index 142 23 10 p.aJ p8 p.am (i.gK/16384).toNat (i.gK/16384) (p8.add ((i.gK/16384).toNat*10)) kr kr hp8 om om rfl) rfl<|WA.takeOK 4 (bA 21 31) kr kr kr kr (fun w_ S_=>OK.ldCells 143 54 (p8.add ((i.gK/16384).toNat*10)) (aN (eA p i)) kr kr kr (fun j_ v_ hj_=>S_.cell (hc6 j_ v_ hj_))) rfl<|WA.take 5 144 (.pointer (some ⟨b1,1,none⟩)) (bA 21 63) kr kr kr (fun _ _=>kr) kr<|WA.takeOK 6 (bA 21 127) kr kr kr kr (fun w_ S_=>OK.ldBox S_ 3 145 23 1 (.slice p.aJ p.am p.bj) kr rfl kr) rfl<|WA.take 7 146 (iv (i.gK/16384)) (bA 21 255) kr kr kr (fun _ _=>kr) kr<|WA.takeOK 8 (bA 21 511) kr kr kr kr (fun w_ S_=>OK.index 147 23 10 p.aJ p8 p.am (i.gK/16384).toNat (i.gK/16384) (p8.add ((i.gK/16384).toNat*10)) kr kr hp8 om om rfl) rfl<|WA.takeOK 9 (bA 21 1023) kr kr kr kr (fun w_ S_=>OK.ldCells 148 54 (p8.add ((i.gK/16384).toNat*10)) (aN (eA p i)) kr kr kr (fun j_ v_ hj_=>S_.cell (hc6 j_ v_ hj_))) rfl ?_
  exact WA.take 10 149 (iv (gX rs i)) (bA 21 2047) kr kr kr (fun _ _=>kr) kr<|WA.weaken (env':=[(3,pv b1),(4,pv b2),(5,pv b3),(6,pv b4),(12,iv (i.gK%128)),(143,.agg (aI (eA p i))),(148,.agg (aI (eA p i))),(149,iv (gX rs i))]) kr<|W37 w114 S148
  refine J.c 6 [false] [] [] 163 (i.gOp=11) (fun fk10=>?_) fun fk10=>?_
  exact J.h 5 [true] [] [] 167 (iv (if (gY rs i)<(gX rs i) then (gY rs i) else (gX rs i))) (iv (min (gX rs i) (gY rs i))) (congrArg (Value.int .i64) om)<|J.t 3 (X1 (min (gX rs i) (gY rs i)) cs w13 (by unfold exV;(repeat first | rw[if_pos om] | rw[if_neg om])<;>(try simp only[eD,eE,decide_true,decide_false,Bool.not_true,Bool.not_false,Bool.true_and,Bool.false_and,Bool.true_or,Bool.false_or])) (by unfold exC;(repeat first | rw[if_pos om] | rw[if_neg om])) (by unfold exE;rw[if_neg om]) om S13)
  refine J.c 6 [false] [] [] 168 (i.gOp=12) (fun fk11=>?_) fun fk11=>?_
  exact J.h 5 [true] [] [] 172 (iv (if (gY rs i)>(gX rs i) then (gY rs i) else (gX rs i))) (iv (max (gX rs i) (gY rs i))) (congrArg (Value.int .i64) om)<|J.t 3 (X1 (max (gX rs i) (gY rs i)) cs w13 (by unfold exV;(repeat first | rw[if_pos om] | rw[if_neg om])<;>(try simp only[eD,eE,decide_true,decide_false,Bool.not_true,Bool.not_false,Bool.true_and,Bool.false_and,Bool.true_or,Bool.false_or])) (by unfold exC;(repeat first | rw[if_pos om] | rw[if_neg om])) (by unfold exE;rw[if_neg om]) om S13)
  refine J.c 6 [false] [] [] 173 (i.gOp=13) (fun fk12=>?_) fun fk12=>?_
  obtain ⟨⟨htA,hfA,hkA⟩,htB_,htC_,hun⟩:=ty_el hv hlt hf om om
  obtain ⟨htB,hfB,hkB⟩:=htB_ om
  refine J.r 1 [true] [] [] ?_
  obtain ⟨p10,hp10,hc8⟩:=q5.at fx0 (i.gK/16384).toNat om
  have hel8:=aP q6 fx0 (n:=(i.gK/16384).toNat) (by have:=q5.len_eq;omega)
  obtain ⟨q94,q95,q96,q97,q98,q99,q100,q101,q102,_⟩:=id hel8
  obtain ⟨p11,hp11,hc9⟩:=q5.at fx0 (i.gK/128%128).toNat om
  have hel9:=aP q6 fx0 (n:=(i.gK/128%128).toNat) (by have:=q5.len_eq;omega)
  obtain ⟨q103,q104,q105,q106,q107,q108,q109,q110,q111,_⟩:=id hel9
  refine J.drawPlan (fun w_=>Sep w0 (bz b4 b3 i b2 rs ra n rc b1 p cs L0) w_) [(0,true),(1,true),(2,true),(3,true),(4,true),(5,true),(7,true),(8,true),(9,true),(10,true),(11,true),(12,true),(6,false),(13,false),(14,false),(15,true),(16,false),(17,true)] S13 Tryz.mixed kr (aE (T:=[(0,some 175,8),(1,some 176,47890485652059026823698344598447161988085597568237568),(0,some 177,1024),(6,some 178,287342913912354160942190067590682971928513585409425408),(8,some 179,383123885216472214589586756787577295904684780545900544),(0,some 180,256),(48,some 181,2298743311298833287537520540725463775428108683275403264),(0,some 182,8),(128,some 183,6129982163463555433433388108601236734474956488734408704),(0,some 184,2048),(768,some 185,36779892980781332600600328651607420406849738932406452224),(1024,some 186,49039857307708443467467104868809893875799651909875269632),(0,some 187,512),(6208,some 188,294239143846250660804802629212859363254797911459251617792),(8256,some 189,395383849543399325456453533004779769373634693523369361408),(16384,some 190,784637716923335095479473677900958302012794430558004314112),(49152,some 191,1569275433846670190958947355801916604025588861116008628224),(131071,some 13,3138550867693340381917894711603833208051177722232017256448)]) kr kr) ?_
  intro w115 S149
  refine PB.mk S149<|PL.take 0 175 (.pointer (some ⟨b1,1,none⟩)) (fun _ _=>kr)<|PL.takeOK 1 (fun w_ S_=>OK.ldBox S_ 3 176 23 1 (.slice p.aJ p.am p.bj) kr rfl kr) rfl<|PL.take 2 177 (iv (i.gK/16384)) (fun _ _=>kr)<|PL.takeOK 3 (fun w_ S_=>OK.index 178 23 10 p.aJ p10 p.am (i.gK/16384).toNat (i.gK/16384) (p10.add ((i.gK/16384).toNat*10)) kr kr hp10 om om rfl) rfl<|PL.takeOK 4 (fun w_ S_=>OK.ldCells 179 54 (p10.add ((i.gK/16384).toNat*10)) (aN (eA p i)) kr kr kr (fun j_ v_ hj_=>S_.cell (hc8 j_ v_ hj_))) rfl<|PL.take 5 180 (iv (gX rs i)) (fun _ _=>kr)<|PL.take 7 182 (.pointer (some ⟨b1,1,none⟩)) (fun _ _=>kr)<|PL.takeOK 8 (fun w_ S_=>OK.ldBox S_ 3 183 23 1 (.slice p.aJ p.am p.bj) kr rfl kr) rfl<|PL.take 9 184 (iv (i.gK/128%128)) (fun _ _=>kr)<|PL.takeOK 10 (fun w_ S_=>OK.index 185 23 10 p.aJ p11 p.am (i.gK/128%128).toNat (i.gK/128%128) (p11.add ((i.gK/128%128).toNat*10)) kr kr hp11 om om rfl) rfl ?_
  refine PL.takeOK 11 (fun w_ S_=>OK.ldCells 186 54 (p11.add ((i.gK/128%128).toNat*10)) (aN (eB p i)) kr kr kr (fun j_ v_ hj_=>S_.cell (hc9 j_ v_ hj_))) rfl<|PL.take 12 187 (iv (gY rs i)) (fun _ _=>kr)<|PL.callF 181 69 #[.agg (aI (eA p i)),iv (gX rs i)] hb69 kr (bT (eA p i) (gX rs i) _ (aw hel8 S149) hfA) ?_
  rintro _ w116 ⟨rfl,T26⟩
  have S150:Sep w0 (bz b4 b3 i b2 rs ra n rc b1 p cs L0) w116:=S149.trans T26
  refine PB.mk S150<|PL.callF 188 69 #[.agg (aI (eB p i)),iv (gY rs i)] hb69 kr (bT (eB p i) (gY rs i) _ (aw hel9 S150) hfB) ?_
  rintro _ w117 ⟨rfl,T27⟩
  have S151:Sep w0 (bz b4 b3 i b2 rs ra n rc b1 p cs L0) w117:=S150.trans T27
  refine PB.mk S151<|PL.callF 189 74 #[.agg (vlA (eA p i) (ab (eA p i) (gX rs i))),.agg (vlA (eB p i) (ab (eB p i) (gY rs i)))] hb74 kr (rcmp_any (eA p i) (ab (eA p i) (gX rs i)) (eB p i) (ab (eB p i) (gY rs i)) _ (aw hel8 S151) hfA (bw _ _) (aw hel9 S151) hfB (bw _ _)) ?_
  rintro _ w118 ⟨rfl,T28⟩
  have S152:Sep w0 (bz b4 b3 i b2 rs ra n rc b1 p cs L0) w118:=S151.trans T28
  clear T28 S151
  refine PB.mk S152<|PL.take 15 190 (.bool (decide ((sgnI (ac (eA p i) (ab (eA p i) (gX rs i))*(eB p i).aa+ -(ac (eB p i) (ab (eB p i) (gY rs i))*(eA p i).aa)))<0))) (fun _ _=>kr)<|PL.callF 191 73 #[.bool (decide ((sgnI (ac (eA p i) (ab (eA p i) (gX rs i))*(eB p i).aa+ -(ac (eB p i) (ab (eB p i) (gY rs i))*(eA p i).aa)))<0))] hb73 kr (eL (decide ((sgnI (ac (eA p i) (ab (eA p i) (gX rs i))*(eB p i).aa+ -(ac (eB p i) (ab (eB p i) (gY rs i))*(eA p i).aa)))<0)) _) ?_
  rintro _ w119 ⟨rfl,T29⟩
  have S153:Sep w0 (bz b4 b3 i b2 rs ra n rc b1 p cs L0) w119:=S152.trans T29
  clear T29 S152
  exact PB.mk S153<|PL.take 17 13 (iv (dH (decide ((sgnI (ac (eA p i) (ab (eA p i) (gX rs i))*(eB p i).aa+ -(ac (eB p i) (ab (eB p i) (gY rs i))*(eA p i).aa)))<0)))) (fun _ _=>kr)<|PL.done<|J.t 1 (X1 (dH (decide ((sgnI (ac (eA p i) (ab (eA p i) (gX rs i))*(eB p i).aa+ -(ac (eB p i) (ab (eB p i) (gY rs i))*(eA p i).aa)))<0))) cs w119 (by unfold exV;(repeat first | rw[if_pos om] | rw[if_neg om]);rw[htA,htB,show i.gOp=13 by omega,ar_less2]) (by unfold exC;(repeat first | rw[if_pos om] | rw[if_neg om])) (by unfold exE arE;rw[if_pos om,if_neg om]) om S153)
  refine J.c 6 [false] [] [] 192 (i.gOp=14) (fun fk13=>?_) fun fk13=>?_
  obtain ⟨⟨htA,hfA,hkA⟩,htB_,htC_,hun⟩:=ty_el hv hlt hf om om
  obtain ⟨htB,hfB,hkB⟩:=htB_ om
  refine J.r 1 [true] [] [] ?_
  obtain ⟨p12,hp12,hc10⟩:=q5.at fx0 (i.gK/16384).toNat om
  have hel10:=aP q6 fx0 (n:=(i.gK/16384).toNat) (by have:=q5.len_eq;omega)
  obtain ⟨q112,q113,q114,q115,q116,q117,q118,q119,q120,_⟩:=id hel10
  obtain ⟨p13,hp13,hc11⟩:=q5.at fx0 (i.gK/128%128).toNat om
  have hel11:=aP q6 fx0 (n:=(i.gK/128%128).toNat) (by have:=q5.len_eq;omega)
  obtain ⟨q121,q122,q123,q124,q125,q126,q127,q128,q129,_⟩:=id hel11
  refine J.drawPlan (fun w_=>Sep w0 (bz b4 b3 i b2 rs ra n rc b1 p cs L0) w_) [(0,true),(1,true),(2,true),(3,true),(4,true),(5,true),(7,true),(8,true),(9,true),(10,true),(11,true),(12,true),(6,false),(13,false),(14,false),(15,true),(16,false),(17,true)] S13 Tryz.mixed kr (aE (T:=[(0,some 194,8),(1,some 195,25108406941546723055343157692830665664409421777856138051584),(0,some 196,1024),(6,some 197,150650441649280338332058946156983993986456530667136828309504),(8,some 198,200867255532373784442745261542645325315275374222849104412672),(0,some 199,256),(48,some 200,1205203533194242706656471569255871951891652245337094626476032),(0,some 201,8),(128,some 202,3213876088517980551083924184682325205044405987565585670602752),(0,some 203,2048),(768,some 204,19283256531107883306503545108093951230266435925393514023616512),(1024,some 205,25711008708143844408671393477458601640355247900524685364822016),(0,some 206,512),(6208,some 207,154266052248863066452028360864751609842131487403148112188932096),(8256,some 208,207295007709409745544913109912009975725364186197980275753877504),(16384,some 209,411376139330301510538742295639337626245683966408394965837152256),(49152,some 210,822752278660603021077484591278675252491367932816789931674304512),(131071,some 13,1645504557321206042154969182557350504982735865633579863348609024)]) kr kr) ?_
  intro w120 S154
  refine PB.mk S154<|PL.take 0 194 (.pointer (some ⟨b1,1,none⟩)) (fun _ _=>kr)<|PL.takeOK 1 (fun w_ S_=>OK.ldBox S_ 3 195 23 1 (.slice p.aJ p.am p.bj) kr rfl kr) rfl<|PL.take 2 196 (iv (i.gK/16384)) (fun _ _=>kr)<|PL.takeOK 3 (fun w_ S_=>OK.index 197 23 10 p.aJ p12 p.am (i.gK/16384).toNat (i.gK/16384) (p12.add ((i.gK/16384).toNat*10)) kr kr hp12 om om rfl) rfl<|PL.takeOK 4 (fun w_ S_=>OK.ldCells 198 54 (p12.add ((i.gK/16384).toNat*10)) (aN (eA p i)) kr kr kr (fun j_ v_ hj_=>S_.cell (hc10 j_ v_ hj_))) rfl<|PL.take 5 199 (iv (gX rs i)) (fun _ _=>kr)<|PL.take 7 201 (.pointer (some ⟨b1,1,none⟩)) (fun _ _=>kr)<|PL.takeOK 8 (fun w_ S_=>OK.ldBox S_ 3 202 23 1 (.slice p.aJ p.am p.bj) kr rfl kr) rfl<|PL.take 9 203 (iv (i.gK/128%128)) (fun _ _=>kr)<|PL.takeOK 10 (fun w_ S_=>OK.index 204 23 10 p.aJ p13 p.am (i.gK/128%128).toNat (i.gK/128%128) (p13.add ((i.gK/128%128).toNat*10)) kr kr hp13 om om rfl) rfl ?_
  refine PL.takeOK 11 (fun w_ S_=>OK.ldCells 205 54 (p13.add ((i.gK/128%128).toNat*10)) (aN (eB p i)) kr kr kr (fun j_ v_ hj_=>S_.cell (hc11 j_ v_ hj_))) rfl<|PL.take 12 206 (iv (gY rs i)) (fun _ _=>kr)<|PL.callF 200 69 #[.agg (aI (eA p i)),iv (gX rs i)] hb69 kr (bT (eA p i) (gX rs i) _ (aw hel10 S154) hfA) ?_
  rintro _ w121 ⟨rfl,T30⟩
  have S155:Sep w0 (bz b4 b3 i b2 rs ra n rc b1 p cs L0) w121:=S154.trans T30
  refine PB.mk S155<|PL.callF 207 69 #[.agg (aI (eB p i)),iv (gY rs i)] hb69 kr (bT (eB p i) (gY rs i) _ (aw hel11 S155) hfB) ?_
  rintro _ w122 ⟨rfl,T31⟩
  have S156:Sep w0 (bz b4 b3 i b2 rs ra n rc b1 p cs L0) w122:=S155.trans T31
  refine PB.mk S156<|PL.callF 208 74 #[.agg (vlA (eA p i) (ab (eA p i) (gX rs i))),.agg (vlA (eB p i) (ab (eB p i) (gY rs i)))] hb74 kr (rcmp_any (eA p i) (ab (eA p i) (gX rs i)) (eB p i) (ab (eB p i) (gY rs i)) _ (aw hel10 S156) hfA (bw _ _) (aw hel11 S156) hfB (bw _ _)) ?_
  rintro _ w123 ⟨rfl,T32⟩
  have S157:Sep w0 (bz b4 b3 i b2 rs ra n rc b1 p cs L0) w123:=S156.trans T32
  clear T32 S156
  refine PB.mk S157<|PL.take 15 209 (.bool ((sgnI (ac (eA p i) (ab (eA p i) (gX rs i))*(eB p i).aa+ -(ac (eB p i) (ab (eB p i) (gY rs i))*(eA p i).aa)))==0)) (fun _ _=>kr)<|PL.callF 210 73 #[.bool ((sgnI (ac (eA p i) (ab (eA p i) (gX rs i))*(eB p i).aa+ -(ac (eB p i) (ab (eB p i) (gY rs i))*(eA p i).aa)))==0)] hb73 kr (eL ((sgnI (ac (eA p i) (ab (eA p i) (gX rs i))*(eB p i).aa+ -(ac (eB p i) (ab (eB p i) (gY rs i))*(eA p i).aa)))==0) _) ?_
  rintro _ w124 ⟨rfl,T33⟩
  have S158:Sep w0 (bz b4 b3 i b2 rs ra n rc b1 p cs L0) w124:=S157.trans T33
  clear T33 S157
  exact PB.mk S158<|PL.take 17 13 (iv (dH ((sgnI (ac (eA p i) (ab (eA p i) (gX rs i))*(eB p i).aa+ -(ac (eB p i) (ab (eB p i) (gY rs i))*(eA p i).aa)))==0))) (fun _ _=>kr)<|PL.done<|J.t 1 (X1 (dH ((sgnI (ac (eA p i) (ab (eA p i) (gX rs i))*(eB p i).aa+ -(ac (eB p i) (ab (eB p i) (gY rs i))*(eA p i).aa)))==0)) cs w124 (by unfold exV;(repeat first | rw[if_pos om] | rw[if_neg om]);rw[htA,htB,show i.gOp=14 by omega,ar_eq2]) (by unfold exC;(repeat first | rw[if_pos om] | rw[if_neg om])) (by unfold exE arE;rw[if_pos om,if_neg om]) om S158)
  refine J.c 6 [false] [] [] 211 (i.gOp=15) (fun fk14=>?_) fun fk14=>?_
  exact J.c0 5 [true] [] [] S13 216 hb73 (eL (decide ((gX rs i)<(gY rs i))) _) fun w125 S159=>J.t 3 (X1 (dH (decide ((gX rs i)<(gY rs i)))) cs w125 (by unfold exV;(repeat first | rw[if_pos om] | rw[if_neg om])<;>(try simp only[eD,eE,decide_true,decide_false,Bool.not_true,Bool.not_false,Bool.true_and,Bool.false_and,Bool.true_or,Bool.false_or])) (by unfold exC;(repeat first | rw[if_pos om] | rw[if_neg om])) (by unfold exE;rw[if_neg om]) om S159)
  refine J.c 6 [false] [] [] 217 (i.gOp=16) (fun fk15=>?_) fun fk15=>?_
  refine J.cn 5 [true] [] [] 221 ((gX rs i)=0) (fun fk16=>?_) fun fk16=>?_
  exact J.c0 3 [] [] [] S13 225 hb73 (eL false _) fun w126 S160=>J.t 3 (X1 (dH false) cs w126 (by unfold exV;(repeat first | rw[if_pos om] | rw[if_neg om])<;>(try simp only[eD,eE,decide_true,decide_false,Bool.not_true,Bool.not_false,Bool.true_and,Bool.false_and,Bool.true_or,Bool.false_or,fk16])) (by unfold exC;(repeat first | rw[if_pos om] | rw[if_neg om])) (by unfold exE;rw[if_neg om]) om S160)
  exact J.c0 3 [] [] [] S13 225 hb73 (eL ((gY rs i) != 0) _) fun w127 S161=>J.t 3 (X1 (dH ((gY rs i) != 0)) cs w127 (by unfold exV;(repeat first | rw[if_pos om] | rw[if_neg om])<;>(try simp only[eD,eE,decide_true,decide_false,Bool.not_true,Bool.not_false,Bool.true_and,Bool.false_and,Bool.true_or,Bool.false_or,fk16])) (by unfold exC;(repeat first | rw[if_pos om] | rw[if_neg om])) (by unfold exE;rw[if_neg om]) om S161)
  refine J.c 6 [false] [] [] 226 (i.gOp=17) (fun fk17=>?_) fun fk17=>?_
  refine J.cn 5 [true] [] [] 230 ((gX rs i)=0) (fun fk18=>?_) fun fk18=>?_
  exact J.c0 3 [] [] [] S13 234 hb73 (eL ((gY rs i) != 0) _) fun w128 S162=>J.t 3 (X1 (dH ((gY rs i) != 0)) cs w128 (by unfold exV;(repeat first | rw[if_pos om] | rw[if_neg om])<;>(try simp only[eD,eE,decide_true,decide_false,Bool.not_true,Bool.not_false,Bool.true_and,Bool.false_and,Bool.true_or,Bool.false_or,fk18])) (by unfold exC;(repeat first | rw[if_pos om] | rw[if_neg om])) (by unfold exE;rw[if_neg om]) om S162)
  exact J.c0 3 [] [] [] S13 234 hb73 (eL true _) fun w129 S163=>J.t 3 (X1 (dH true) cs w129 (by unfold exV;(repeat first | rw[if_pos om] | rw[if_neg om])<;>(try simp only[eD,eE,decide_true,decide_false,Bool.not_true,Bool.not_false,Bool.true_and,Bool.false_and,Bool.true_or,Bool.false_or,fk18])) (by unfold exC;(repeat first | rw[if_pos om] | rw[if_neg om])) (by unfold exE;rw[if_neg om]) om S163)
  refine J.c 6 [false] [] [] 235 (i.gOp=18) (fun fk19=>?_) fun fk19=>?_
  exact J.c0 4 [true] [] [] S13 239 hb73 (eL ((gX rs i)==0) _) fun w130 S164=>J.t 3 (X1 (dH ((gX rs i)==0)) cs w130 (by unfold exV;(repeat first | rw[if_pos om] | rw[if_neg om])<;>(try simp only[eD,eE,decide_true,decide_false,Bool.not_true,Bool.not_false,Bool.true_and,Bool.false_and,Bool.true_or,Bool.false_or])) (by unfold exC;(repeat first | rw[if_pos om] | rw[if_neg om])) (by unfold exE;rw[if_neg om]) om S164)
  refine J.c 6 [false] [] [] 240 (i.gOp=19) (fun fk20=>?_) fun fk20=>?_
  refine J.lb 9 [true] [(13,iv (gY rs i))] [] S13 1 rfl 244 (iv i.gK)<|J.r 1 [] [(245,pv b2)] []<|J.ok (OK.indexP 246 42 16 1 b2 0 ((i.gK).toNat) i.gK kr kr om om)<|J.head (.pointer (some ⟨b2,(i.gK).toNat,none⟩)) zO<|J.ok (OK.ldMi S13 2 rfl 247 3 ((i.gK).toNat))<|J.cn 2 [] [] [] 248 ((rs.getD ((i.gK).toNat) 0)=0) (fun fk21=>?_) fun fk21=>?_
  exact J.t 3 (X1 (gY rs i) cs w13 (by unfold exV;(repeat first | rw[if_pos om] | rw[if_neg om])<;>(try simp only[eD,eE,decide_true,decide_false,Bool.not_true,Bool.not_false,Bool.true_and,Bool.false_and,Bool.true_or,Bool.false_or,fk21])) (by unfold exC;(repeat first | rw[if_pos om] | rw[if_neg om])) (by unfold exE;rw[if_neg om]) om S13)
  exact J.t 6 (X1 (gX rs i) cs w13 (by unfold exV;(repeat first | rw[if_pos om] | rw[if_neg om])<;>(try simp only[eD,eE,decide_true,decide_false,Bool.not_true,Bool.not_false,Bool.true_and,Bool.false_and,Bool.true_or,Bool.false_or,fk21])) (by unfold exC;(repeat first | rw[if_pos om] | rw[if_neg om])) (by unfold exE;rw[if_neg om]) om S13)
  refine J.c 6 [false] [] [] 250 (i.gOp=20) (fun fk22=>?_) fun fk22=>?_
  refine J.lb 3 [true] [] [] S13 3 rfl 253 (.slice p.ce p.br p.cu)<|J.lb 1 [] [] [] S13 1 rfl 255 (iv i.gK) ?_
  obtain ⟨p14,hp14,hc12⟩:=q8.at (⟨none,0,0,[],none,0,0,[]⟩:Crv) (i.gK).toNat om
  have hel12:=aP q9 (⟨none,0,0,[],none,0,0,[]⟩:Crv) (n:=(i.gK).toNat) (by have:=q8.len_eq;omega)
  obtain ⟨q130,q131,q132,q133,q134,q135,_⟩:=id hel12
  have ql9:=q131.len_eq
  have ql10:=q134.len_eq
  exact J.ok (OK.index 256 24 2 p.ce p14 p.br (i.gK).toNat i.gK (p14.add ((i.gK).toNat*2)) kr kr hp14 om om rfl)<|J.ok (OK.ldCells 257 57 (p14.add ((i.gK).toNat*2)) (crvC (p.bS.getD (i.gK).toNat (⟨none,0,0,[],none,0,0,[]⟩:Crv))) kr kr kr (fun j_ v_ hj_=>S13.cell (hc12 j_ v_ hj_)))<|J.c0 1 [] [] [] S13 259 hb75 (rcAt_any (p.bS.getD (i.gK).toNat (⟨none,0,0,[],none,0,0,[]⟩:Crv)) (gX rs i) _ (dV hel12 S13) (hvc om)) fun w131 S165=>J.t 3 (X1 (valueV (p.bS.getD (i.gK).toNat (⟨none,0,0,[],none,0,0,[]⟩:Crv)) (gX rs i)) cs w131 (by unfold exV;(repeat first | rw[if_pos om] | rw[if_neg om]);unfold atV;rw[hvc om];rfl) (by unfold exC;(repeat first | rw[if_pos om] | rw[if_neg om])) (by unfold exE;rw[if_neg om]) om S165)
  refine J.c 6 [false] [] [] 260 (i.gOp=21) (fun fk23=>?_) fun fk23=>?_
  refine J.lb 3 [true] [] [] S13 3 rfl 263 (.slice p.dc p.bO p.dz)<|J.lb 1 [] [] [] S13 1 rfl 265 (iv i.gK) ?_
  obtain ⟨p15,hp15,hc13⟩:=q11.at (⟨none,0,0,[],none,0,0,[],none,0,0,[]⟩:Mp) (i.gK).toNat om
  have hel13:=aP q12 (⟨none,0,0,[],none,0,0,[],none,0,0,[]⟩:Mp) (n:=(i.gK).toNat) (by have:=q11.len_eq;omega)
  obtain ⟨q136,q137,q138,q139,q140,q141,q142,q143,q144,_⟩:=id hel13
  have ql11:=q137.len_eq
  have ql12:=q140.len_eq
  have ql13:=q143.len_eq
  exact J.ok (OK.index 266 25 3 p.dc p15 p.bO (i.gK).toNat i.gK (p15.add ((i.gK).toNat*3)) kr kr hp15 om om rfl)<|J.ok (OK.ldCells 267 61 (p15.add ((i.gK).toNat*3)) (mpC (p.cX.getD (i.gK).toNat (⟨none,0,0,[],none,0,0,[],none,0,0,[]⟩:Mp))) kr kr kr (fun j_ v_ hj_=>S13.cell (hc13 j_ v_ hj_)))<|J.c0 2 [] [] [] S13 270 hb76 (rAt_any (p.cX.getD (i.gK).toNat (⟨none,0,0,[],none,0,0,[],none,0,0,[]⟩:Mp)) (gX rs i) (gY rs i) _ (dZ hel13 S13)) fun w132 S166=>J.t 3 (X1 (atF (p.cX.getD (i.gK).toNat (⟨none,0,0,[],none,0,0,[],none,0,0,[]⟩:Mp)) (gX rs i) (gY rs i)) cs w132 (by unfold exV;(repeat first | rw[if_pos om] | rw[if_neg om])<;>(try simp only[eD,eE,decide_true,decide_false,Bool.not_true,Bool.not_false,Bool.true_and,Bool.false_and,Bool.true_or,Bool.false_or])) (by unfold exC;(repeat first | rw[if_pos om] | rw[if_neg om])) (by unfold exE;rw[if_neg om]) om S166)
  have fk25:i.gOp=22:=by omega
  refine J.h 6 [false] [] [] 271 (.bool (i.gOp==22)) (.bool true) (congrArg Value.bool (beq_iff_eq.2 fk25))<|J.r 2 [true] [] []<|J.drawStill S13 8 Tryz.mixed kr kr kr ?_
  intro w133 S167
  refine SL.r 273 (.pointer (some ⟨b3,4,none⟩))<|SL.lb S167 1 rfl 274 (iv i.gK)<|SL.r 275 (iv (IntKind.wrap .i64 (Int.tdiv i.gK 32)))<|SL.head (iv (i.gK/32)) (congrArg (Value.int .i64) (IntWalk.i64_quo _ _ om))<|SL.r 276 (.pointer (some ⟨b3,4,none⟩))<|SL.lb S167 1 rfl 277 (iv i.gK)<|SL.r 278 (iv (Int.tmod i.gK 32))<|SL.head (iv (i.gK%32)) (congrArg (Value.int .i64) (IntWalk.rem_in _ _ om))<|SL.r 20 (iv (i.gK/32))<|SL.r 21 (iv (i.gK%32))<|SL.done ?_
  refine TL.done kr<|J.r 1 [] [] [] ?_
  obtain ⟨p16,hp16⟩:=bK (S167.nth 4 rfl) (show 0<(cs).length by first | omega | (simp;omega))
  obtain ⟨p17,hp17⟩:=bK (S167.nth 4 rfl) (show 0<(cs).length by first | omega | (simp;omega))
  refine J.drawPlan (fun w_=>Sep w0 (bz b4 b3 i b2 rs ra n rc b1 p cs L0) w_) [(0,true),(1,true),(2,true),(3,true),(4,true),(5,true),(6,true),(7,true),(8,true),(9,true),(10,true),(11,true),(12,false),(13,false)] S167 Tryz.mixed kr (aE (T:=[(0,some 279,16),(1,some 280,971334446112864535459730953411759453321203419526069760625906204869452142602604249088),(0,some 281,1048576),(6,some 282,5828006676677187212758385720470556719927220517156418563755437229216712855615625494528),(8,some 283,7770675568902916283677847627294075626569627356208558085007249638955617140820833992704),(0,some 284,16),(32,some 285,31082702275611665134711390509176302506278509424834232340028998555822468563283335970816),(0,some 286,1048576),(128,some 287,124330809102446660538845562036705210025114037699336929360115994223289874253133343883264),(320,some 288,310827022756116651347113905091763025062785094248342323400289985558224685632833359708160),(512,some 289,497323236409786642155382248146820840100456150797347717440463976893159497012533375533056),(1040,some 290,1010187823957379116878120191548229831454051556307112551050942453064230228306708419051520),(0,some 22,0),(8191,none,1989292945639146568621528992587283360401824603189390869761855907572637988050133506326528)]) kr kr) ?_
  intro w134 S168
  refine PB.mk S168<|PL.take 0 279 (.pointer (some ⟨b2,16,none⟩)) (fun _ _=>kr)<|PL.takeOK 1 (fun w_ S_=>OK.ldMt S_ 2 rfl 280 26 16 aS0) rfl<|PL.take 2 281 (iv (i.gK/32)) (fun _ _=>kr)<|PL.takeOK 3 (fun w_ S_=>OK.index 282 26 1 ra p16 n (i.gK/32).toNat (i.gK/32) (p16.add (i.gK/32).toNat) kr kr hp16 om oz nO) rfl<|PL.takeOK 4 (fun w_ S_=>OK.ldCell 283 3 (p16.add (i.gK/32).toNat) (iv (cs.getD (i.gK/32).toNat 0)) kr kr (ct (g:=(Value.int .i64)) S_ 4 rfl hp16 0 (i.gK/32).toNat oz)) rfl<|PL.take 5 284 (.pointer (some ⟨b2,16,none⟩)) (fun _ _=>kr)<|PL.takeOK 6 (fun w_ S_=>OK.ldMt S_ 2 rfl 285 26 16 aS0) rfl<|PL.take 7 286 (iv (i.gK/32)) (fun _ _=>kr)<|PL.take 8 287 (iv (IntKind.wrap .i64 ((i.gK/32)+1))) (fun _ _=>kr)<|PL.head (iv ((i.gK/32)+1)) (congrArg (Value.int .i64) (IntWalk.i64_in _ om)) ?_
  refine PL.takeOK 9 (fun w_ S_=>OK.index 288 26 1 ra p17 n ((i.gK/32)+1).toNat ((i.gK/32)+1) (p17.add ((i.gK/32)+1).toNat) kr kr hp17 om oz nO) rfl<|PL.takeOK 10 (fun w_ S_=>OK.ldCell 289 3 (p17.add ((i.gK/32)+1).toNat) (iv (cs.getD ((i.gK/32)+1).toNat 0)) kr kr (ct (g:=(Value.int .i64)) S_ 4 rfl hp17 0 ((i.gK/32)+1).toNat oz)) rfl<|PL.take 11 290 (.agg #[iv (cs.getD (i.gK/32).toNat 0),iv (cs.getD ((i.gK/32)+1).toNat 0)]) (fun _ _=>kr)<|PL.new S168 22 [iv 0,iv 0] 114 kr ?_
  intro b5 w135 S169
  refine PB.mk (S169.erase 0)<|PL.stBox S169 0 114 0 (.agg #[iv (cs.getD (i.gK/32).toNat 0),iv (cs.getD ((i.gK/32)+1).toNat 0)]) [iv (cs.getD (i.gK/32).toNat 0),iv (cs.getD ((i.gK/32)+1).toNat 0)] (box b5 [iv (cs.getD (i.gK/32).toNat 0),iv (cs.getD ((i.gK/32)+1).toNat 0)] 114::(bz b4 b3 i b2 rs ra n rc b1 p cs L0)) kr rfl kr kr rfl ?_
  intro w136 S170
  refine PB.mk (S170.erase 0)<|PL.done<|J.lb 3 [] [] [] S170 0 rfl 291 (.agg #[iv (cs.getD (i.gK/32).toNat 0),iv (cs.getD ((i.gK/32)+1).toNat 0)])<|J.c0 1 [] [] [] S170 293 hb77 (rvallag_any (cs.getD (i.gK/32).toNat 0) (cs.getD ((i.gK/32)+1).toNat 0) (i.gK%32) _ om) fun w137 S171=>J.bn 2 [] [] [] 294 (lagB (cs.getD (i.gK/32).toNat 0) (cs.getD ((i.gK/32)+1).toNat 0) (i.gK%32)) (fun fk26=>?_) fun fk26=>?_
  have fb7:=lagB_facts fk26
  refine J.r 3 [false] [] [] ?_
  replace S171:Sep w0 (box b5 [iv (cs.getD (i.gK/32).toNat 0),iv (cs.getD ((i.gK/32)+1).toNat 0)] 114::(K40H3 b4 b3 i b2 rs ra n rc b1 p cs L0)) w137:=S171
  have W38:∀ (w138:World),Sep w0 (box b5 [iv (eg (cs.getD (i.gK/32).toNat 0) (cs.getD ((i.gK/32)+1).toNat 0) (min (max (gX rs i) (-1099511627776)) 1099511627776) (i.gK%32)),iv (lagR (cs.getD (i.gK/32).toNat 0) (cs.getD ((i.gK/32)+1).toNat 0) (min (max (gX rs i) (-1099511627776)) 1099511627776) (i.gK%32))] 114::(K40H3 b4 b3 i b2 rs ra n rc b1 p cs L0)) w138→WA prog 40 322 R K40_5 (fun w_=>Sep w0 (K40H3 b4 b3 i b2 rs ra n rc b1 p cs L0) w_) 0 (bA 6 63) [(4,pv b2),(5,pv b3),(6,pv b4),(20,iv (i.gK/32)),(22,pv b5)] w138:=by
   intro w138 S172
   refine WA.done kr<|J.r 3 [] [(301,.pointer (some ⟨b2,16,none⟩))] []<|J.ok (OK.ldMt S172 3 rfl 302 26 16 aS0)<|J.lb 2 [] [(303,iv (i.gK/32))] [] S172 0 rfl 305 (iv (eg (cs.getD (i.gK/32).toNat 0) (cs.getD ((i.gK/32)+1).toNat 0) (min (max (gX rs i) (-1099511627776)) 1099511627776) (i.gK%32)))<|J.ok (OK.index 306 26 1 ra p16 n (i.gK/32).toNat (i.gK/32) (p16.add (i.gK/32).toNat) kr kr hp16 om oz nO)<|J.stRow1 (Value.int .i64) (dO _) S172 5 cs 3 p16 (i.gK/32).toNat (eg (cs.getD (i.gK/32).toNat 0) (cs.getD ((i.gK/32)+1).toNat 0) (min (max (gX rs i) (-1099511627776)) 1099511627776) (i.gK%32)) rfl kr hp16 oz kr ?_
   intro w139 S173
   replace S173:Sep w0 (box b5 [iv (eg (cs.getD (i.gK/32).toNat 0) (cs.getD ((i.gK/32)+1).toNat 0) (min (max (gX rs i) (-1099511627776)) 1099511627776) (i.gK%32)),iv (lagR (cs.getD (i.gK/32).toNat 0) (cs.getD ((i.gK/32)+1).toNat 0) (min (max (gX rs i) (-1099511627776)) 1099511627776) (i.gK%32))] 114::box b4 (mxC (List.replicate 16 (0:Int)) [.slice none 0 0]) 44::box b3 (aZ i) 64::box b2 (mxC rs [.slice ra n rc]) 44::box b1 (aO p) 28::ak aA ra rc 3 1 (cs.set (i.gK/32).toNat (eg (cs.getD (i.gK/32).toNat 0) (cs.getD ((i.gK/32)+1).toNat 0) (min (max (gX rs i) (-1099511627776)) 1099511627776) (i.gK%32)))::L0) w139:=S173
   refine J.r 4 [] [(307,.pointer (some ⟨b2,16,none⟩))] []<|J.ok (OK.ldMt S173 3 rfl 308 26 16 aS0)<|J.wi 2 [] [] [] 310 ((i.gK/32)+1)<|J.lb 1 [] [] [] S173 0 rfl 312 (iv (lagR (cs.getD (i.gK/32).toNat 0) (cs.getD ((i.gK/32)+1).toNat 0) (min (max (gX rs i) (-1099511627776)) 1099511627776) (i.gK%32)))<|J.ok (OK.index 313 26 1 ra p17 n ((i.gK/32)+1).toNat ((i.gK/32)+1) (p17.add ((i.gK/32)+1).toNat) kr kr hp17 om oz nO)<|J.stRow1 (Value.int .i64) (dO _) S173 5 (cs.set (i.gK/32).toNat (eg (cs.getD (i.gK/32).toNat 0) (cs.getD ((i.gK/32)+1).toNat 0) (min (max (gX rs i) (-1099511627776)) 1099511627776) (i.gK%32))) 3 p17 ((i.gK/32)+1).toNat (lagR (cs.getD (i.gK/32).toNat 0) (cs.getD ((i.gK/32)+1).toNat 0) (min (max (gX rs i) (-1099511627776)) 1099511627776) (i.gK%32)) rfl kr hp17 oz kr ?_
   intro w140 S174
   replace S174:Sep w0 (box b5 [iv (eg (cs.getD (i.gK/32).toNat 0) (cs.getD ((i.gK/32)+1).toNat 0) (min (max (gX rs i) (-1099511627776)) 1099511627776) (i.gK%32)),iv (lagR (cs.getD (i.gK/32).toNat 0) (cs.getD ((i.gK/32)+1).toNat 0) (min (max (gX rs i) (-1099511627776)) 1099511627776) (i.gK%32))] 114::box b4 (mxC (List.replicate 16 (0:Int)) [.slice none 0 0]) 44::box b3 (aZ i) 64::box b2 (mxC rs [.slice ra n rc]) 44::box b1 (aO p) 28::ak aA ra rc 3 1 ((cs.set (i.gK/32).toNat (eg (cs.getD (i.gK/32).toNat 0) (cs.getD ((i.gK/32)+1).toNat 0) (min (max (gX rs i) (-1099511627776)) 1099511627776) (i.gK%32))).set ((i.gK/32)+1).toNat (lagR (cs.getD (i.gK/32).toNat 0) (cs.getD ((i.gK/32)+1).toNat 0) (min (max (gX rs i) (-1099511627776)) 1099511627776) (i.gK%32)))::L0) w140:=S174
   exact J.lb 3 [] [] [] S174 0 rfl 315 (iv (eg (cs.getD (i.gK/32).toNat 0) (cs.getD ((i.gK/32)+1).toNat 0) (min (max (gX rs i) (-1099511627776)) 1099511627776) (i.gK%32)))<|J.t 3 (X1 (eg (cs.getD (i.gK/32).toNat 0) (cs.getD ((i.gK/32)+1).toNat 0) (min (max (gX rs i) (-1099511627776)) 1099511627776) (i.gK%32)) ((cs.set (i.gK/32).toNat (eg (cs.getD (i.gK/32).toNat 0) (cs.getD ((i.gK/32)+1).toNat 0) (min (max (gX rs i) (-1099511627776)) 1099511627776) (i.gK%32))).set ((i.gK/32)+1).toNat (lagR (cs.getD (i.gK/32).toNat 0) (cs.getD ((i.gK/32)+1).toNat 0) (min (max (gX rs i) (-1099511627776)) 1099511627776) (i.gK%32))) w140 (by unfold exV;(repeat first | rw[if_pos om] | rw[if_neg om]);unfold lgY;rw[show lgOK i cs=true from fk26];rfl) (by unfold exC;rw[if_neg om,if_pos om];unfold lgC lgY lgR;rw[show lgOK i cs=true from fk26];rfl) (by unfold exE;rw[if_neg om]) om (S174.erase 0))
  have W39:∀ (w141:World),Sep w0 (box b5 [iv (cs.getD (i.gK/32).toNat 0),iv (cs.getD ((i.gK/32)+1).toNat 0)] 114::(K40H3 b4 b3 i b2 rs ra n rc b1 p cs L0)) w141→WA prog 40 322 R K40_5 (fun w_=>Sep w0 (K40H3 b4 b3 i b2 rs ra n rc b1 p cs L0) w_) 1 (bA 6 31) [(4,pv b2),(5,pv b3),(6,pv b4),(20,iv (i.gK/32)),(22,pv b5),(300,.agg #[iv (eg (cs.getD (i.gK/32).toNat 0) (cs.getD ((i.gK/32)+1).toNat 0) (min (max (gX rs i) (-1099511627776)) 1099511627776) (i.gK%32)),iv (lagR (cs.getD (i.gK/32).toNat 0) (cs.getD ((i.gK/32)+1).toNat 0) (min (max (gX rs i) (-1099511627776)) 1099511627776) (i.gK%32))])] w141:=by
   intro w141 S175
   refine WA.all [5] kr rfl ⟨?_,trivial⟩
   refine WO.set (bA 6 63) kr<|WO.stBox S175 0 114 0 (.agg #[iv (eg (cs.getD (i.gK/32).toNat 0) (cs.getD ((i.gK/32)+1).toNat 0) (min (max (gX rs i) (-1099511627776)) 1099511627776) (i.gK%32)),iv (lagR (cs.getD (i.gK/32).toNat 0) (cs.getD ((i.gK/32)+1).toNat 0) (min (max (gX rs i) (-1099511627776)) 1099511627776) (i.gK%32))]) [iv (eg (cs.getD (i.gK/32).toNat 0) (cs.getD ((i.gK/32)+1).toNat 0) (min (max (gX rs i) (-1099511627776)) 1099511627776) (i.gK%32)),iv (lagR (cs.getD (i.gK/32).toNat 0) (cs.getD ((i.gK/32)+1).toNat 0) (min (max (gX rs i) (-1099511627776)) 1099511627776) (i.gK%32))] (box b5 [iv (eg (cs.getD (i.gK/32).toNat 0) (cs.getD ((i.gK/32)+1).toNat 0) (min (max (gX rs i) (-1099511627776)) 1099511627776) (i.gK%32)),iv (lagR (cs.getD (i.gK/32).toNat 0) (cs.getD ((i.gK/32)+1).toNat 0) (min (max (gX rs i) (-1099511627776)) 1099511627776) (i.gK%32))] 114::(K40H3 b4 b3 i b2 rs ra n rc b1 p cs L0)) kr rfl kr kr rfl ?_
   intro w142 S176
   exact WB.mk (S176.erase 0)<|WA.weaken kr (W38 w142 S176)
  have W40:∀ (w143:World),Sep w0 (box b5 [iv (cs.getD (i.gK/32).toNat 0),iv (cs.getD ((i.gK/32)+1).toNat 0)] 114::(K40H3 b4 b3 i b2 rs ra n rc b1 p cs L0)) w143→WA prog 40 322 R K40_5 (fun w_=>Sep w0 (K40H3 b4 b3 i b2 rs ra n rc b1 p cs L0) w_) 2 (bA 6 15) [(4,pv b2),(5,pv b3),(6,pv b4),(20,iv (i.gK/32)),(22,pv b5),(296,.agg #[iv (cs.getD (i.gK/32).toNat 0),iv (cs.getD ((i.gK/32)+1).toNat 0)]),(298,iv (min (max (gX rs i) (-1099511627776)) 1099511627776)),(299,iv (i.gK%32))] w143:=by
   intro w143 S177
   refine WA.all [4] kr rfl ⟨?_,trivial⟩
   refine WO.set (bA 6 31) kr<|WO.callF 300 78 #[.agg #[iv (cs.getD (i.gK/32).toNat 0),iv (cs.getD ((i.gK/32)+1).toNat 0)],iv (min (max (gX rs i) (-1099511627776)) 1099511627776),iv (i.gK%32)] hb78 kr (rlag_any (cs.getD (i.gK/32).toNat 0) (cs.getD ((i.gK/32)+1).toNat 0) (min (max (gX rs i) (-1099511627776)) 1099511627776) (i.gK%32) _ om om om om) ?_
   rintro _ w144 ⟨rfl,T34⟩
   exact WB.mk ((S177.trans T34).erase 0)<|WA.weaken kr (W39 w144 (S177.trans T34))
  have W41:∀ (w145:World),Sep w0 (box b5 [iv (cs.getD (i.gK/32).toNat 0),iv (cs.getD ((i.gK/32)+1).toNat 0)] 114::(K40H3 b4 b3 i b2 rs ra n rc b1 p cs L0)) w145→WA prog 40 322 R K40_5 (fun w_=>Sep w0 (K40H3 b4 b3 i b2 rs ra n rc b1 p cs L0) w_) 3 (bA 6 11) [(4,pv b2),(5,pv b3),(6,pv b4),(20,iv (i.gK/32)),(22,pv b5),(296,.agg #[iv (cs.getD (i.gK/32).toNat 0),iv (cs.getD ((i.gK/32)+1).toNat 0)]),(297,iv (gX rs i)),(299,iv (i.gK%32))] w145:=by
   intro w145 S179
   refine WA.all [2] kr rfl ⟨?_,trivial⟩
   refine WO.set (bA 6 15) kr<|WO.callF 298 79 #[iv (gX rs i),iv (-1099511627776),iv 1099511627776] hb79 kr (rclamp_any (gX rs i) (-1099511627776) 1099511627776 _) ?_
   rintro _ w146 ⟨rfl,T35⟩
   exact WB.mk ((S179.trans T35).erase 0)<|WA.weaken kr (W40 w146 (S179.trans T35))
  have W42:∀ (w147:World),Sep w0 (box b5 [iv (cs.getD (i.gK/32).toNat 0),iv (cs.getD ((i.gK/32)+1).toNat 0)] 114::(K40H3 b4 b3 i b2 rs ra n rc b1 p cs L0)) w147→WA prog 40 322 R K40_5 (fun w_=>Sep w0 (K40H3 b4 b3 i b2 rs ra n rc b1 p cs L0) w_) 3 (bA 6 14) [(4,pv b2),(5,pv b3),(6,pv b4),(20,iv (i.gK/32)),(22,pv b5),(298,iv (min (max (gX rs i) (-1099511627776)) 1099511627776)),(299,iv (i.gK%32))] w147:=by
   intro w147 S181
   refine WA.all [0] kr rfl ⟨?_,trivial⟩
   exact WO.set (bA 6 15) kr<|WO.ok (OK.ldBox S181 0 296 114 0 (.agg #[iv (cs.getD (i.gK/32).toNat 0),iv (cs.getD ((i.gK/32)+1).toNat 0)]) kr rfl kr)<|WB.mk (S181.erase 0)<|WA.weaken kr (W40 w147 S181)
  have W43:∀ (w148:World),Sep w0 (box b5 [iv (cs.getD (i.gK/32).toNat 0),iv (cs.getD ((i.gK/32)+1).toNat 0)] 114::(K40H3 b4 b3 i b2 rs ra n rc b1 p cs L0)) w148→WA prog 40 322 R K40_5 (fun w_=>Sep w0 (K40H3 b4 b3 i b2 rs ra n rc b1 p cs L0) w_) 4 (bA 6 10) [(4,pv b2),(5,pv b3),(6,pv b4),(20,iv (i.gK/32)),(22,pv b5),(297,iv (gX rs i)),(299,iv (i.gK%32))] w148:=by
   intro w148 S182
   refine WA.all [0,2] kr rfl ⟨?_,?_,trivial⟩
   exact WO.set (bA 6 11) kr<|WO.ok (OK.ldBox S182 0 296 114 0 (.agg #[iv (cs.getD (i.gK/32).toNat 0),iv (cs.getD ((i.gK/32)+1).toNat 0)]) kr rfl kr)<|WB.mk (S182.erase 0)<|WA.weaken kr (W41 w148 S182)
   refine WO.set (bA 6 14) kr<|WO.callF 298 79 #[iv (gX rs i),iv (-1099511627776),iv 1099511627776] hb79 kr (rclamp_any (gX rs i) (-1099511627776) 1099511627776 _) ?_
   rintro _ w149 ⟨rfl,T36⟩
   exact WB.mk ((S182.trans T36).erase 0)<|WA.weaken kr (W42 w149 (S182.trans T36))
  refine J.drawAny (fun w_=>Sep w0 (K40H3 b4 b3 i b2 rs ra n rc b1 p cs L0) w_) S171 6 (bA 6 0) Tryz.mixed kr kr kr ?_
  intro w150 S184
  exact WB.mk (S184.erase 0)<|WA.take 1 297 (iv (gX rs i)) (bA 6 2) kr kr kr (fun _ _=>kr) kr<|WA.take 3 299 (iv (i.gK%32)) (bA 6 10) kr kr kr (fun _ _=>kr) kr<|WA.weaken (env':=[(4,pv b2),(5,pv b3),(6,pv b4),(20,iv (i.gK/32)),(22,pv b5),(297,iv (gX rs i)),(299,iv (i.gK%32))]) kr<|W43 w150 S184
  have fb8:=pow_20 (i.gK%32) om
  refine J.sb 3 [true] [] [] S171 0 rfl [iv 0,iv 0] rfl fun w151 S185=>J.r 2 [] [] [] ?_
  replace S185:Sep w0 (box b5 [iv 0,iv 0] 114::(K40H4 b4 b3 i b2 rs ra n rc b1 p cs L0)) w151:=S185
  have W44:∀ (w152:World),Sep w0 (box b5 [iv (eg 0 0 (min (max (gX rs i) (-1099511627776)) 1099511627776) (i.gK%32)),iv (lagR 0 0 (min (max (gX rs i) (-1099511627776)) 1099511627776) (i.gK%32))] 114::(K40H4 b4 b3 i b2 rs ra n rc b1 p cs L0)) w152→WA prog 40 322 R K40_6 (fun w_=>Sep w0 (K40H4 b4 b3 i b2 rs ra n rc b1 p cs L0) w_) 0 (bA 6 63) [(4,pv b2),(5,pv b3),(6,pv b4),(20,iv (i.gK/32)),(22,pv b5)] w152:=by
   intro w152 S186
   refine WA.done kr<|J.r 3 [] [(301,.pointer (some ⟨b2,16,none⟩))] []<|J.ok (OK.ldMt S186 3 rfl 302 26 16 aS0)<|J.lb 2 [] [(303,iv (i.gK/32))] [] S186 0 rfl 305 (iv (eg 0 0 (min (max (gX rs i) (-1099511627776)) 1099511627776) (i.gK%32)))<|J.ok (OK.index 306 26 1 ra p16 n (i.gK/32).toNat (i.gK/32) (p16.add (i.gK/32).toNat) kr kr hp16 om oz nO)<|J.stRow1 (Value.int .i64) (dO _) S186 5 cs 3 p16 (i.gK/32).toNat (eg 0 0 (min (max (gX rs i) (-1099511627776)) 1099511627776) (i.gK%32)) rfl kr hp16 oz kr ?_
   intro w153 S187
   replace S187:Sep w0 (box b5 [iv (eg 0 0 (min (max (gX rs i) (-1099511627776)) 1099511627776) (i.gK%32)),iv (lagR 0 0 (min (max (gX rs i) (-1099511627776)) 1099511627776) (i.gK%32))] 114::box b4 (mxC (List.replicate 16 (0:Int)) [.slice none 0 0]) 44::box b3 (aZ i) 64::box b2 (mxC rs [.slice ra n rc]) 44::box b1 (aO p) 28::ak aA ra rc 3 1 (cs.set (i.gK/32).toNat (eg 0 0 (min (max (gX rs i) (-1099511627776)) 1099511627776) (i.gK%32)))::L0) w153:=S187
   refine J.r 4 [] [(307,.pointer (some ⟨b2,16,none⟩))] []<|J.ok (OK.ldMt S187 3 rfl 308 26 16 aS0)<|J.wi 2 [] [] [] 310 ((i.gK/32)+1)<|J.lb 1 [] [] [] S187 0 rfl 312 (iv (lagR 0 0 (min (max (gX rs i) (-1099511627776)) 1099511627776) (i.gK%32)))<|J.ok (OK.index 313 26 1 ra p17 n ((i.gK/32)+1).toNat ((i.gK/32)+1) (p17.add ((i.gK/32)+1).toNat) kr kr hp17 om oz nO)<|J.stRow1 (Value.int .i64) (dO _) S187 5 (cs.set (i.gK/32).toNat (eg 0 0 (min (max (gX rs i) (-1099511627776)) 1099511627776) (i.gK%32))) 3 p17 ((i.gK/32)+1).toNat (lagR 0 0 (min (max (gX rs i) (-1099511627776)) 1099511627776) (i.gK%32)) rfl kr hp17 oz kr ?_
   intro w154 S188
   replace S188:Sep w0 (box b5 [iv (eg 0 0 (min (max (gX rs i) (-1099511627776)) 1099511627776) (i.gK%32)),iv (lagR 0 0 (min (max (gX rs i) (-1099511627776)) 1099511627776) (i.gK%32))] 114::box b4 (mxC (List.replicate 16 (0:Int)) [.slice none 0 0]) 44::box b3 (aZ i) 64::box b2 (mxC rs [.slice ra n rc]) 44::box b1 (aO p) 28::ak aA ra rc 3 1 ((cs.set (i.gK/32).toNat (eg 0 0 (min (max (gX rs i) (-1099511627776)) 1099511627776) (i.gK%32))).set ((i.gK/32)+1).toNat (lagR 0 0 (min (max (gX rs i) (-1099511627776)) 1099511627776) (i.gK%32)))::L0) w154:=S188
   exact J.lb 3 [] [] [] S188 0 rfl 315 (iv (eg 0 0 (min (max (gX rs i) (-1099511627776)) 1099511627776) (i.gK%32)))<|J.t 3 (X1 (eg 0 0 (min (max (gX rs i) (-1099511627776)) 1099511627776) (i.gK%32)) ((cs.set (i.gK/32).toNat (eg 0 0 (min (max (gX rs i) (-1099511627776)) 1099511627776) (i.gK%32))).set ((i.gK/32)+1).toNat (lagR 0 0 (min (max (gX rs i) (-1099511627776)) 1099511627776) (i.gK%32))) w154 (by unfold exV;(repeat first | rw[if_pos om] | rw[if_neg om]);unfold lgY;rw[show lgOK i cs=false from fk26];rfl) (by unfold exC;rw[if_neg om,if_pos om];unfold lgC lgY lgR;rw[show lgOK i cs=false from fk26];rfl) (by unfold exE;rw[if_neg om]) om (S188.erase 0))
  have W45:∀ (w155:World),Sep w0 (box b5 [iv 0,iv 0] 114::(K40H4 b4 b3 i b2 rs ra n rc b1 p cs L0)) w155→WA prog 40 322 R K40_6 (fun w_=>Sep w0 (K40H4 b4 b3 i b2 rs ra n rc b1 p cs L0) w_) 1 (bA 6 31) [(4,pv b2),(5,pv b3),(6,pv b4),(20,iv (i.gK/32)),(22,pv b5),(300,.agg #[iv (eg 0 0 (min (max (gX rs i) (-1099511627776)) 1099511627776) (i.gK%32)),iv (lagR 0 0 (min (max (gX rs i) (-1099511627776)) 1099511627776) (i.gK%32))])] w155:=by
   intro w155 S189
   refine WA.all [5] kr rfl ⟨?_,trivial⟩
   refine WO.set (bA 6 63) kr<|WO.stBox S189 0 114 0 (.agg #[iv (eg 0 0 (min (max (gX rs i) (-1099511627776)) 1099511627776) (i.gK%32)),iv (lagR 0 0 (min (max (gX rs i) (-1099511627776)) 1099511627776) (i.gK%32))]) [iv (eg 0 0 (min (max (gX rs i) (-1099511627776)) 1099511627776) (i.gK%32)),iv (lagR 0 0 (min (max (gX rs i) (-1099511627776)) 1099511627776) (i.gK%32))] (box b5 [iv (eg 0 0 (min (max (gX rs i) (-1099511627776)) 1099511627776) (i.gK%32)),iv (lagR 0 0 (min (max (gX rs i) (-1099511627776)) 1099511627776) (i.gK%32))] 114::(K40H4 b4 b3 i b2 rs ra n rc b1 p cs L0)) kr rfl kr kr rfl ?_
   intro w156 S190
   exact WB.mk (S190.erase 0)<|WA.weaken kr (W44 w156 S190)
  have W46:∀ (w157:World),Sep w0 (box b5 [iv 0,iv 0] 114::(K40H4 b4 b3 i b2 rs ra n rc b1 p cs L0)) w157→WA prog 40 322 R K40_6 (fun w_=>Sep w0 (K40H4 b4 b3 i b2 rs ra n rc b1 p cs L0) w_) 2 (bA 6 15) [(4,pv b2),(5,pv b3),(6,pv b4),(20,iv (i.gK/32)),(22,pv b5),(296,.agg #[iv 0,iv 0]),(298,iv (min (max (gX rs i) (-1099511627776)) 1099511627776)),(299,iv (i.gK%32))] w157:=by
   intro w157 S191
   refine WA.all [4] kr rfl ⟨?_,trivial⟩
   refine WO.set (bA 6 31) kr<|WO.callF 300 78 #[.agg #[iv 0,iv 0],iv (min (max (gX rs i) (-1099511627776)) 1099511627776),iv (i.gK%32)] hb78 kr (rlag_any 0 0 (min (max (gX rs i) (-1099511627776)) 1099511627776) (i.gK%32) _ om om om om) ?_
   rintro _ w158 ⟨rfl,T37⟩
   exact WB.mk ((S191.trans T37).erase 0)<|WA.weaken kr (W45 w158 (S191.trans T37))
  have W47:∀ (w159:World),Sep w0 (box b5 [iv 0,iv 0] 114::(K40H4 b4 b3 i b2 rs ra n rc b1 p cs L0)) w159→WA prog 40 322 R K40_6 (fun w_=>Sep w0 (K40H4 b4 b3 i b2 rs ra n rc b1 p cs L0) w_) 3 (bA 6 11) [(4,pv b2),(5,pv b3),(6,pv b4),(20,iv (i.gK/32)),(22,pv b5),(296,.agg #[iv 0,iv 0]),(297,iv (gX rs i)),(299,iv (i.gK%32))] w159:=by
   intro w159 S193
   refine WA.all [2] kr rfl ⟨?_,trivial⟩
   refine WO.set (bA 6 15) kr<|WO.callF 298 79 #[iv (gX rs i),iv (-1099511627776),iv 1099511627776] hb79 kr (rclamp_any (gX rs i) (-1099511627776) 1099511627776 _) ?_
   rintro _ w160 ⟨rfl,T38⟩
   exact WB.mk ((S193.trans T38).erase 0)<|WA.weaken kr (W46 w160 (S193.trans T38))
  have W48:∀ (w161:World),Sep w0 (box b5 [iv 0,iv 0] 114::(K40H4 b4 b3 i b2 rs ra n rc b1 p cs L0)) w161→WA prog 40 322 R K40_6 (fun w_=>Sep w0 (K40H4 b4 b3 i b2 rs ra n rc b1 p cs L0) w_) 3 (bA 6 14) [(4,pv b2),(5,pv b3),(6,pv b4),(20,iv (i.gK/32)),(22,pv b5),(298,iv (min (max (gX rs i) (-1099511627776)) 1099511627776)),(299,iv (i.gK%32))] w161:=by
   intro w161 S195
   refine WA.all [0] kr rfl ⟨?_,trivial⟩
   exact WO.set (bA 6 15) kr<|WO.ok (OK.ldBox S195 0 296 114 0 (.agg #[iv 0,iv 0]) kr rfl kr)<|WB.mk (S195.erase 0)<|WA.weaken kr (W46 w161 S195)
  have W49:∀ (w162:World),Sep w0 (box b5 [iv 0,iv 0] 114::(K40H4 b4 b3 i b2 rs ra n rc b1 p cs L0)) w162→WA prog 40 322 R K40_6 (fun w_=>Sep w0 (K40H4 b4 b3 i b2 rs ra n rc b1 p cs L0) w_) 4 (bA 6 10) [(4,pv b2),(5,pv b3),(6,pv b4),(20,iv (i.gK/32)),(22,pv b5),(297,iv (gX rs i)),(299,iv (i.gK%32))] w162:=by
   intro w162 S196
   refine WA.all [0,2] kr rfl ⟨?_,?_,trivial⟩
   exact WO.set (bA 6 11) kr<|WO.ok (OK.ldBox S196 0 296 114 0 (.agg #[iv 0,iv 0]) kr rfl kr)<|WB.mk (S196.erase 0)<|WA.weaken kr (W47 w162 S196)
   refine WO.set (bA 6 14) kr<|WO.callF 298 79 #[iv (gX rs i),iv (-1099511627776),iv 1099511627776] hb79 kr (rclamp_any (gX rs i) (-1099511627776) 1099511627776 _) ?_
   rintro _ w163 ⟨rfl,T39⟩
   exact WB.mk ((S196.trans T39).erase 0)<|WA.weaken kr (W48 w163 (S196.trans T39))
  refine J.drawAny (fun w_=>Sep w0 (K40H4 b4 b3 i b2 rs ra n rc b1 p cs L0) w_) S185 6 (bA 6 0) Tryz.mixed kr kr kr ?_
  intro w164 S198
  exact WB.mk (S198.erase 0)<|WA.take 1 297 (iv (gX rs i)) (bA 6 2) kr kr kr (fun _ _=>kr) kr<|WA.take 3 299 (iv (i.gK%32)) (bA 6 10) kr kr kr (fun _ _=>kr) kr<|WA.weaken (env':=[(4,pv b2),(5,pv b3),(6,pv b4),(20,iv (i.gK/32)),(22,pv b5),(297,iv (gX rs i)),(299,iv (i.gK%32))]) kr<|W49 w164 S198
 refine J.c 7 [false] [] [] 71 (i.gOp=5) (fun fk27=>?_) fun fk27=>?_
 exact J.t 2 (X2 true w6 (⟨fun h_=>by first | (cases h_;done) | (have h2_:=of_decide_eq_true h_;omega) | (have h2_:=beq_iff_eq.1 h_;omega) | omega,fun h_=>by first | (cases h_;done) | (have h2_:=of_decide_eq_false h_;omega) | (have h2_:=beq_eq_false_iff_ne.1 h_;omega) | omega⟩) S6)
 refine J.c 6 [false] [] [71] 71 (i.gOp=6) (fun fk28=>?_) fun fk28=>?_
 exact J.t 2 (X2 true w6 (⟨fun h_=>by first | (cases h_;done) | (have h2_:=of_decide_eq_true h_;omega) | (have h2_:=beq_iff_eq.1 h_;omega) | omega,fun h_=>by first | (cases h_;done) | (have h2_:=of_decide_eq_false h_;omega) | (have h2_:=beq_eq_false_iff_ne.1 h_;omega) | omega⟩) S6)
 refine J.c 6 [false] [] [71] 71 (i.gOp=7) (fun fk29=>?_) fun fk29=>?_
 exact J.t 2 (X2 true w6 (⟨fun h_=>by first | (cases h_;done) | (have h2_:=of_decide_eq_true h_;omega) | (have h2_:=beq_iff_eq.1 h_;omega) | omega,fun h_=>by first | (cases h_;done) | (have h2_:=of_decide_eq_false h_;omega) | (have h2_:=beq_eq_false_iff_ne.1 h_;omega) | omega⟩) S6)
 exact J.t 5 (X2 (i.gOp==8) w6 (⟨fun h_=>by first | (cases h_;done) | (have h2_:=of_decide_eq_true h_;omega) | (have h2_:=beq_iff_eq.1 h_;omega) | omega,fun h_=>by first | (cases h_;done) | (have h2_:=of_decide_eq_false h_;omega) | (have h2_:=beq_eq_false_iff_ne.1 h_;omega) | omega⟩) S6)
 refine J.h 1 [] [] [] 36 (iv (if 0>i.gK then 0 else i.gK)) (iv 0) (congrArg (Value.int .i64) om)<|J.c0 0 [] [] [] S5 37 hb37 (rtypes_any 0 _ om) fun w165 S199=>J.lb 16 [] [(13,iv 0),(12,iv (0%128)),(11,iv (0/128%128)),(10,iv (0/16384))] [] S199 1 rfl 42 (iv i.gOp) ?_
 have X3:∀ (out:Int) (cl:List Int) (w166:World),(out=exV p i rs cs)→(cl=exC i rs cs)→(exE p i rs=0)→(i.gOp≠3)→Sep w0 (box b4 (mxC (List.replicate 16 (0:Int)) [.slice none 0 0]) 44::box b3 (aZ i) 64::box b2 (mxC rs [.slice ra n rc]) 44::box b1 (aO p) 28::ak aA ra rc 3 1 cl::L0) w166→J prog 40 322 R K40_7 [(6,pv b4),(5,pv b3),(4,pv b2),(13,iv out)] w166:=by
  intro out cl w166 hout hcl hz hop S200
  refine J.lb 3 [] [] [] S200 1 rfl 317 (iv i.gA)<|J.r 2 [] [(319,pv b2),(318,iv out)] []<|J.ok (OK.indexP 320 42 16 1 b2 0 ((i.gA).toNat) i.gA kr kr om om)<|J.head (.pointer (some ⟨b2,(i.gA).toNat,none⟩)) zO<|J.stMi S200 2 rfl 3 ((i.gA).toNat) out rfl fun w167 S201=>J.r 3 [] [] []<|J.ok (OK.ldM S201 2 rfl 321 44 16 sA)<|J.stM S201 0 rfl 16 (rs.set ((i.gA).toNat) out) [.slice ra n rc] rfl rfl sA fun w168 S202=>J.r 2 [] [(7,iv 0)] []<|J.ret Tryz.f40 [.agg (mxA (rs.set ((i.gA).toNat) out) [.slice ra n rc]),iv 0] func40 ⟨⟨⟨b4,0,none⟩,kr,aS (S202.nth 0 rfl) (eJ (n:=16) kr kr sA)⟩,kr,trivial⟩<|hR _ _ ?_
  have e1:exR p i rs cs=rs.set i.gA.toNat out:=by unfold exR;rw[if_neg om,hout]
  exact⟨by rw[hz,e1];rfl,by rw[← hcl];exact((((S202.erase 0).erase 0).erase 0).erase 0)⟩
 have fk31:i.gOp=1:=by omega
 exact J.h 7 [] [] [] 43 (.bool (i.gOp==1)) (.bool true) (congrArg Value.bool (beq_iff_eq.2 fk31))<|J.lb 3 [true] [] [] S199 1 rfl 46 (iv i.gK)<|J.t 3 (X3 i.gK cs w165 (by unfold exV;(repeat first | rw[if_pos om] | rw[if_neg om])<;>(try simp only[eD,eE,decide_true,decide_false,Bool.not_true,Bool.not_false,Bool.true_and,Bool.false_and,Bool.true_or,Bool.false_or])) (by unfold exC;(repeat first | rw[if_pos om] | rw[if_neg om])) (by unfold exE;rw[if_neg om]) om S199)

end
end Go.Proofs.YtaoolgcddapegaaGreat

