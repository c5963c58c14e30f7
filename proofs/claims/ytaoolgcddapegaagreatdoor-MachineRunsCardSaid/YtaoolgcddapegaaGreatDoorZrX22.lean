/- Walks of functions of this seat, printed by a program over the engine. Conditions: as each theorem says. -/
import Derived.Test.YtaoolgcddapegaaGreatDoorZrX19
set_option linter.unusedSimpArgs false
set_option linter.unusedVariables false
namespace Go.Proofs.YtaoolgcddapegaaGreatDoor
noncomputable section
open Go.Eng Go.RowKit Go.Proofs.Tryz
set_option maxRecDepth 20000
set_option maxHeartbeats 20000000
theorem hb33:af prog 33:=fun _ _=>by kernel_rfl
def K33_0:=adv 21 [false] (bo Tryz.f33)
theorem rcells_any (p:Prg) (la:Option Addr) (len cap:Nat) (l:List Int) (w:World) (hI:dk w la len l):Ret prog 33 #[.agg (eb p),.slice la len cap] w (fun v w'=>v=.bool (cK p.aA l)∧Sep w [] w'):=by
 refine Ret.st (N:=29) func33 fun R hR S0=>?_
 have hll:=hI.len_eq
 refine J.nw 2 [] [] [] S0 2 (ba p) 28 fun b1 w1 S1=>J.c 9 [] [] [] 8 ((len:Int)>1000) (fun fk1=>?_) fun fk1=>?_
 refine J.e 5 [.bool false] func33 (hR _ _ ?_)
 exact⟨congrArg Value.bool (cellsL_long om).symm,S1.nil⟩
 have L33_1:∀ (mm_:Nat) (i:Int) (w2:World),(0≤i)→(i≤(len:Int))→(∀ j,j<(i).toNat→0≤l.getD j 0∧l.getD j 0<p.aA)→Sep w [box b1 (ba p) 28] w2→((len:Int)-i).toNat=mm_→J prog 33 29 R K33_0 [(5,iv i),(2,pv b1),(1,.slice la len cap)] w2:=by
  intro mm1
  induction mm1 using Nat.strongRecOn with
  | _ mm1 ih1 =>
  intro i w2 h0 h1 hq S2 hm1
  refine J.c 8 [] [] [] 12 (i<(len:Int)) (fun fk2=>?_) fun fk2=>?_
  refine J.r 5 [true] [] [] ?_
  by_cases fk3:(l.getD (i).toNat 0)<0
  obtain ⟨p1,hp1,hc1⟩:=hI.at 0 (i).toNat om
  refine J.drawStill S2 14 Tryz.mixed kr kr kr ?_
  intro w3 S3
  refine SL.r 15 (.slice la len cap)<|SL.r 16 (iv i)<|SL.ok dE (OK.index 17 26 1 la p1 len (i).toNat i (p1.add (i).toNat) kr kr hp1 om om nO)<|SL.ok dE (OK.ldCell 18 3 (p1.add (i).toNat) (iv (l.getD (i).toNat 0)) kr kr (S3.cell hc1))<|SL.r 19 (.bool (decide ((l.getD (i).toNat 0)<0)))<|SL.head (.bool true) (congrArg Value.bool (decide_eq_true fk3))<|SL.r 20 (.bool true)<|SL.p (some 21)<|SL.p (some 22)<|SL.p (some 23)<|SL.p (some 24) ?_
  refine SL.p (some 25)<|SL.p (some 26)<|SL.p (some 27)<|SL.r 28 (.bool true)<|SL.done<|TL.done kr<|J.e 5 [.bool false] func33 (hR _ _ ?_)
  exact⟨congrArg Value.bool (cellsL_bad (j:=i.toNat) om om).symm,S3.nil⟩
  obtain ⟨p2,hp2,hc2⟩:=hI.at 0 (i).toNat om
  refine J.drawStill S2 14 Tryz.mixed kr kr kr ?_
  intro w4 S4
  refine SL.r 15 (.slice la len cap)<|SL.r 16 (iv i)<|SL.ok dE (OK.index 17 26 1 la p2 len (i).toNat i (p2.add (i).toNat) kr kr hp2 om om nO)<|SL.ok dE (OK.ldCell 18 3 (p2.add (i).toNat) (iv (l.getD (i).toNat 0)) kr kr (S4.cell hc2))<|SL.r 19 (.bool (decide ((l.getD (i).toNat 0)<0)))<|SL.head (.bool false) (congrArg Value.bool (decide_eq_false fk3))<|SL.r 20 (.bool false)<|SL.r 21 (.slice la len cap)<|SL.r 22 (iv i)<|SL.ok dE (OK.index 23 26 1 la p2 len (i).toNat i (p2.add (i).toNat) kr kr hp2 om om nO)<|SL.ok dE (OK.ldCell 24 3 (p2.add (i).toNat) (iv (l.getD (i).toNat 0)) kr kr (S4.cell hc2)) ?_
  refine SL.r 25 (.pointer (some ⟨b1,4,none⟩))<|SL.lb S4 0 rfl 26 (iv p.aA)<|SL.r 27 (.bool (decide ((l.getD (i).toNat 0)≥p.aA)))<|SL.r 28 (.bool (decide ((l.getD (i).toNat 0)≥p.aA)))<|SL.done<|TL.done kr<|J.c 0 [] [] [] 28 ((l.getD (i).toNat 0)≥p.aA) (fun fk4=>?_) fun fk4=>?_
  refine J.e 5 [.bool false] func33 (hR _ _ ?_)
  exact⟨congrArg Value.bool (cellsL_bad (j:=i.toNat) om om).symm,S4.nil⟩
  exact J.wi 6 [false] [] [] 14 (i+1)<|J.t 3 (ih1 _ (show((len:Int)-(i+1)).toNat<mm1 from by omega) (i+1) w4 om om (dc (q:=fun j=>0≤l.getD j 0∧l.getD j 0<p.aA) h0 hq om) S4 rfl)
  refine J.e 6 [.bool true] func33 (hR _ _ ?_)
  exact⟨congrArg Value.bool (cellsL_yes om fun j hj=>hq j om).symm,S2.nil⟩
 exact J.t 9 (L33_1 _ 0 w1 om om (by intro j hj;simp at hj) S1 rfl)

theorem eZ {p:Prg} {i:Ins} (h:el i.gOp) (hn:¬ (i.gK/16384<(p.al:Int)∧(i.gOp=9∨i.gOp=10∨i.gK/128%128<(p.al:Int))∧(i.gOp=13∨i.gOp=14∨i.gK%128<(p.al:Int)))):cv p i=false:=by
  unfold cv;(repeat first | rw[if_pos om] | rw[if_neg om]);rw[show tyOK p i.gOp i.gK=false from decide_eq_false om];rfl
theorem named_arith {p:Prg} {i:Ins} (h:i.gOp=5∨i.gOp=6∨i.gOp=7∨i.gOp=8) (hk:i.gK/16384<(p.al:Int)∧i.gK/128%128<(p.al:Int)∧i.gK%128<(p.al:Int)):cv p i=(unRB (i.gOp-4) (au (tyN p (i.gK/16384))) (au (tyN p (i.gK/128%128)))&&ct (dA (i.gOp-4) (au (tyN p (i.gK/16384))) (au (tyN p (i.gK/128%128)))) (au (tyN p (i.gK%128)))):=by
  have e0:tyOK p i.gOp i.gK=true:=dM.2 om
  obtain ⟨e1,e2,e3⟩:=ty_yes e0
  rw[if_pos om] at e2 e3
  unfold cv;(repeat first | rw[if_pos om] | rw[if_neg om]);rw[e0,Bool.true_and,e1,e2,e3]
  unfold cW unRB dA
  rcases h with h | h | h | h<;>rw[h]<;>rfl
theorem named_one {p:Prg} {i:Ins} (h:i.gOp=9∨i.gOp=10) (hk:i.gK/16384<(p.al:Int)∧i.gK%128<(p.al:Int)):cv p i=ct (au (tyN p (i.gK/16384))) (au (tyN p (i.gK%128))):=by
  have e0:tyOK p i.gOp i.gK=true:=dM.2 om
  obtain ⟨e1,e2,e3⟩:=ty_yes e0
  rw[if_pos om] at e3
  unfold cv;(repeat first | rw[if_pos om] | rw[if_neg om]);rw[e0,Bool.true_and,e1,e3];unfold cW;(repeat first | rw[if_pos om] | rw[if_neg om])
theorem named_cmp {p:Prg} {i:Ins} (h:i.gOp=13∨i.gOp=14) (hk:i.gK/16384<(p.al:Int)∧i.gK/128%128<(p.al:Int)):cv p i=ct (au (tyN p (i.gK/16384))) (au (tyN p (i.gK/128%128))):=by
  have e0:tyOK p i.gOp i.gK=true:=dM.2 om
  obtain ⟨e1,e2,e3⟩:=ty_yes e0
  rw[if_pos om] at e2
  unfold cv;(repeat first | rw[if_pos om] | rw[if_neg om]);rw[e0,Bool.true_and,e1,e2];unfold cW;(repeat first | rw[if_pos om] | rw[if_neg om])
theorem hb32:af prog 32:=fun _ _=>by kernel_rfl
def K32_0:=List.drop 1 (adv 40 [] (bo Tryz.f32))
def K32_1:=List.drop 1 (adv 7 [false] K32_0)
def K32_2:=adv 21 [true,false] K32_1
def K32_3:=List.drop 1 (adv 7 [false] K32_1)
def K32_4:=List.drop 1 (adv 7 [false] K32_3)
theorem rnamed_any (p:Prg) (i:Ins) (w:World) (hp:prgQ w p) (hi:insQ w i) (hfm:dh i=true):Ret prog 32 #[.agg (eb p),.agg (dm i)] w (fun v w'=>v=.bool (cv p i)∧Sep w [] w'):=by
 refine Ret.st (N:=157) func32 fun R hR S0=>?_
 obtain ⟨q1,q2,q3,q4,q5,q6,q7,q8,q9,q10,q11,q12,q13,q14,q15,q16,q17,q18,q19,q20,q21,q22,q23,q24,q25,_⟩:=id hp
 have ql1:=q2.len_eq
 have ql2:=q5.len_eq
 have ql3:=q8.len_eq
 have ql4:=q11.len_eq
 have ql5:=q15.len_eq
 have ql6:=q18.len_eq
 have ql7:=q21.len_eq
 have ql8:=q24.len_eq
 obtain ⟨q26,q27,q28,q29,q30,_⟩:=id hi
 have hfp:=dO.1 hfm
 refine J.nw 2 [] [] [] S0 2 (ba p) 28 fun b1 w1 S1=>J.nw 0 [] [] [] S1 3 (aR i) 48 fun b2 w2 S2=>J.lb 5 [] [] [] S2 0 rfl 13 (iv i.gK) ?_
 by_cases fk1:i.gK≥0
 refine J.h 1 [] [] [] 14 (iv (if 0>i.gK then 0 else i.gK)) (iv i.gK) (congrArg (Value.int .i64) om)<|J.c0 0 [] [] [] S2 15 hb34 (rtypes_any i.gK _ om) fun w3 S3=>J.lb 11 [] [(7,iv (i.gK%128)),(6,iv (i.gK/128%128)),(5,iv (i.gK/16384))] [] S3 1 rfl 20 (.slice p.aK p.al p.br)<|J.lb 7 [] [(8,iv (p.al:Int))] [] S3 0 rfl 23 (iv i.gOp) ?_
 have X1:∀ (tj24:Bool) (w4:World),((tj24=true→(i.gOp=2∨i.gOp=3))∧(tj24=false→¬ (i.gOp=2∨i.gOp=3)))→Sep w [box b2 (aR i) 48,box b1 (ba p) 28] w4→J prog 32 157 R K32_0 [(23,iv i.gOp),(8,iv (p.al:Int)),(7,iv (i.gK%128)),(6,iv (i.gK/128%128)),(5,iv (i.gK/16384)),(3,pv b2),(2,pv b1),(24,.bool tj24)] w4:=by
  intro tj24 w4 htj24 S4
  refine J.b 0 [] [] [] 24 tj24 (fun fk2=>?_) fun fk2=>?_
  have fb1:=htj24.1 fk2
  refine J.lb 4 [true] [] [] S4 0 rfl 28 (iv i.gK)<|J.lb 1 [] [] [] S4 1 rfl 30 (iv p.aA)<|J.e 3 [.bool (decide (i.gK<p.aA))] func32 (hR _ _ ?_)
  exact⟨congrArg Value.bool (by unfold cv;(repeat first | rw[if_pos om] | rw[if_neg om]);all_goals first | rfl | exact(decide_eq_true om).symm | exact(decide_eq_false om).symm),S4.nil⟩
  have fb2:=htj24.2 fk2
  have X2:∀ (tj32:Bool) (w5:World),((tj32=true→(i.gOp=5∨i.gOp=6∨i.gOp=7∨i.gOp=8))∧(tj32=false→¬ (i.gOp=5∨i.gOp=6∨i.gOp=7∨i.gOp=8)))→Sep w [box b2 (aR i) 48,box b1 (ba p) 28] w5→J prog 32 157 R K32_1 [(23,iv i.gOp),(8,iv (p.al:Int)),(7,iv (i.gK%128)),(6,iv (i.gK/128%128)),(5,iv (i.gK/16384)),(3,pv b2),(2,pv b1),(32,.bool tj32)] w5:=by
   intro tj32 w5 htj32 S5
   refine J.b 0 [] [] [] 32 tj32 (fun fk3=>?_) fun fk3=>?_
   have fb3:=htj32.1 fk3
   refine J.c 8 [true] [] [] 40 ((i.gK/16384)≥(p.al:Int)) (fun fk4=>?_) fun fk4=>?_
   refine J.e 15 [.bool false] func32 (hR _ _ ?_)
   exact⟨congrArg Value.bool (eZ om om).symm,S5.nil⟩
   refine J.c 5 [] [] [] 45 ((i.gK/128%128)≥(p.al:Int)) (fun fk5=>?_) fun fk5=>?_
   refine J.e 10 [.bool false] func32 (hR _ _ ?_)
   exact⟨congrArg Value.bool (eZ om om).symm,S5.nil⟩
   refine J.c 5 [] [] [] 49 ((i.gK%128)≥(p.al:Int)) (fun fk6=>?_) fun fk6=>?_
   refine J.e 5 [.bool false] func32 (hR _ _ ?_)
   exact⟨congrArg Value.bool (eZ om om).symm,S5.nil⟩
   refine J.r 3 [false] [] [] ?_
   obtain ⟨p1,hp1,hc1⟩:=q5.at fx0 (i.gK/16384).toNat om
   have hel1:=aX q6 fx0 (n:=(i.gK/16384).toNat) (by have:=q5.len_eq;omega)
   obtain ⟨q31,q32,q33,q34,q35,q36,q37,q38,q39,_⟩:=id hel1
   obtain ⟨p2,hp2,hc2⟩:=q5.at fx0 (i.gK/128%128).toNat om
   have hel2:=aX q6 fx0 (n:=(i.gK/128%128).toNat) (by have:=q5.len_eq;omega)
   obtain ⟨q40,q41,q42,q43,q44,q45,q46,q47,q48,_⟩:=id hel2
   have W1:∀ (bd19:Nat) (w6:World),Sep w [box bd19 (bE (dA (i.gOp-4) (au (tyN p (i.gK/16384))) (au (tyN p (i.gK/128%128))))) 73,box b2 (aR i) 48,box b1 (ba p) 28] w6→WA prog 32 157 R K32_2 (fun w_=>Sep w [box b2 (aR i) 48,box b1 (ba p) 28] w_) 0 #[true,true,true,true,true,true,true,true,true,true,true,true,true,true,true,true,true,true,true,true,true,true] [(2,pv b1),(7,iv (i.gK%128)),(9,pv bd19),(10,.bool (unRB (i.gOp-4) (au (tyN p (i.gK/16384))) (au (tyN p (i.gK/128%128)))))] w6:=by
    intro bd19 w6 S6
    refine WA.done kr<|J.r 1 [] [] [] ?_
    rcases Bool.eq_false_or_eq_true (unRB (i.gOp-4) (au (tyN p (i.gK/16384))) (au (tyN p (i.gK/128%128)))) with fk7 | fk7
    obtain ⟨p3,hp3,hc3⟩:=q5.at fx0 (i.gK%128).toNat om
    have hel3:=aX q6 fx0 (n:=(i.gK%128).toNat) (by have:=q5.len_eq;omega)
    obtain ⟨q49,q50,q51,q52,q53,q54,q55,q56,q57,_⟩:=id hel3
    refine J.drawStill S6 12 Tryz.mixed kr kr kr ?_
    intro w7 S7
    refine SL.r 69 (.bool (unRB (i.gOp-4) (au (tyN p (i.gK/16384))) (au (tyN p (i.gK/128%128)))))<|SL.head (.bool true) (congrArg Value.bool fk7)<|SL.r 70 (.bool true)<|SL.lb S7 0 rfl 71 (.agg (bK (dA (i.gOp-4) (au (tyN p (i.gK/16384))) (au (tyN p (i.gK/128%128))))))<|SL.r 72 (.pointer (some ⟨b1,1,none⟩))<|SL.lb S7 2 rfl 73 (.slice p.aK p.al p.br)<|SL.r 74 (iv (i.gK%128))<|SL.ok dE (OK.index 75 23 10 p.aK p3 p.al (i.gK%128).toNat (i.gK%128) (p3.add ((i.gK%128).toNat*10)) kr kr hp3 om om rfl)<|SL.r 76 (.pointer (some ((p3.add ((i.gK%128).toNat*10)).add 5)))<|SL.ok dE (OK.ldCells 77 73 ((p3.add ((i.gK%128).toNat*10)).add 5) (fuC (p.ap.getD (i.gK%128).toNat fx0)) kr kr kr (fun j_ v_ hj_=>by rw[dp];exact((fun j_ v_ hj_=>S7.cell (hc3 j_ v_ hj_))) (5+j_) v_ (by rcases j_ with _ | _ | _ | _ | _ | j_<;>first | exact hj_ | (cases hj_;done) | (simp at hj_;done))))<|SL.ok dE (OK.eqUnt 78 (dA (i.gOp-4) (au (tyN p (i.gK/16384))) (au (tyN p (i.gK/128%128)))) (au (tyN p (i.gK%128))) kr) ?_
    refine SL.r 79 (.bool (ct (dA (i.gOp-4) (au (tyN p (i.gK/16384))) (au (tyN p (i.gK/128%128)))) (au (tyN p (i.gK%128)))))<|SL.r 4 (.bool (ct (dA (i.gOp-4) (au (tyN p (i.gK/16384))) (au (tyN p (i.gK/128%128)))) (au (tyN p (i.gK%128)))))<|SL.done<|TL.done kr<|J.e 0 [.bool (ct (dA (i.gOp-4) (au (tyN p (i.gK/16384))) (au (tyN p (i.gK/128%128)))) (au (tyN p (i.gK%128))))] func32 (hR _ _ ?_)
    exact⟨congrArg Value.bool (by rw[named_arith om om,fk7];rfl),S7.nil⟩
    refine J.drawStill S6 12 Tryz.mixed kr kr kr ?_
    intro w8 S8
    refine SL.r 69 (.bool (unRB (i.gOp-4) (au (tyN p (i.gK/16384))) (au (tyN p (i.gK/128%128)))))<|SL.head (.bool false) (congrArg Value.bool fk7)<|SL.r 70 (.bool false)<|SL.p (some 71)<|SL.p (some 72)<|SL.p (some 73)<|SL.p (some 74)<|SL.p (some 75)<|SL.p (some 76)<|SL.p (some 77)<|SL.p (some 78) ?_
    refine SL.r 79 (.bool false)<|SL.r 4 (.bool false)<|SL.done<|TL.done kr<|J.e 0 [.bool false] func32 (hR _ _ ?_)
    exact⟨congrArg Value.bool (by rw[named_arith om om,fk7];rfl),S8.nil⟩
   have W2:∀ (bd19:Nat) (w9:World),Sep w [box bd19 [iv 0,iv 0,iv 0,iv 0,iv 0] 73,box b2 (aR i) 48,box b1 (ba p) 28] w9→WA prog 32 157 R K32_2 (fun w_=>Sep w [box b2 (aR i) 48,box b1 (ba p) 28] w_) 2 #[true,true,true,true,true,true,true,true,true,true,true,true,true,true,true,true,true,true,true,true,false,false] [(2,pv b1),(7,iv (i.gK%128)),(9,pv bd19),(67,.agg (bK (dA (i.gOp-4) (au (tyN p (i.gK/16384))) (au (tyN p (i.gK/128%128)))))),(68,.bool (unRB (i.gOp-4) (au (tyN p (i.gK/16384))) (au (tyN p (i.gK/128%128)))))] w9:=by
    intro bd19 w9 S9
    refine WA.all [20] kr rfl ⟨?_,trivial⟩
    refine WO.set #[true,true,true,true,true,true,true,true,true,true,true,true,true,true,true,true,true,true,true,true,true,false] kr<|WO.stBox S9 0 73 0 (.agg (bK (dA (i.gOp-4) (au (tyN p (i.gK/16384))) (au (tyN p (i.gK/128%128)))))) (bE (dA (i.gOp-4) (au (tyN p (i.gK/16384))) (au (tyN p (i.gK/128%128))))) [box bd19 (bE (dA (i.gOp-4) (au (tyN p (i.gK/16384))) (au (tyN p (i.gK/128%128))))) 73,box b2 (aR i) 48,box b1 (ba p) 28] kr rfl kr kr rfl ?_
    intro w10 S10
    exact WB.mk (S10.erase 0)<|WA.take 21 10 (.bool (unRB (i.gOp-4) (au (tyN p (i.gK/16384))) (au (tyN p (i.gK/128%128))))) #[true,true,true,true,true,true,true,true,true,true,true,true,true,true,true,true,true,true,true,true,true,true] kr kr kr (fun _ _=>kr) kr<|WA.weaken (env':=[(2,pv b1),(7,iv (i.gK%128)),(9,pv bd19),(10,.bool (unRB (i.gOp-4) (au (tyN p (i.gK/16384))) (au (tyN p (i.gK/128%128)))))]) kr<|W1 bd19 w10 S10
   have W3:∀ (w11:World),Sep w [box b2 (aR i) 48,box b1 (ba p) 28] w11→WA prog 32 157 R K32_2 (fun w_=>Sep w [box b2 (aR i) 48,box b1 (ba p) 28] w_) 3 #[true,true,true,true,true,true,true,true,true,true,true,true,true,true,true,true,true,true,true,false,false,false] [(2,pv b1),(7,iv (i.gK%128)),(67,.agg (bK (dA (i.gOp-4) (au (tyN p (i.gK/16384))) (au (tyN p (i.gK/128%128)))))),(68,.bool (unRB (i.gOp-4) (au (tyN p (i.gK/16384))) (au (tyN p (i.gK/128%128)))))] w11:=by
    intro w11 S11
    refine WA.all [19] kr rfl ⟨?_,trivial⟩
    refine WO.set #[true,true,true,true,true,true,true,true,true,true,true,true,true,true,true,true,true,true,true,true,false,false] kr<|WO.new S11 9 [iv 0,iv 0,iv 0,iv 0,iv 0] 73 kr ?_
    intro bd19 w12 S12
    exact WB.mk (S12.erase 0)<|WA.weaken (env':=[(2,pv b1),(7,iv (i.gK%128)),(9,pv bd19),(67,.agg (bK (dA (i.gOp-4) (au (tyN p (i.gK/16384))) (au (tyN p (i.gK/128%128)))))),(68,.bool (unRB (i.gOp-4) (au (tyN p (i.gK/16384))) (au (tyN p (i.gK/128%128)))))]) kr<|W2 bd19 w12 S12
   have W4:∀ (bd19:Nat) (w13:World),Sep w [box bd19 [iv 0,iv 0,iv 0,iv 0,iv 0] 73,box b2 (aR i) 48,box b1 (ba p) 28] w13→WA prog 32 157 R K32_2 (fun w_=>Sep w [box b2 (aR i) 48,box b1 (ba p) 28] w_) 6 #[true,true,true,true,true,true,true,true,true,true,true,true,true,true,true,false,false,false,false,true,false,false] [(2,pv b1),(7,iv (i.gK%128)),(9,pv bd19),(53,iv (i.gOp-4)),(59,.agg (fuA (p.ap.getD (i.gK/16384).toNat fx0))),(65,.agg (fuA (p.ap.getD (i.gK/128%128).toNat fx0)))] w13:=by
    intro bd19 w13 S13
    refine WA.all [15] kr rfl ⟨?_,trivial⟩
    refine WO.set #[true,true,true,true,true,true,true,true,true,true,true,true,true,true,true,true,false,false,false,true,false,false] kr<|WO.callF 66 72 #[iv (i.gOp-4),.agg (fuA (p.ap.getD (i.gK/16384).toNat fx0)),.agg (fuA (p.ap.getD (i.gK/128%128).toNat fx0))] hb72 kr (runits_any (i.gOp-4) (au (tyN p (i.gK/16384))) (au (tyN p (i.gK/128%128))) _) ?_
    rintro _ w14 ⟨rfl,T1⟩
    have S14:Sep w [box bd19 [iv 0,iv 0,iv 0,iv 0,iv 0] 73,box b2 (aR i) 48,box b1 (ba p) 28] w14:=S13.trans T1
    clear T1 S13
    exact WB.mk (S14.erase 0)<|WA.take 16 50 (.tuple #[.agg (bK (dA (i.gOp-4) (au (tyN p (i.gK/16384))) (au (tyN p (i.gK/128%128))))),.bool (unRB (i.gOp-4) (au (tyN p (i.gK/16384))) (au (tyN p (i.gK/128%128))))]) #[true,true,true,true,true,true,true,true,true,true,true,true,true,true,true,true,true,false,false,true,false,false] kr kr kr (fun _ _=>kr) kr<|WA.take 17 67 (.agg (bK (dA (i.gOp-4) (au (tyN p (i.gK/16384))) (au (tyN p (i.gK/128%128)))))) #[true,true,true,true,true,true,true,true,true,true,true,true,true,true,true,true,true,true,false,true,false,false] kr kr kr (fun _ _=>kr) kr<|WA.take 18 68 (.bool (unRB (i.gOp-4) (au (tyN p (i.gK/16384))) (au (tyN p (i.gK/128%128))))) #[true,true,true,true,true,true,true,true,true,true,true,true,true,true,true,true,true,true,true,true,false,false] kr kr kr (fun _ _=>kr) kr<|WA.weaken (env':=[(2,pv b1),(7,iv (i.gK%128)),(9,pv bd19),(67,.agg (bK (dA (i.gOp-4) (au (tyN p (i.gK/16384))) (au (tyN p (i.gK/128%128)))))),(68,.bool (unRB (i.gOp-4) (au (tyN p (i.gK/16384))) (au (tyN p (i.gK/128%128)))))]) kr<|W2 bd19 w14 S14
   have W5:∀ (w15:World),Sep w [box b2 (aR i) 48,box b1 (ba p) 28] w15→WA prog 32 157 R K32_2 (fun w_=>Sep w [box b2 (aR i) 48,box b1 (ba p) 28] w_) 7 #[true,true,true,true,true,true,true,true,true,true,true,true,true,true,true,false,false,false,false,false,false,false] [(2,pv b1),(7,iv (i.gK%128)),(53,iv (i.gOp-4)),(59,.agg (fuA (p.ap.getD (i.gK/16384).toNat fx0))),(65,.agg (fuA (p.ap.getD (i.gK/128%128).toNat fx0)))] w15:=by
    intro w15 S15
    refine WA.all [15,19] kr rfl ⟨?_,?_,trivial⟩
    refine WO.set #[true,true,true,true,true,true,true,true,true,true,true,true,true,true,true,true,false,false,false,false,false,false] kr<|WO.callF 66 72 #[iv (i.gOp-4),.agg (fuA (p.ap.getD (i.gK/16384).toNat fx0)),.agg (fuA (p.ap.getD (i.gK/128%128).toNat fx0))] hb72 kr (runits_any (i.gOp-4) (au (tyN p (i.gK/16384))) (au (tyN p (i.gK/128%128))) _) ?_
    rintro _ w16 ⟨rfl,T2⟩
    have S16:Sep w [box b2 (aR i) 48,box b1 (ba p) 28] w16:=S15.trans T2
    clear T2 S15
    exact WB.mk S16<|WA.take 16 50 (.tuple #[.agg (bK (dA (i.gOp-4) (au (tyN p (i.gK/16384))) (au (tyN p (i.gK/128%128))))),.bool (unRB (i.gOp-4) (au (tyN p (i.gK/16384))) (au (tyN p (i.gK/128%128))))]) #[true,true,true,true,true,true,true,true,true,true,true,true,true,true,true,true,true,false,false,false,false,false] kr kr kr (fun _ _=>kr) kr<|WA.take 17 67 (.agg (bK (dA (i.gOp-4) (au (tyN p (i.gK/16384))) (au (tyN p (i.gK/128%128)))))) #[true,true,true,true,true,true,true,true,true,true,true,true,true,true,true,true,true,true,false,false,false,false] kr kr kr (fun _ _=>kr) kr<|WA.take 18 68 (.bool (unRB (i.gOp-4) (au (tyN p (i.gK/16384))) (au (tyN p (i.gK/128%128))))) #[true,true,true,true,true,true,true,true,true,true,true,true,true,true,true,true,true,true,true,false,false,false] kr kr kr (fun _ _=>kr) kr<|WA.weaken (env':=[(2,pv b1),(7,iv (i.gK%128)),(67,.agg (bK (dA (i.gOp-4) (au (tyN p (i.gK/16384))) (au (tyN p (i.gK/128%128)))))),(68,.bool (unRB (i.gOp-4) (au (tyN p (i.gK/16384))) (au (tyN p (i.gK/128%128)))))]) kr<|W3 w16 S16
    refine WO.set #[true,true,true,true,true,true,true,true,true,true,true,true,true,true,true,false,false,false,false,true,false,false] kr<|WO.new S15 9 [iv 0,iv 0,iv 0,iv 0,iv 0] 73 kr ?_
    intro bd19 w17 S17
    exact WB.mk (S17.erase 0)<|WA.weaken (env':=[(2,pv b1),(7,iv (i.gK%128)),(9,pv bd19),(53,iv (i.gOp-4)),(59,.agg (fuA (p.ap.getD (i.gK/16384).toNat fx0))),(65,.agg (fuA (p.ap.getD (i.gK/128%128).toNat fx0)))]) kr<|W4 bd19 w17 S17
   refine J.drawAny (fun w_=>Sep w [box b2 (aR i) 48,box b1 (ba p) 28] w_) S5 22 #[false,false,false,false,false,false,false,false,false,false,false,false,false,false,false,false,false,false,false,false,false,false] Tryz.mixed kr kr kr ?_
   intro w18 S18
   refine WB.mk S18<|WA.take 0 51 (pv b2) #[true,false,false,false,false,false,false,false,false,false,false,false,false,false,false,false,false,false,false,false,false,false] kr kr kr (fun _ _=>kr) kr<|WA.takeOK 1 #[true,true,false,false,false,false,false,false,false,false,false,false,false,false,false,false,false,false,false,false,false,false] kr kr kr kr (fun w_ S_=>OK.ldBox S_ 0 52 3 0 (iv i.gOp) kr rfl kr) rfl<|WA.take 2 53 (iv (IntKind.wrap .i64 (i.gOp-4))) #[true,true,true,false,false,false,false,false,false,false,false,false,false,false,false,false,false,false,false,false,false,false] kr kr kr (fun _ _=>kr) kr<|WA.head (iv (i.gOp-4)) (congrArg (Value.int .i64) (IntWalk.i64_in _ om))<|WA.take 3 54 (.pointer (some ⟨b1,1,none⟩)) #[true,true,true,true,false,false,false,false,false,false,false,false,false,false,false,false,false,false,false,false,false,false] kr kr kr (fun _ _=>kr) kr<|WA.takeOK 4 #[true,true,true,true,true,false,false,false,false,false,false,false,false,false,false,false,false,false,false,false,false,false] kr kr kr kr (fun w_ S_=>OK.ldBox S_ 1 55 23 1 (.slice p.aK p.al p.br) kr rfl kr) rfl<|WA.take 5 56 (iv (i.gK/16384)) #[true,true,true,true,true,true,false,false,false,false,false,false,false,false,false,false,false,false,false,false,false,false] kr kr kr (fun _ _=>kr) kr<|WA.takeOK 6 #[true,true,true,true,true,true,true,false,false,false,false,false,false,false,false,false,false,false,false,false,false,false] kr kr kr kr (fun w_ S_=>OK.index 57 23 10 p.aK p1 p.al (i.gK/16384).toNat (i.gK/16384) (p1.add ((i.gK/16384).toNat*10)) kr kr hp1 om om rfl) rfl<|WA.take 7 58 (.pointer (some ((p1.add ((i.gK/16384).toNat*10)).add 5))) #[true,true,true,true,true,true,true,true,false,false,false,false,false,false,false,false,false,false,false,false,false,false] kr kr kr (fun _ _=>kr) kr<|WA.takeOK 8 #[true,true,true,true,true,true,true,true,true,false,false,false,false,false,false,false,false,false,false,false,false,false] kr kr kr kr (fun w_ S_=>OK.ldCells 59 73 ((p1.add ((i.gK/16384).toNat*10)).add 5) (fuC (p.ap.getD (i.gK/16384).toNat fx0)) kr kr kr (fun j_ v_ hj_=>by rw[dp];exact((fun j_ v_ hj_=>S_.cell (hc1 j_ v_ hj_))) (5+j_) v_ (by rcases j_ with _ | _ | _ | _ | _ | j_<;>first | exact hj_ | (cases hj_;done) | (simp at hj_;done)))) rfl ?_
   exact WA.take 9 60 (.pointer (some ⟨b1,1,none⟩)) #[true,true,true,true,true,true,true,true,true,true,false,false,false,false,false,false,false,false,false,false,false,false] kr kr kr (fun _ _=>kr) kr<|WA.takeOK 10 #[true,true,true,true,true,true,true,true,true,true,true,false,false,false,false,false,false,false,false,false,false,false] kr kr kr kr (fun w_ S_=>OK.ldBox S_ 1 61 23 1 (.slice p.aK p.al p.br) kr rfl kr) rfl<|WA.take 11 62 (iv (i.gK/128%128)) #[true,true,true,true,true,true,true,true,true,true,true,true,false,false,false,false,false,false,false,false,false,false] kr kr kr (fun _ _=>kr) kr<|WA.takeOK 12 #[true,true,true,true,true,true,true,true,true,true,true,true,true,false,false,false,false,false,false,false,false,false] kr kr kr kr (fun w_ S_=>OK.index 63 23 10 p.aK p2 p.al (i.gK/128%128).toNat (i.gK/128%128) (p2.add ((i.gK/128%128).toNat*10)) kr kr hp2 om om rfl) rfl<|WA.take 13 64 (.pointer (some ((p2.add ((i.gK/128%128).toNat*10)).add 5))) #[true,true,true,true,true,true,true,true,true,true,true,true,true,true,false,false,false,false,false,false,false,false] kr kr kr (fun _ _=>kr) kr<|WA.takeOK 14 #[true,true,true,true,true,true,true,true,true,true,true,true,true,true,true,false,false,false,false,false,false,false] kr kr kr kr (fun w_ S_=>OK.ldCells 65 73 ((p2.add ((i.gK/128%128).toNat*10)).add 5) (fuC (p.ap.getD (i.gK/128%128).toNat fx0)) kr kr kr (fun j_ v_ hj_=>by rw[dp];exact((fun j_ v_ hj_=>S_.cell (hc2 j_ v_ hj_))) (5+j_) v_ (by rcases j_ with _ | _ | _ | _ | _ | j_<;>first | exact hj_ | (cases hj_;done) | (simp at hj_;done)))) rfl<|WA.weaken (env':=[(2,pv b1),(7,iv (i.gK%128)),(53,iv (i.gOp-4)),(59,.agg (fuA (p.ap.getD (i.gK/16384).toNat fx0))),(65,.agg (fuA (p.ap.getD (i.gK/128%128).toNat fx0)))]) kr<|W5 w18 S18
   have fb4:=htj32.2 fk3
   have X3:∀ (tj80:Bool) (w19:World),((tj80=true→(i.gOp=9∨i.gOp=10))∧(tj80=false→¬ (i.gOp=9∨i.gOp=10)))→Sep w [box b2 (aR i) 48,box b1 (ba p) 28] w19→J prog 32 157 R K32_3 [(23,iv i.gOp),(8,iv (p.al:Int)),(7,iv (i.gK%128)),(6,iv (i.gK/128%128)),(5,iv (i.gK/16384)),(3,pv b2),(2,pv b1),(80,.bool tj80)] w19:=by
    intro tj80 w19 htj80 S19
    refine J.b 0 [] [] [] 80 tj80 (fun fk8=>?_) fun fk8=>?_
    have fb5:=htj80.1 fk8
    refine J.r 2 [true] [] [] ?_
    by_cases fk9:(i.gK/16384)<(p.al:Int)
    by_cases fk10:(i.gK%128)<(p.al:Int)
    obtain ⟨p4,hp4,hc4⟩:=q5.at fx0 (i.gK/16384).toNat om
    have hel4:=aX q6 fx0 (n:=(i.gK/16384).toNat) (by have:=q5.len_eq;omega)
    obtain ⟨q58,q59,q60,q61,q62,q63,q64,q65,q66,_⟩:=id hel4
    obtain ⟨p5,hp5,hc5⟩:=q5.at fx0 (i.gK%128).toNat om
    have hel5:=aX q6 fx0 (n:=(i.gK%128).toNat) (by have:=q5.len_eq;omega)
    obtain ⟨q67,q68,q69,q70,q71,q72,q73,q74,q75,_⟩:=id hel5
    refine J.drawStill S19 24 Tryz.mixed kr kr kr ?_
    intro w20 S20
    refine SL.r 83 (iv (i.gK/16384))<|SL.r 84 (iv (p.al:Int))<|SL.r 85 (.bool (decide ((i.gK/16384)<(p.al:Int))))<|SL.head (.bool true) (congrArg Value.bool (decide_eq_true fk9))<|SL.r 86 (.bool true)<|SL.r 87 (iv (i.gK%128))<|SL.r 88 (iv (p.al:Int))<|SL.r 89 (.bool (decide ((i.gK%128)<(p.al:Int))))<|SL.head (.bool true) (congrArg Value.bool (decide_eq_true fk10))<|SL.r 90 (.bool true)<|SL.r 91 (.bool true) ?_
    refine SL.r 92 (.pointer (some ⟨b1,1,none⟩))<|SL.lb S20 1 rfl 93 (.slice p.aK p.al p.br)<|SL.r 94 (iv (i.gK/16384))<|SL.ok dE (OK.index 95 23 10 p.aK p4 p.al (i.gK/16384).toNat (i.gK/16384) (p4.add ((i.gK/16384).toNat*10)) kr kr hp4 om om rfl)<|SL.r 96 (.pointer (some ((p4.add ((i.gK/16384).toNat*10)).add 5)))<|SL.ok dE (OK.ldCells 97 73 ((p4.add ((i.gK/16384).toNat*10)).add 5) (fuC (p.ap.getD (i.gK/16384).toNat fx0)) kr kr kr (fun j_ v_ hj_=>by rw[dp];exact((fun j_ v_ hj_=>S20.cell (hc4 j_ v_ hj_))) (5+j_) v_ (by rcases j_ with _ | _ | _ | _ | _ | j_<;>first | exact hj_ | (cases hj_;done) | (simp at hj_;done))))<|SL.r 98 (.pointer (some ⟨b1,1,none⟩))<|SL.lb S20 1 rfl 99 (.slice p.aK p.al p.br)<|SL.r 100 (iv (i.gK%128))<|SL.ok dE (OK.index 101 23 10 p.aK p5 p.al (i.gK%128).toNat (i.gK%128) (p5.add ((i.gK%128).toNat*10)) kr kr hp5 om om rfl)<|SL.r 102 (.pointer (some ((p5.add ((i.gK%128).toNat*10)).add 5))) ?_
    refine SL.ok dE (OK.ldCells 103 73 ((p5.add ((i.gK%128).toNat*10)).add 5) (fuC (p.ap.getD (i.gK%128).toNat fx0)) kr kr kr (fun j_ v_ hj_=>by rw[dp];exact((fun j_ v_ hj_=>S20.cell (hc5 j_ v_ hj_))) (5+j_) v_ (by rcases j_ with _ | _ | _ | _ | _ | j_<;>first | exact hj_ | (cases hj_;done) | (simp at hj_;done))))<|SL.ok dE (OK.eqUnt 104 (au (tyN p (i.gK/16384))) (au (tyN p (i.gK%128))) kr)<|SL.r 105 (.bool (ct (au (tyN p (i.gK/16384))) (au (tyN p (i.gK%128)))))<|SL.r 4 (.bool (ct (au (tyN p (i.gK/16384))) (au (tyN p (i.gK%128)))))<|SL.done<|TL.done kr<|J.e 0 [.bool (ct (au (tyN p (i.gK/16384))) (au (tyN p (i.gK%128))))] func32 (hR _ _ ?_)
    exact⟨congrArg Value.bool (named_one om om).symm,S20.nil⟩
    refine J.drawStill S19 24 Tryz.mixed kr kr kr ?_
    intro w21 S21
    refine SL.r 83 (iv (i.gK/16384))<|SL.r 84 (iv (p.al:Int))<|SL.r 85 (.bool (decide ((i.gK/16384)<(p.al:Int))))<|SL.head (.bool true) (congrArg Value.bool (decide_eq_true fk9))<|SL.r 86 (.bool true)<|SL.r 87 (iv (i.gK%128))<|SL.r 88 (iv (p.al:Int))<|SL.r 89 (.bool (decide ((i.gK%128)<(p.al:Int))))<|SL.head (.bool false) (congrArg Value.bool (decide_eq_false fk10))<|SL.r 90 (.bool false)<|SL.r 91 (.bool false) ?_
    refine SL.p (some 92)<|SL.p (some 93)<|SL.p (some 94)<|SL.p (some 95)<|SL.p (some 96)<|SL.p (some 97)<|SL.p (some 98)<|SL.p (some 99)<|SL.p (some 100)<|SL.p (some 101)<|SL.p (some 102) ?_
    refine SL.p (some 103)<|SL.p (some 104)<|SL.r 105 (.bool false)<|SL.r 4 (.bool false)<|SL.done<|TL.done kr<|J.e 0 [.bool false] func32 (hR _ _ ?_)
    exact⟨congrArg Value.bool (eZ om om).symm,S21.nil⟩
    refine J.drawStill S19 24 Tryz.mixed kr kr kr ?_
    intro w22 S22
    refine SL.r 83 (iv (i.gK/16384))<|SL.r 84 (iv (p.al:Int))<|SL.r 85 (.bool (decide ((i.gK/16384)<(p.al:Int))))<|SL.head (.bool false) (congrArg Value.bool (decide_eq_false fk9))<|SL.r 86 (.bool false)<|SL.p (some 87)<|SL.p (some 88)<|SL.p (some 89)<|SL.r 90 (.bool false)<|SL.r 91 (.bool false)<|SL.p (some 92) ?_
    refine SL.p (some 93)<|SL.p (some 94)<|SL.p (some 95)<|SL.p (some 96)<|SL.p (some 97)<|SL.p (some 98)<|SL.p (some 99)<|SL.p (some 100)<|SL.p (some 101)<|SL.p (some 102)<|SL.p (some 103) ?_
    refine SL.p (some 104)<|SL.r 105 (.bool false)<|SL.r 4 (.bool false)<|SL.done<|TL.done kr<|J.e 0 [.bool false] func32 (hR _ _ ?_)
    exact⟨congrArg Value.bool (eZ om om).symm,S22.nil⟩
    have fb6:=htj80.2 fk8
    have X4:∀ (tj106:Bool) (w23:World),((tj106=true→(i.gOp=13∨i.gOp=14))∧(tj106=false→¬ (i.gOp=13∨i.gOp=14)))→Sep w [box b2 (aR i) 48,box b1 (ba p) 28] w23→J prog 32 157 R K32_4 [(23,iv i.gOp),(8,iv (p.al:Int)),(6,iv (i.gK/128%128)),(5,iv (i.gK/16384)),(3,pv b2),(2,pv b1),(106,.bool tj106)] w23:=by
     intro tj106 w23 htj106 S23
     refine J.b 0 [] [] [] 106 tj106 (fun fk11=>?_) fun fk11=>?_
     have fb7:=htj106.1 fk11
     refine J.r 2 [true] [] [] ?_
     by_cases fk12:(i.gK/16384)<(p.al:Int)
     by_cases fk13:(i.gK/128%128)<(p.al:Int)
     obtain ⟨p6,hp6,hc6⟩:=q5.at fx0 (i.gK/16384).toNat om
     have hel6:=aX q6 fx0 (n:=(i.gK/16384).toNat) (by have:=q5.len_eq;omega)
     obtain ⟨q76,q77,q78,q79,q80,q81,q82,q83,q84,_⟩:=id hel6
     obtain ⟨p7,hp7,hc7⟩:=q5.at fx0 (i.gK/128%128).toNat om
     have hel7:=aX q6 fx0 (n:=(i.gK/128%128).toNat) (by have:=q5.len_eq;omega)
     obtain ⟨q85,q86,q87,q88,q89,q90,q91,q92,q93,_⟩:=id hel7
     refine J.drawStill S23 24 Tryz.mixed kr kr kr ?_
     intro w24 S24
     refine SL.r 109 (iv (i.gK/16384))<|SL.r 110 (iv (p.al:Int))<|SL.r 111 (.bool (decide ((i.gK/16384)<(p.al:Int))))<|SL.head (.bool true) (congrArg Value.bool (decide_eq_true fk12))<|SL.r 112 (.bool true)<|SL.r 113 (iv (i.gK/128%128))<|SL.r 114 (iv (p.al:Int))<|SL.r 115 (.bool (decide ((i.gK/128%128)<(p.al:Int))))<|SL.head (.bool true) (congrArg Value.bool (decide_eq_true fk13))<|SL.r 116 (.bool true)<|SL.r 117 (.bool true) ?_
     refine SL.r 118 (.pointer (some ⟨b1,1,none⟩))<|SL.lb S24 1 rfl 119 (.slice p.aK p.al p.br)<|SL.r 120 (iv (i.gK/16384))<|SL.ok dE (OK.index 121 23 10 p.aK p6 p.al (i.gK/16384).toNat (i.gK/16384) (p6.add ((i.gK/16384).toNat*10)) kr kr hp6 om om rfl)<|SL.r 122 (.pointer (some ((p6.add ((i.gK/16384).toNat*10)).add 5)))<|SL.ok dE (OK.ldCells 123 73 ((p6.add ((i.gK/16384).toNat*10)).add 5) (fuC (p.ap.getD (i.gK/16384).toNat fx0)) kr kr kr (fun j_ v_ hj_=>by rw[dp];exact((fun j_ v_ hj_=>S24.cell (hc6 j_ v_ hj_))) (5+j_) v_ (by rcases j_ with _ | _ | _ | _ | _ | j_<;>first | exact hj_ | (cases hj_;done) | (simp at hj_;done))))<|SL.r 124 (.pointer (some ⟨b1,1,none⟩))<|SL.lb S24 1 rfl 125 (.slice p.aK p.al p.br)<|SL.r 126 (iv (i.gK/128%128))<|SL.ok dE (OK.index 127 23 10 p.aK p7 p.al (i.gK/128%128).toNat (i.gK/128%128) (p7.add ((i.gK/128%128).toNat*10)) kr kr hp7 om om rfl)<|SL.r 128 (.pointer (some ((p7.add ((i.gK/128%128).toNat*10)).add 5))) ?_
     refine SL.ok dE (OK.ldCells 129 73 ((p7.add ((i.gK/128%128).toNat*10)).add 5) (fuC (p.ap.getD (i.gK/128%128).toNat fx0)) kr kr kr (fun j_ v_ hj_=>by rw[dp];exact((fun j_ v_ hj_=>S24.cell (hc7 j_ v_ hj_))) (5+j_) v_ (by rcases j_ with _ | _ | _ | _ | _ | j_<;>first | exact hj_ | (cases hj_;done) | (simp at hj_;done))))<|SL.ok dE (OK.eqUnt 130 (au (tyN p (i.gK/16384))) (au (tyN p (i.gK/128%128))) kr)<|SL.r 131 (.bool (ct (au (tyN p (i.gK/16384))) (au (tyN p (i.gK/128%128)))))<|SL.r 4 (.bool (ct (au (tyN p (i.gK/16384))) (au (tyN p (i.gK/128%128)))))<|SL.done<|TL.done kr<|J.e 0 [.bool (ct (au (tyN p (i.gK/16384))) (au (tyN p (i.gK/128%128))))] func32 (hR _ _ ?_)
     exact⟨congrArg Value.bool (named_cmp om om).symm,S24.nil⟩
     refine J.drawStill S23 24 Tryz.mixed kr kr kr ?_
     intro w25 S25
     refine SL.r 109 (iv (i.gK/16384))<|SL.r 110 (iv (p.al:Int))<|SL.r 111 (.bool (decide ((i.gK/16384)<(p.al:Int))))<|SL.head (.bool true) (congrArg Value.bool (decide_eq_true fk12))<|SL.r 112 (.bool true)<|SL.r 113 (iv (i.gK/128%128))<|SL.r 114 (iv (p.al:Int))<|SL.r 115 (.bool (decide ((i.gK/128%128)<(p.al:Int))))<|SL.head (.bool false) (congrArg Value.bool (decide_eq_false fk13))<|SL.r 116 (.bool false)<|SL.r 117 (.bool false) ?_
     refine SL.p (some 118)<|SL.p (some 119)<|SL.p (some 120)<|SL.p (some 121)<|SL.p (some 122)<|SL.p (some 123)<|SL.p (some 124)<|SL.p (some 125)<|SL.p (some 126)<|SL.p (some 127)<|SL.p (some 128) ?_
     refine SL.p (some 129)<|SL.p (some 130)<|SL.r 131 (.bool false)<|SL.r 4 (.bool false)<|SL.done<|TL.done kr<|J.e 0 [.bool false] func32 (hR _ _ ?_)
     exact⟨congrArg Value.bool (eZ om om).symm,S25.nil⟩
     refine J.drawStill S23 24 Tryz.mixed kr kr kr ?_
     intro w26 S26
     refine SL.r 109 (iv (i.gK/16384))<|SL.r 110 (iv (p.al:Int))<|SL.r 111 (.bool (decide ((i.gK/16384)<(p.al:Int))))<|SL.head (.bool false) (congrArg Value.bool (decide_eq_false fk12))<|SL.r 112 (.bool false)<|SL.p (some 113)<|SL.p (some 114)<|SL.p (some 115)<|SL.r 116 (.bool false)<|SL.r 117 (.bool false)<|SL.p (some 118) ?_
     refine SL.p (some 119)<|SL.p (some 120)<|SL.p (some 121)<|SL.p (some 122)<|SL.p (some 123)<|SL.p (some 124)<|SL.p (some 125)<|SL.p (some 126)<|SL.p (some 127)<|SL.p (some 128)<|SL.p (some 129) ?_
     refine SL.p (some 130)<|SL.r 131 (.bool false)<|SL.r 4 (.bool false)<|SL.done<|TL.done kr<|J.e 0 [.bool false] func32 (hR _ _ ?_)
     exact⟨congrArg Value.bool (eZ om om).symm,S26.nil⟩
     have fb8:=htj106.2 fk11
     refine J.c 6 [false] [] [] 132 (i.gOp=20) (fun fk14=>?_) fun fk14=>?_
     refine J.lb 4 [true] [] [] S23 0 rfl 135 (iv i.gK)<|J.lb 1 [] [] [] S23 1 rfl 137 (.slice p.bO p.bg p.bX)<|J.e 4 [.bool (decide (i.gK<(p.bg:Int)))] func32 (hR _ _ ?_)
     exact⟨congrArg Value.bool (by unfold cv;(repeat first | rw[if_pos om] | rw[if_neg om]);all_goals first | rfl | exact(decide_eq_true om).symm | exact(decide_eq_false om).symm),S23.nil⟩
     refine J.c 6 [false] [] [] 140 (i.gOp=21) (fun fk15=>?_) fun fk15=>?_
     refine J.lb 4 [true] [] [] S23 0 rfl 143 (iv i.gK)<|J.lb 1 [] [] [] S23 1 rfl 145 (.slice p.cu p.bI p.cI)<|J.e 4 [.bool (decide (i.gK<(p.bI:Int)))] func32 (hR _ _ ?_)
     exact⟨congrArg Value.bool (by unfold cv;(repeat first | rw[if_pos om] | rw[if_neg om]);all_goals first | rfl | exact(decide_eq_true om).symm | exact(decide_eq_false om).symm),S23.nil⟩
     refine J.c 6 [false] [] [] 148 (i.gOp=22) (fun fk16=>?_) fun fk16=>?_
     refine J.lb 4 [true] [] [] S23 0 rfl 151 (iv i.gK)<|J.h 1 [] [] [] 152 (iv (IntKind.wrap .i64 (Int.tdiv i.gK 32))) (iv (i.gK/32)) (congrArg (Value.int .i64) (IntWalk.i64_quo _ _ om))<|J.wi 1 [] [] [] 153 ((i.gK/32)+1)<|J.lb 1 [] [] [] S23 1 rfl 155 (iv p.aA)<|J.e 3 [.bool (decide (((i.gK/32)+1)<p.aA))] func32 (hR _ _ ?_)
     exact⟨congrArg Value.bool (by unfold cv;(repeat first | rw[if_pos om] | rw[if_neg om]);all_goals first | rfl | exact(decide_eq_true om).symm | exact(decide_eq_false om).symm),S23.nil⟩
     refine J.e 7 [.bool true] func32 (hR _ _ ?_)
     exact⟨congrArg Value.bool (by unfold cv;(repeat first | rw[if_pos om] | rw[if_neg om]);all_goals first | rfl | exact(decide_eq_true om).symm | exact(decide_eq_false om).symm),S23.nil⟩
    refine J.c 7 [false] [] [] 106 (i.gOp=13) (fun fk17=>?_) fun fk17=>?_
    exact J.t 2 (X4 true w19 (⟨fun h_=>by first | (cases h_;done) | (have h2_:=of_decide_eq_true h_;omega) | (have h2_:=beq_iff_eq.1 h_;omega) | omega,fun h_=>by first | (cases h_;done) | (have h2_:=of_decide_eq_false h_;omega) | (have h2_:=beq_eq_false_iff_ne.1 h_;omega) | omega⟩) S19)
    exact J.t 5 (X4 (i.gOp==14) w19 (⟨fun h_=>by first | (cases h_;done) | (have h2_:=of_decide_eq_true h_;omega) | (have h2_:=beq_iff_eq.1 h_;omega) | omega,fun h_=>by first | (cases h_;done) | (have h2_:=of_decide_eq_false h_;omega) | (have h2_:=beq_eq_false_iff_ne.1 h_;omega) | omega⟩) S19)
   refine J.c 7 [false] [] [] 80 (i.gOp=9) (fun fk18=>?_) fun fk18=>?_
   exact J.t 2 (X3 true w5 (⟨fun h_=>by first | (cases h_;done) | (have h2_:=of_decide_eq_true h_;omega) | (have h2_:=beq_iff_eq.1 h_;omega) | omega,fun h_=>by first | (cases h_;done) | (have h2_:=of_decide_eq_false h_;omega) | (have h2_:=beq_eq_false_iff_ne.1 h_;omega) | omega⟩) S5)
   exact J.t 5 (X3 (i.gOp==10) w5 (⟨fun h_=>by first | (cases h_;done) | (have h2_:=of_decide_eq_true h_;omega) | (have h2_:=beq_iff_eq.1 h_;omega) | omega,fun h_=>by first | (cases h_;done) | (have h2_:=of_decide_eq_false h_;omega) | (have h2_:=beq_eq_false_iff_ne.1 h_;omega) | omega⟩) S5)
  refine J.c 7 [false] [] [] 32 (i.gOp=5) (fun fk19=>?_) fun fk19=>?_
  exact J.t 2 (X2 true w4 (⟨fun h_=>by first | (cases h_;done) | (have h2_:=of_decide_eq_true h_;omega) | (have h2_:=beq_iff_eq.1 h_;omega) | omega,fun h_=>by first | (cases h_;done) | (have h2_:=of_decide_eq_false h_;omega) | (have h2_:=beq_eq_false_iff_ne.1 h_;omega) | omega⟩) S4)
  refine J.c 6 [false] [] [32] 32 (i.gOp=6) (fun fk20=>?_) fun fk20=>?_
  exact J.t 2 (X2 true w4 (⟨fun h_=>by first | (cases h_;done) | (have h2_:=of_decide_eq_true h_;omega) | (have h2_:=beq_iff_eq.1 h_;omega) | omega,fun h_=>by first | (cases h_;done) | (have h2_:=of_decide_eq_false h_;omega) | (have h2_:=beq_eq_false_iff_ne.1 h_;omega) | omega⟩) S4)
  refine J.c 6 [false] [] [32] 32 (i.gOp=7) (fun fk21=>?_) fun fk21=>?_
  exact J.t 2 (X2 true w4 (⟨fun h_=>by first | (cases h_;done) | (have h2_:=of_decide_eq_true h_;omega) | (have h2_:=beq_iff_eq.1 h_;omega) | omega,fun h_=>by first | (cases h_;done) | (have h2_:=of_decide_eq_false h_;omega) | (have h2_:=beq_eq_false_iff_ne.1 h_;omega) | omega⟩) S4)
  exact J.t 5 (X2 (i.gOp==8) w4 (⟨fun h_=>by first | (cases h_;done) | (have h2_:=of_decide_eq_true h_;omega) | (have h2_:=beq_iff_eq.1 h_;omega) | omega,fun h_=>by first | (cases h_;done) | (have h2_:=of_decide_eq_false h_;omega) | (have h2_:=beq_eq_false_iff_ne.1 h_;omega) | omega⟩) S4)
 refine J.c 8 [] [] [] 24 (i.gOp=2) (fun fk22=>?_) fun fk22=>?_
 exact J.t 2 (X1 true w3 (⟨fun h_=>by first | (cases h_;done) | (have h2_:=of_decide_eq_true h_;omega) | (have h2_:=beq_iff_eq.1 h_;omega) | omega,fun h_=>by first | (cases h_;done) | (have h2_:=of_decide_eq_false h_;omega) | (have h2_:=beq_eq_false_iff_ne.1 h_;omega) | omega⟩) S3)
 exact J.t 5 (X1 (i.gOp==3) w3 (⟨fun h_=>by first | (cases h_;done) | (have h2_:=of_decide_eq_true h_;omega) | (have h2_:=beq_iff_eq.1 h_;omega) | omega,fun h_=>by first | (cases h_;done) | (have h2_:=of_decide_eq_false h_;omega) | (have h2_:=beq_eq_false_iff_ne.1 h_;omega) | omega⟩) S3)
 refine J.h 1 [] [] [] 14 (iv (if 0>i.gK then 0 else i.gK)) (iv 0) (congrArg (Value.int .i64) om)<|J.c0 0 [] [] [] S2 15 hb34 (rtypes_any 0 _ om) fun w27 S27=>J.lb 11 [] [(7,iv (0%128)),(6,iv (0/128%128)),(5,iv (0/16384))] [] S27 1 rfl 20 (.slice p.aK p.al p.br)<|J.lb 7 [] [(8,iv (p.al:Int))] [] S27 0 rfl 23 (iv i.gOp) ?_
 have fk24:¬ (i.gOp=2):=by omega
 refine J.h 8 [] [] [] 24 (.bool (i.gOp==2)) (.bool false) (congrArg Value.bool (beq_eq_false_iff_ne.2 fk24)) ?_
 have fk26:¬ (i.gOp=3):=by omega
 refine J.h 5 [false] [] [24] 24 (.bool (i.gOp==3)) (.bool false) (congrArg Value.bool (beq_eq_false_iff_ne.2 fk26)) ?_
 have fk28:¬ (i.gOp=5):=by omega
 refine J.h 7 [false] [] [] 32 (.bool (i.gOp==5)) (.bool false) (congrArg Value.bool (beq_eq_false_iff_ne.2 fk28)) ?_
 have fk30:¬ (i.gOp=6):=by omega
 refine J.h 6 [false] [] [32] 32 (.bool (i.gOp==6)) (.bool false) (congrArg Value.bool (beq_eq_false_iff_ne.2 fk30)) ?_
 have fk32:¬ (i.gOp=7):=by omega
 refine J.h 6 [false] [] [32] 32 (.bool (i.gOp==7)) (.bool false) (congrArg Value.bool (beq_eq_false_iff_ne.2 fk32)) ?_
 have fk34:¬ (i.gOp=8):=by omega
 refine J.h 5 [false] [] [32] 32 (.bool (i.gOp==8)) (.bool false) (congrArg Value.bool (beq_eq_false_iff_ne.2 fk34)) ?_
 have fk36:¬ (i.gOp=9):=by omega
 refine J.h 7 [false] [] [] 80 (.bool (i.gOp==9)) (.bool false) (congrArg Value.bool (beq_eq_false_iff_ne.2 fk36)) ?_
 have fk38:¬ (i.gOp=10):=by omega
 refine J.h 5 [false] [] [80] 80 (.bool (i.gOp==10)) (.bool false) (congrArg Value.bool (beq_eq_false_iff_ne.2 fk38)) ?_
 have fk40:¬ (i.gOp=13):=by omega
 refine J.h 7 [false] [] [] 106 (.bool (i.gOp==13)) (.bool false) (congrArg Value.bool (beq_eq_false_iff_ne.2 fk40)) ?_
 have fk42:¬ (i.gOp=14):=by omega
 refine J.h 5 [false] [] [106] 106 (.bool (i.gOp==14)) (.bool false) (congrArg Value.bool (beq_eq_false_iff_ne.2 fk42)) ?_
 have fk44:¬ (i.gOp=20):=by omega
 refine J.h 6 [false] [] [] 132 (.bool (i.gOp==20)) (.bool false) (congrArg Value.bool (beq_eq_false_iff_ne.2 fk44)) ?_
 have fk46:¬ (i.gOp=21):=by omega
 refine J.h 6 [false] [] [] 140 (.bool (i.gOp==21)) (.bool false) (congrArg Value.bool (beq_eq_false_iff_ne.2 fk46)) ?_
 have fk48:¬ (i.gOp=22):=by omega
 refine J.h 6 [false] [] [] 148 (.bool (i.gOp==22)) (.bool false) (congrArg Value.bool (beq_eq_false_iff_ne.2 fk48))<|J.e 7 [.bool true] func32 (hR _ _ ?_)
 exact⟨congrArg Value.bool (by unfold cv;(repeat first | rw[if_pos om] | rw[if_neg om]);all_goals first | rfl | exact(decide_eq_true om).symm | exact(decide_eq_false om).symm),S27.nil⟩

end
end Go.Proofs.YtaoolgcddapegaaGreatDoor

namespace Go.Proofs.YtaoolgcddapegaaGreatDoor
noncomputable section
open Go.Eng Go.RowKit Go.Proofs.Tryz
set_option maxRecDepth 20000
set_option maxHeartbeats 20000000
theorem hb10:af prog 10:=fun _ _=>by kernel_rfl
def K10_0:=adv 50 [false] (bo Tryz.f10)
def K10_1:=adv 18 [false] K10_0
def K10_2:=adv 18 [false] K10_1
def K10_3:=adv 18 [false] K10_2
def K10_4:=adv 7 [] (cL (adv 53 [false,false] K10_3))
def K10_5:=adv 17 [false] K10_4
theorem rpvalid_any (p:Prg) (w:World) (hp:prgQ w p):Ret prog 10 #[.agg (eb p)] w (fun v w'=>v=.bool (dz p)∧Sep w [] w'):=by
 refine Ret.st (N:=187) func10 fun R hR S0=>?_
 obtain ⟨q1,q2,q3,q4,q5,q6,q7,q8,q9,q10,q11,q12,q13,q14,q15,q16,q17,q18,q19,q20,q21,q22,q23,q24,q25,_⟩:=id hp
 have ql1:=q2.len_eq
 have ql2:=q5.len_eq
 have ql3:=q8.len_eq
 have ql4:=q11.len_eq
 have ql5:=q15.len_eq
 have ql6:=q18.len_eq
 have ql7:=q21.len_eq
 have ql8:=q24.len_eq
 have hrep:(List.replicate (p.aA).toNat false).length=p.aA.toNat:=List.length_replicate
 have hcat:(p.ao++p.av).length=p.ao.length+p.av.length:=List.length_append
 refine J.nw 2 [] [] [] S0 1 (ba p) 28 fun b1 w1 S1=>J.lb 6 [] [] [] S1 0 rfl 12 (.slice p.cJ p.bu p.dn)<|J.c 3 [] [] [] 15 ((p.bu:Int)>4000) (fun fk1=>?_) fun fk1=>?_
 refine J.e 33 [.bool false] func10 (hR _ _ ?_)
 exact⟨congrArg Value.bool (bh (.inl om)).symm,S1.nil⟩
 refine J.lb 1 [] [] [] S1 0 rfl 17 (.slice p.aK p.al p.br)<|J.c 4 [] [] [] 21 ((p.al:Int)>100) (fun fk2=>?_) fun fk2=>?_
 refine J.e 27 [.bool false] func10 (hR _ _ ?_)
 exact⟨congrArg Value.bool (bh (.inl om)).symm,S1.nil⟩
 refine J.lb 1 [] [] [] S1 0 rfl 23 (.slice p.bO p.bg p.bX)<|J.c 4 [] [] [] 27 ((p.bg:Int)>100) (fun fk3=>?_) fun fk3=>?_
 refine J.e 21 [.bool false] func10 (hR _ _ ?_)
 exact⟨congrArg Value.bool (bh (.inl om)).symm,S1.nil⟩
 refine J.lb 1 [] [] [] S1 0 rfl 29 (.slice p.cu p.bI p.cI)<|J.c 4 [] [] [] 33 ((p.bI:Int)>100) (fun fk4=>?_) fun fk4=>?_
 refine J.e 15 [.bool false] func10 (hR _ _ ?_)
 exact⟨congrArg Value.bool (bh (.inl om)).symm,S1.nil⟩
 refine J.lb 1 [] [] [] S1 0 rfl 35 (iv p.aA)<|J.c 3 [] [] [] 38 (p.aA<0) (fun fk5=>?_) fun fk5=>?_
 refine J.e 10 [.bool false] func10 (hR _ _ ?_)
 exact⟨congrArg Value.bool (bh (.inl om)).symm,S1.nil⟩
 refine J.lb 1 [] [] [] S1 0 rfl 40 (iv p.aA)<|J.c 3 [] [] [] 42 (p.aA>1000) (fun fk6=>?_) fun fk6=>?_
 refine J.e 5 [.bool false] func10 (hR _ _ ?_)
 exact⟨congrArg Value.bool (bh (.inl om)).symm,S1.nil⟩
 have L10_1:∀ (mm_:Nat) (i0:Int) (w2:World),(0≤i0)→(i0≤(p.al:Int))→(∀ j,j<(i0).toNat→bP (p.ap.getD j fx0)=true)→Sep w [box b1 (ba p) 28] w2→((p.al:Int)-i0).toNat=mm_→J prog 10 187 R K10_0 [(3,iv i0),(1,pv b1)] w2:=by
  intro mm1
  induction mm1 using Nat.strongRecOn with
  | _ mm1 ih1 =>
  intro i0 w2 z0 y0 hq0 S2 hm1
  refine J.lb 5 [] [(43,iv i0)] [] S2 0 rfl 45 (.slice p.aK p.al p.br)<|J.c 3 [] [] [] 47 (i0<(p.al:Int)) (fun fk7=>?_) fun fk7=>?_
  refine J.lb 7 [true] [] [] S2 0 rfl 51 (.slice p.aK p.al p.br)<|J.r 1 [] [(52,iv i0)] [] ?_
  obtain ⟨p1,hp1,hc1⟩:=q5.at fx0 (i0).toNat om
  have hel1:=aX q6 fx0 (n:=(i0).toNat) (by have:=q5.len_eq;omega)
  obtain ⟨q26,q27,q28,q29,q30,q31,q32,q33,q34,_⟩:=id hel1
  refine J.ok (OK.index 53 23 10 p.aK p1 p.al (i0).toNat i0 (p1.add ((i0).toNat*10)) kr kr hp1 om om rfl)<|J.ok (OK.ldCells 54 75 (p1.add ((i0).toNat*10)) (aP (p.ap.getD (i0).toNat fx0)) kr kr kr (fun j_ v_ hj_=>S2.cell (hc1 j_ v_ hj_)))<|J.c0 0 [] [] [] S2 55 hb29 (rfxvalid_any (p.ap.getD (i0).toNat fx0) _ (aq hel1 S2)) fun w3 S3=>J.bn 2 [] [] [] 56 (bP (p.ap.getD (i0).toNat fx0)) (fun fk8=>?_) fun fk8=>?_
  exact J.wi 6 [false] [] [] 49 (i0+1)<|J.t 3 (ih1 _ (show((p.al:Int)-(i0+1)).toNat<mm1 from by omega) (i0+1) w3 om om (dc (q:=fun j=>bP (p.ap.getD j fx0)=true) z0 hq0 fk8) S3 rfl)
  refine J.e 5 [.bool false] func10 (hR _ _ ?_)
  exact⟨congrArg Value.bool (bh (.inr (.inl (all_no fx0 (j:=i0.toNat) om fk8)))).symm,S3.nil⟩
  have L10_2:∀ (mm_:Nat) (i1:Int) (w4:World),(0≤i1)→(i1≤(p.bg:Int))→(∀ j,j<(i1).toNat→cF (p.bN.getD j (⟨none,0,0,[],none,0,0,[]⟩:Crv))=true)→Sep w [box b1 (ba p) 28] w4→((p.bg:Int)-i1).toNat=mm_→J prog 10 187 R K10_1 [(4,iv i1),(1,pv b1)] w4:=by
   intro mm2
   induction mm2 using Nat.strongRecOn with
   | _ mm2 ih2 =>
   intro i1 w4 z1 y1 hq1 S4 hm2
   refine J.lb 5 [] [(57,iv i1)] [] S4 0 rfl 59 (.slice p.bO p.bg p.bX)<|J.c 3 [] [] [] 61 (i1<(p.bg:Int)) (fun fk9=>?_) fun fk9=>?_
   refine J.lb 7 [true] [] [] S4 0 rfl 65 (.slice p.bO p.bg p.bX)<|J.r 1 [] [(66,iv i1)] [] ?_
   obtain ⟨p2,hp2,hc2⟩:=q8.at (⟨none,0,0,[],none,0,0,[]⟩:Crv) (i1).toNat om
   have hel2:=aX q9 (⟨none,0,0,[],none,0,0,[]⟩:Crv) (n:=(i1).toNat) (by have:=q8.len_eq;omega)
   obtain ⟨q35,q36,q37,q38,q39,q40,_⟩:=id hel2
   have ql9:=q36.len_eq
   have ql10:=q39.len_eq
   refine J.ok (OK.index 67 24 2 p.bO p2 p.bg (i1).toNat i1 (p2.add ((i1).toNat*2)) kr kr hp2 om om rfl)<|J.ok (OK.ldCells 68 66 (p2.add ((i1).toNat*2)) (crvC (p.bN.getD (i1).toNat (⟨none,0,0,[],none,0,0,[]⟩:Crv))) kr kr kr (fun j_ v_ hj_=>S4.cell (hc2 j_ v_ hj_)))<|J.c0 0 [] [] [] S4 69 hb30 (rcvalid_any (p.bN.getD (i1).toNat (⟨none,0,0,[],none,0,0,[]⟩:Crv)) _ (ec hel2 S4)) fun w5 S5=>J.bn 2 [] [] [] 70 (cF (p.bN.getD (i1).toNat (⟨none,0,0,[],none,0,0,[]⟩:Crv))) (fun fk10=>?_) fun fk10=>?_
   exact J.wi 6 [false] [] [] 63 (i1+1)<|J.t 3 (ih2 _ (show((p.bg:Int)-(i1+1)).toNat<mm2 from by omega) (i1+1) w5 om om (dc (q:=fun j=>cF (p.bN.getD j (⟨none,0,0,[],none,0,0,[]⟩:Crv))=true) z1 hq1 fk10) S5 rfl)
   refine J.e 5 [.bool false] func10 (hR _ _ ?_)
   exact⟨congrArg Value.bool (bh (.inr (.inr (.inl (all_no (⟨none,0,0,[],none,0,0,[]⟩:Crv) (j:=i1.toNat) om fk10))))).symm,S5.nil⟩
   have L10_3:∀ (mm_:Nat) (i2:Int) (w6:World),(0≤i2)→(i2≤(p.bI:Int))→(∀ j,j<(i2).toNat→co (p.cB.getD j (⟨none,0,0,[],none,0,0,[],none,0,0,[]⟩:Mp))=true)→Sep w [box b1 (ba p) 28] w6→((p.bI:Int)-i2).toNat=mm_→J prog 10 187 R K10_2 [(5,iv i2),(1,pv b1)] w6:=by
    intro mm3
    induction mm3 using Nat.strongRecOn with
    | _ mm3 ih3 =>
    intro i2 w6 z2 y2 hq2 S6 hm3
    refine J.lb 5 [] [(71,iv i2)] [] S6 0 rfl 73 (.slice p.cu p.bI p.cI)<|J.c 3 [] [] [] 75 (i2<(p.bI:Int)) (fun fk11=>?_) fun fk11=>?_
    refine J.lb 7 [true] [] [] S6 0 rfl 79 (.slice p.cu p.bI p.cI)<|J.r 1 [] [(80,iv i2)] [] ?_
    obtain ⟨p3,hp3,hc3⟩:=q11.at (⟨none,0,0,[],none,0,0,[],none,0,0,[]⟩:Mp) (i2).toNat om
    have hel3:=aX q12 (⟨none,0,0,[],none,0,0,[],none,0,0,[]⟩:Mp) (n:=(i2).toNat) (by have:=q11.len_eq;omega)
    obtain ⟨q41,q42,q43,q44,q45,q46,q47,q48,q49,_⟩:=id hel3
    have ql11:=q42.len_eq
    have ql12:=q45.len_eq
    have ql13:=q48.len_eq
    refine J.ok (OK.index 81 25 3 p.cu p3 p.bI (i2).toNat i2 (p3.add ((i2).toNat*3)) kr kr hp3 om om rfl)<|J.ok (OK.ldCells 82 62 (p3.add ((i2).toNat*3)) (mpC (p.cB.getD (i2).toNat (⟨none,0,0,[],none,0,0,[],none,0,0,[]⟩:Mp))) kr kr kr (fun j_ v_ hj_=>S6.cell (hc3 j_ v_ hj_)))<|J.c0 0 [] [] [] S6 83 hb31 (rvalid_any (p.cB.getD (i2).toNat (⟨none,0,0,[],none,0,0,[],none,0,0,[]⟩:Mp)) _ (eh hel3 S6)) fun w7 S7=>J.bn 2 [] [] [] 84 (co (p.cB.getD (i2).toNat (⟨none,0,0,[],none,0,0,[],none,0,0,[]⟩:Mp))) (fun fk12=>?_) fun fk12=>?_
    exact J.wi 6 [false] [] [] 77 (i2+1)<|J.t 3 (ih3 _ (show((p.bI:Int)-(i2+1)).toNat<mm3 from by omega) (i2+1) w7 om om (dc (q:=fun j=>co (p.cB.getD j (⟨none,0,0,[],none,0,0,[],none,0,0,[]⟩:Mp))=true) z2 hq2 fk12) S7 rfl)
    refine J.e 5 [.bool false] func10 (hR _ _ ?_)
    exact⟨congrArg Value.bool (bh (.inr (.inr (.inr (.inl (all_no (⟨none,0,0,[],none,0,0,[],none,0,0,[]⟩:Mp) (j:=i2.toNat) om fk12)))))).symm,S7.nil⟩
    have L10_4:∀ (mm_:Nat) (i3:Int) (w8:World),(0≤i3)→(i3≤(p.bu:Int))→(∀ j,j<(i3).toNat→cT p (p.aC.getD j bq)=true)→Sep w [box b1 (ba p) 28] w8→((p.bu:Int)-i3).toNat=mm_→J prog 10 187 R K10_3 [(6,iv i3),(1,pv b1)] w8:=by
     intro mm4
     induction mm4 using Nat.strongRecOn with
     | _ mm4 ih4 =>
     intro i3 w8 z3 y3 hq3 S8 hm4
     refine J.lb 5 [] [(85,iv i3)] [] S8 0 rfl 87 (.slice p.cJ p.bu p.dn)<|J.c 3 [] [] [] 89 (i3<(p.bu:Int)) (fun fk13=>?_) fun fk13=>?_
     refine J.r 5 [true] [] [] ?_
     rcases Bool.eq_false_or_eq_true (dh (p.aC.getD (i3).toNat bq)) with fk14 | fk14
     obtain ⟨p4,hp4,hc4⟩:=q2.at bq (i3).toNat om
     have hel4:=aX q3 bq (n:=(i3).toNat) (by have:=q2.len_eq;omega)
     obtain ⟨q50,q51,q52,q53,q54,_⟩:=id hel4
     refine J.drawPlan (fun w_=>Sep w [box b1 (ba p) 28] w_) [(0,true),(1,true),(2,true),(3,true),(4,true),(5,false),(6,true),(7,true),(8,true),(9,true),(10,true),(11,true),(12,true),(13,true),(14,false),(15,true),(16,true)] S8 Tryz.mixed kr (aF (T:=[(0,some 92,2),(1,some 93,4951760157141521099596496896),(0,some 94,64),(6,some 95,29710560942849126597578981376),(8,some 96,39614081257132168796771975168),(16,some 97,79228162514264337593543950336),(32,some 98,158456325028528675187087900672),(96,some 99,316912650057057350374175801344),(128,some 100,633825300114114700748351602690),(128,some 101,633825300114114700748351602690),(640,some 102,3169126500570573503741758013440),(128,some 103,633825300114114700748351602752),(3200,some 104,15845632502852867518708790067200),(4224,some 105,20916234903765785124695602888704),(8576,some 106,42466295107645684950139557380096),(16512,some 107,81763463714720796396537356746752),(32896,some 108,162893102129327478092326361890816)]) kr kr) ?_
     intro w9 S9
     refine PB.mk S9<|PL.take 0 92 (pv b1) (fun _ _=>kr)<|PL.takeOK 1 (fun w_ S_=>OK.ldBox S_ 0 93 22 0 (.slice p.cJ p.bu p.dn) kr rfl kr) rfl<|PL.take 2 94 (iv i3) (fun _ _=>kr)<|PL.takeOK 3 (fun w_ S_=>OK.index 95 22 5 p.cJ p4 p.bu (i3).toNat i3 (p4.add ((i3).toNat*5)) kr kr hp4 om om rfl) rfl<|PL.takeOK 4 (fun w_ S_=>OK.ldCells 96 48 (p4.add ((i3).toNat*5)) (aR (p.aC.getD (i3).toNat bq)) kr kr kr (fun j_ v_ hj_=>S_.cell (hc4 j_ v_ hj_))) rfl<|PL.callF 97 17 #[.agg (dm (p.aC.getD (i3).toNat bq))] hb17 kr (rformed_any (p.aC.getD (i3).toNat bq) _ (df hel4 S9)) ?_
     rintro _ w10 ⟨rfl,T1⟩
     have S10:Sep w [box b1 (ba p) 28] w10:=S9.trans T1
     clear T1 S9
     refine PB.head (.bool true) (congrArg Value.bool fk14)<|PB.mk S10<|PL.take 6 98 (.bool false) (fun _ _=>kr)<|PL.take 7 99 (.bool false) (fun _ _=>kr)<|PL.takeOK 8 (fun w_ S_=>OK.ldBox S_ 0 100 28 0 (.agg (eb p)) kr rfl kr) rfl<|PL.take 9 101 (pv b1) (fun _ _=>kr)<|PL.takeOK 10 (fun w_ S_=>OK.ldBox S_ 0 102 22 0 (.slice p.cJ p.bu p.dn) kr rfl kr) rfl<|PL.take 11 103 (iv i3) (fun _ _=>kr)<|PL.takeOK 12 (fun w_ S_=>OK.index 104 22 5 p.cJ p4 p.bu (i3).toNat i3 (p4.add ((i3).toNat*5)) kr kr hp4 om om rfl) rfl<|PL.takeOK 13 (fun w_ S_=>OK.ldCells 105 48 (p4.add ((i3).toNat*5)) (aR (p.aC.getD (i3).toNat bq)) kr kr kr (fun j_ v_ hj_=>S_.cell (hc4 j_ v_ hj_))) rfl<|PL.callF 106 32 #[.agg (eb p),.agg (dm (p.aC.getD (i3).toNat bq))] hb32 kr (rnamed_any p (p.aC.getD (i3).toNat bq) _ (dN hp S10) (df hel4 S10) fk14) ?_
     rintro _ w11 ⟨rfl,T2⟩
     have S11:Sep w [box b1 (ba p) 28] w11:=S10.trans T2
     clear T2 S10
     refine PB.mk S11<|PL.take 15 107 (.bool (!(cv p (p.aC.getD (i3).toNat bq)))) (fun _ _=>kr)<|PL.take 16 108 (.bool (!(cv p (p.aC.getD (i3).toNat bq)))) (fun _ _=>kr)<|PL.done<|J.bn 0 [] [] [] 108 (cv p (p.aC.getD (i3).toNat bq)) (fun fk15=>?_) fun fk15=>?_
     exact J.wi 6 [false] [] [] 91 (i3+1)<|J.t 3 (ih4 _ (show((p.bu:Int)-(i3+1)).toNat<mm4 from by omega) (i3+1) w11 om om (dc (q:=fun j=>cT p (p.aC.getD j bq)=true) z3 hq3 (by unfold cT;rw[fk14,fk15];rfl)) S11 rfl)
     refine J.e 5 [.bool false] func10 (hR _ _ ?_)
     exact⟨congrArg Value.bool (bh (.inr (.inr (.inr (.inr (.inl (all_no bq (j:=i3.toNat) om (by unfold cT;rw[fk15];rw[Bool.and_false])))))))).symm,S11.nil⟩
     obtain ⟨p5,hp5,hc5⟩:=q2.at bq (i3).toNat om
     have hel5:=aX q3 bq (n:=(i3).toNat) (by have:=q2.len_eq;omega)
     obtain ⟨q55,q56,q57,q58,q59,_⟩:=id hel5
     refine J.drawPlan (fun w_=>Sep w [box b1 (ba p) 28] w_) [(0,true),(1,true),(2,true),(3,true),(4,true),(5,false),(6,true),(7,true),(8,true),(9,true),(10,true),(11,true),(12,true),(13,true),(14,true),(15,true),(16,true)] S8 Tryz.mixed kr (aF (T:=[(0,some 92,2),(1,some 93,4951760157141521099596496896),(0,some 94,64),(6,some 95,29710560942849126597578981376),(8,some 96,39614081257132168796771975168),(16,some 97,79228162514264337593543950336),(32,some 98,158456325028528675187087900672),(96,some 99,316912650057057350374175801344),(128,some 100,633825300114114700748351602690),(128,some 101,633825300114114700748351602690),(640,some 102,3169126500570573503741758013440),(128,some 103,633825300114114700748351602752),(3200,some 104,15845632502852867518708790067200),(4224,some 105,20916234903765785124695602888704),(8576,some 106,42466295107645684950139557380096),(16512,some 107,81763463714720796396537356746752),(32896,some 108,162893102129327478092326361890816)]) kr kr) ?_
     intro w12 S12
     refine PB.mk S12<|PL.take 0 92 (pv b1) (fun _ _=>kr)<|PL.takeOK 1 (fun w_ S_=>OK.ldBox S_ 0 93 22 0 (.slice p.cJ p.bu p.dn) kr rfl kr) rfl<|PL.take 2 94 (iv i3) (fun _ _=>kr)<|PL.takeOK 3 (fun w_ S_=>OK.index 95 22 5 p.cJ p5 p.bu (i3).toNat i3 (p5.add ((i3).toNat*5)) kr kr hp5 om om rfl) rfl<|PL.takeOK 4 (fun w_ S_=>OK.ldCells 96 48 (p5.add ((i3).toNat*5)) (aR (p.aC.getD (i3).toNat bq)) kr kr kr (fun j_ v_ hj_=>S_.cell (hc5 j_ v_ hj_))) rfl<|PL.callF 97 17 #[.agg (dm (p.aC.getD (i3).toNat bq))] hb17 kr (rformed_any (p.aC.getD (i3).toNat bq) _ (df hel5 S12)) ?_
     rintro _ w13 ⟨rfl,T3⟩
     have S13:Sep w [box b1 (ba p) 28] w13:=S12.trans T3
     clear T3 S12
     refine PB.head (.bool false) (congrArg Value.bool fk14)<|PB.mk S13<|PL.take 6 98 (.bool true) (fun _ _=>kr)<|PL.take 7 99 (.bool true) (fun _ _=>kr)<|PL.takePass 8 (some 100) kr<|PL.takePass 9 (some 101) kr<|PL.takePass 10 (some 102) kr<|PL.takePass 11 (some 103) kr<|PL.takePass 12 (some 104) kr<|PL.takePass 13 (some 105) kr<|PL.takePass 14 (some 106) kr ?_
     refine PL.takePass 15 (some 107) kr<|PL.take 16 108 (.bool true) (fun _ _=>kr)<|PL.done<|J.e 5 [.bool false] func10 (hR _ _ ?_)
     exact⟨congrArg Value.bool (bh (.inr (.inr (.inr (.inr (.inl (all_no bq (j:=i3.toNat) om (by unfold cT;rw[fk14];rfl)))))))).symm,S13.nil⟩
     refine J.lb 5 [false] [] [] S8 0 rfl 109 (.agg (eb p))<|J.lb 1 [] [] [] S8 0 rfl 111 (.slice p.bf p.aE p.bi)<|J.c0 0 [] [] [] S8 112 hb33 (rcells_any p p.bf p.aE p.bi p.ao _ (q15.sep S8)) fun w14 S14=>J.bn 2 [] [] [] 114 (cK (p).aA p.ao) (fun fk16=>?_) fun fk16=>?_
     have fb1:=(cS fk16).1
     refine J.lb 0 [] [] [] S14 0 rfl 115 (.agg (eb p))<|J.lb 1 [] [] [] S14 0 rfl 117 (.slice p.bB p.aI p.bC)<|J.c0 0 [] [] [] S14 118 hb33 (rcells_any p p.bB p.aI p.bC p.aN _ (q21.sep S14)) fun w15 S15=>J.bn 3 [] [] [] 121 (cK (p).aA p.aN) (fun fk17=>?_) fun fk17=>?_
     have fb2:=(cS fk17).1
     refine J.lb 0 [] [] [] S15 0 rfl 122 (.agg (eb p))<|J.lb 1 [] [] [] S15 0 rfl 124 (.slice p.bw p.aV p.bt)<|J.c0 0 [] [] [] S15 125 hb33 (rcells_any p p.bw p.aV p.bt p.av _ (q18.sep S15)) fun w16 S16=>J.bn 3 [] [] [] 128 (cK (p).aA p.av) (fun fk18=>?_) fun fk18=>?_
     have fb3:=(cS fk18).1
     refine J.lb 1 [] [] [] S16 0 rfl 130 (.slice p.cj p.bj p.cw)<|J.lb 2 [] [(131,iv (p.bj:Int))] [] S16 0 rfl 133 (.slice p.bw p.aV p.bt)<|J.cn 4 [] [] [] 136 ((p.bj:Int)=(p.aV:Int)) (fun fk19=>?_) fun fk19=>?_
     refine J.lb 5 [false] [] [] S16 0 rfl 138 (iv p.aA)<|J.make (di Value.bool) false S16 139 78 4 1 p.aA p.aA ((p.aA).toNat) (.bool false) 1 kr om om kr kr kr rF om ?_
     intro b2 w17 S17
     refine J.r 3 [] [(7,.slice (some ⟨b2,0,none⟩) ((List.replicate ((p.aA).toNat) false).length) ((p.aA).toNat))] []<|J.drawPlan (fun w_=>Sep w [am (di Value.bool) (some ⟨b2,0,none⟩) ((p.aA).toNat) 4 1 (List.replicate ((p.aA).toNat) false),box b1 (ba p) 28] w_) [(1,true),(2,true),(4,true),(5,true),(0,false),(3,false),(6,false),(7,true)] S17 Tryz.mixed kr (aF (T:=[(0,some 140,0),(0,some 141,2),(2,some 142,2787593149816327892691964784081045188247552),(5,some 143,6968982874540819731729911960202612970618880),(0,some 144,2),(16,some 145,22300745198530623141535718272648361505980416),(40,some 146,55751862996326557853839295681620903764951040),(127,some 8,89202980794122492566142873090593446023921664)]) kr kr) ?_
     intro w18 S18
     refine PB.mk S18<|PL.take 1 141 (.pointer (some ⟨b1,5,none⟩)) (fun _ _=>kr)<|PL.takeOK 2 (fun w_ S_=>OK.ldBox S_ 1 142 26 5 (.slice p.bf p.aE p.bi) kr rfl kr) rfl<|PL.take 4 144 (.pointer (some ⟨b1,6,none⟩)) (fun _ _=>kr)<|PL.takeOK 5 (fun w_ S_=>OK.ldBox S_ 1 145 26 6 (.slice p.bw p.aV p.bt) kr rfl kr) rfl<|PL.newSlice S18 140 0 [] 3 kr ?_
     intro b3 w19 S19
     refine PB.mk (S19.erase 0) ?_
     have S20:Sep w [am aM (some ⟨b3,0,none⟩) 0 3 1 ([]),am (di Value.bool) (some ⟨b2,0,none⟩) ((p.aA).toNat) 4 1 (List.replicate ((p.aA).toNat) false),box b1 (ba p) 28] w19:=box_row aM S19 0 [] 1 rfl rfl rfl (by simp[maxLen]) (.inr trivial)
     have hz1:=q15.sep S20
     have:=hz1.len_eq
     refine PL.appendN aM S20 0 ([]) p.ao p.aE oz 143 26 (iv 0) 8 p.bf p.bi rfl kr kr kr kr dE (q15.sep S20).enc (fun h_=>Ones.nil (h_▸hz1)) (fun _=>rfl) (fun _=>rfl) (⟨by first | omega | (simp;omega),by first | omega | (simp;omega)⟩) ?_
     intro ra1 rc1 w20 S21
     replace S21:Sep w [am aM ra1 rc1 3 1 p.ao,am (di Value.bool) (some ⟨b2,0,none⟩) ((p.aA).toNat) 4 1 (List.replicate ((p.aA).toNat) false),box b1 (ba p) 28] w20:=S21
     refine PB.mk (S21.erase 0) ?_
     have hz2:=q18.sep S21
     have:=hz2.len_eq
     refine PL.appendN aM S21 0 p.ao p.av p.aV oz 146 26 (iv 0) 8 p.bw p.bt rfl kr kr kr kr dE (q18.sep S21).enc (fun h_=>Ones.nil (h_▸hz2)) (fun _=>rfl) (fun _=>rfl) (⟨by first | omega | (simp;omega),by first | omega | (simp;omega)⟩) ?_
     intro ra2 rc2 w21 S22
     replace S22:Sep w [am aM ra2 rc2 3 1 (p.ao++p.av),am (di Value.bool) (some ⟨b2,0,none⟩) ((p.aA).toNat) 4 1 (List.replicate ((p.aA).toNat) false),box b1 (ba p) 28] w21:=S22
     refine PB.mk (S22.erase 0)<|PL.take 7 8 (.slice ra2 ((p.ao++p.av).length) rc2) (fun _ _=>kr)<|PL.done ?_
     have L10_5:∀ (mm_:Nat) (tk:List Bool) (k:Int) (w22:World),(0≤k)→(k≤((p.ao++p.av).length:Int))→(markP (p.ao++p.av) p.aA (k).toNat tk)→Sep w [am aM ra2 rc2 3 1 (p.ao++p.av),am (di Value.bool) (some ⟨b2,0,none⟩) ((p.aA).toNat) 4 1 tk,box b1 (ba p) 28] w22→(((p.ao++p.av).length:Int)-k).toNat=mm_→J prog 10 187 R K10_4 [(9,iv k),(8,.slice ra2 ((p.ao++p.av).length) rc2),(7,.slice (some ⟨b2,0,none⟩) ((List.replicate ((p.aA).toNat) false).length) ((p.aA).toNat)),(1,pv b1)] w22:=by
      intro mm5
      induction mm5 using Nat.strongRecOn with
      | _ mm5 ih5 =>
      intro tk k w22 k0 k1 hM S23 hm5
      have hck0:=fun (j:Nat) (hj:j<(p.ao++p.av).length)=>getD_two (j:=j) ((cS fk16).2) ((cS fk18).2) hj
      have hck1:k<((p.ao++p.av).length:Int)→_:=fun h_=>hck0 k.toNat om
      have htk:=hM.1
      refine J.c 8 [] [] [] 150 (k<((p.ao++p.av).length:Int)) (fun fk20=>?_) fun fk20=>?_
      have hck:=hck1 om
      refine J.r 10 [true] [(155,iv k),(154,.slice ra2 ((p.ao++p.av).length) rc2),(153,.slice (some ⟨b2,0,none⟩) ((List.replicate ((p.aA).toNat) false).length) ((p.aA).toNat))] [] ?_
      obtain ⟨p6,hp6⟩:=ck (S23.nth 0 rfl) (show 0<(p.ao++p.av).length by first | omega | (simp;omega))
      refine J.ok (OK.index 156 26 1 ra2 p6 ((p.ao++p.av).length) (k).toNat k (p6.add (k).toNat) kr kr hp6 om oz nO)<|J.ok (OK.ldCell 157 3 (p6.add (k).toNat) (iv ((p.ao++p.av).getD (k).toNat 0)) kr kr (cQ (g:=(Value.int .i64)) S23 0 rfl hp6 0 (k).toNat oz)) ?_
      obtain ⟨p7,hp7⟩:=ck (S23.nth 1 rfl) (show 0<(tk).length by first | omega | (simp;omega))
      refine J.ok (OK.index 158 78 1 (some ⟨b2,0,none⟩) p7 ((List.replicate ((p.aA).toNat) false).length) ((p.ao++p.av).getD (k).toNat 0).toNat ((p.ao++p.av).getD (k).toNat 0) (p7.add ((p.ao++p.av).getD (k).toNat 0).toNat) kr kr hp7 om oz nO)<|J.ok (OK.ldCell 159 4 (p7.add ((p.ao++p.av).getD (k).toNat 0).toNat) (.bool (tk.getD ((p.ao++p.av).getD (k).toNat 0).toNat false)) kr kr (cQ (g:=Value.bool) S23 1 rfl hp7 false ((p.ao++p.av).getD (k).toNat 0).toNat oz))<|J.b 1 [] [] [] 159 (tk.getD ((p.ao++p.av).getD (k).toNat 0).toNat false) (fun fk21=>?_) fun fk21=>?_
      refine J.e 5 [.bool false] func10 (hR _ _ ?_)
      exact⟨congrArg Value.bool (bh (.inr (.inr (.inr (.inr (.inr (.inr (.inr (.inr (.inr (.inl (mark_twice hM om hck fk21)))))))))))).symm,S23.nil⟩
      refine J.r 6 [false] [(162,iv k),(161,.slice ra2 ((p.ao++p.av).length) rc2),(160,.slice (some ⟨b2,0,none⟩) ((List.replicate ((p.aA).toNat) false).length) ((p.aA).toNat))] []<|J.ok (OK.index 163 26 1 ra2 p6 ((p.ao++p.av).length) (k).toNat k (p6.add (k).toNat) kr kr hp6 om oz nO)<|J.ok (OK.ldCell 164 3 (p6.add (k).toNat) (iv ((p.ao++p.av).getD (k).toNat 0)) kr kr (cQ (g:=(Value.int .i64)) S23 0 rfl hp6 0 (k).toNat oz))<|J.ok (OK.index 165 78 1 (some ⟨b2,0,none⟩) p7 ((List.replicate ((p.aA).toNat) false).length) ((p.ao++p.av).getD (k).toNat 0).toNat ((p.ao++p.av).getD (k).toNat 0) (p7.add ((p.ao++p.av).getD (k).toNat 0).toNat) kr kr hp7 om oz nO)<|J.stRow1 Value.bool bool_one S23 1 tk 4 p7 ((p.ao++p.av).getD (k).toNat 0).toNat true rfl kr hp7 oz kr ?_
      intro w23 S24
      replace S24:Sep w [am aM ra2 rc2 3 1 (p.ao++p.av),am (di Value.bool) (some ⟨b2,0,none⟩) ((p.aA).toNat) 4 1 (tk.set ((p.ao++p.av).getD (k).toNat 0).toNat true),box b1 (ba p) 28] w23:=S24
      exact J.wi 5 [] [] [] 152 (k+1)<|J.t 3 (ih5 _ (show(((p.ao++p.av).length:Int)-(k+1)).toNat<mm5 from by omega) (tk.set ((p.ao++p.av).getD (k).toNat 0).toNat true) (k+1) w23 om om (by rw[show(k+1).toNat=k.toNat+1 by omega];exact mark_step hM om hck fk21) S24 rfl)
      have L10_6:∀ (mm_:Nat) (i5:Int) (w24:World),(0≤i5)→(i5≤(p.bj:Int))→(∀ j,j<(i5).toNat→initB (p.bM.getD j 0)=true)→Sep w [am aM ra2 rc2 3 1 (p.ao++p.av),am (di Value.bool) (some ⟨b2,0,none⟩) ((p.aA).toNat) 4 1 tk,box b1 (ba p) 28] w24→((p.bj:Int)-i5).toNat=mm_→J prog 10 187 R K10_5 [(10,iv i5),(1,pv b1)] w24:=by
       intro mm6
       induction mm6 using Nat.strongRecOn with
       | _ mm6 ih6 =>
       intro i5 w24 z5 y5 hq5 S25 hm6
       refine J.lb 5 [] [(166,iv i5)] [] S25 2 rfl 168 (.slice p.cj p.bj p.cw)<|J.c 3 [] [] [] 170 (i5<(p.bj:Int)) (fun fk22=>?_) fun fk22=>?_
       refine J.lb 7 [true] [] [] S25 2 rfl 174 (.slice p.cj p.bj p.cw)<|J.r 1 [] [(175,iv i5)] [] ?_
       obtain ⟨p8,hp8,hc6⟩:=q24.at 0 (i5).toNat om
       have hel6:=aX q25 0 (n:=(i5).toNat) (by have:=q24.len_eq;omega)
       refine J.ok (OK.index 176 26 1 p.cj p8 p.bj (i5).toNat i5 (p8.add (i5).toNat) kr kr hp8 om om nO)<|J.ok (OK.ldCell 177 3 (p8.add (i5).toNat) (iv (p.bM.getD (i5).toNat 0)) kr kr (S25.cell hc6))<|J.c 2 [] [] [] 179 ((p.bM.getD (i5).toNat 0)<(-1099511627776)) (fun fk23=>?_) fun fk23=>?_
       refine J.e 13 [.bool false] func10 (hR _ _ ?_)
       exact⟨congrArg Value.bool (bh (.inr (.inr (.inr (.inr (.inr (.inr (.inr (.inr (.inr (.inr (all_no 0 (j:=i5.toNat) om (by unfold initB;first | rw[decide_eq_false (show ¬ -1099511627776≤p.bM.getD (i5).toNat 0 by omega)];rfl | rw[decide_eq_false (show ¬ p.bM.getD (i5).toNat 0≤1099511627776 by omega),Bool.and_false]))))))))))))).symm,S25.nil⟩
       refine J.lb 1 [] [] [] S25 2 rfl 181 (.slice p.cj p.bj p.cw)<|J.r 1 [] [(182,iv i5)] []<|J.ok (OK.index 183 26 1 p.cj p8 p.bj (i5).toNat i5 (p8.add (i5).toNat) kr kr hp8 om om nO)<|J.ok (OK.ldCell 184 3 (p8.add (i5).toNat) (iv (p.bM.getD (i5).toNat 0)) kr kr (S25.cell hc6))<|J.c 3 [] [] [] 186 ((p.bM.getD (i5).toNat 0)>1099511627776) (fun fk24=>?_) fun fk24=>?_
       refine J.e 5 [.bool false] func10 (hR _ _ ?_)
       exact⟨congrArg Value.bool (bh (.inr (.inr (.inr (.inr (.inr (.inr (.inr (.inr (.inr (.inr (all_no 0 (j:=i5.toNat) om (by unfold initB;first | rw[decide_eq_false (show ¬ -1099511627776≤p.bM.getD (i5).toNat 0 by omega)];rfl | rw[decide_eq_false (show ¬ p.bM.getD (i5).toNat 0≤1099511627776 by omega),Bool.and_false]))))))))))))).symm,S25.nil⟩
       exact J.wi 6 [false] [] [] 172 (i5+1)<|J.t 3 (ih6 _ (show((p.bj:Int)-(i5+1)).toNat<mm6 from by omega) (i5+1) w24 om om (dc (q:=fun j=>initB (p.bM.getD j 0)=true) z5 hq5 (by unfold initB;rw[decide_eq_true (show -1099511627776≤p.bM.getD (i5).toNat 0 by omega),decide_eq_true (show p.bM.getD (i5).toNat 0≤1099511627776 by omega)];rfl)) S25 rfl)
       refine J.e 6 [.bool true] func10 (hR _ _ ?_)
       exact⟨congrArg Value.bool (validP_yes om ((cN fx0).2 fun j hj=>hq0 j om) ((cN (⟨none,0,0,[],none,0,0,[]⟩:Crv)).2 fun j hj=>hq1 j om) ((cN (⟨none,0,0,[],none,0,0,[],none,0,0,[]⟩:Mp)).2 fun j hj=>hq2 j om) ((cN bq).2 fun j hj=>hq3 j om) fk16 fk17 fk18 om (mark_end hM om) ((cN 0).2 fun j hj=>hq5 j om)).symm,S25.nil⟩
      exact J.t 9 (L10_6 _ 0 w22 om om (by intro j hj;simp at hj) S23 rfl)
     exact J.t 7 (L10_5 _ (List.replicate ((p.aA).toNat) false) 0 w21 om om (mark_zero om) S22 rfl)
     refine J.e 5 [.bool false] func10 (hR _ _ ?_)
     exact⟨congrArg Value.bool (bh (.inr (.inr (.inr (.inr (.inr (.inr (.inr (.inr (.inl om)))))))))).symm,S16.nil⟩
     refine J.e 14 [.bool false] func10 (hR _ _ ?_)
     exact⟨congrArg Value.bool (bh (.inr (.inr (.inr (.inr (.inr (.inr (.inr (.inl (fk18)))))))))).symm,S16.nil⟩
     refine J.e 21 [.bool false] func10 (hR _ _ ?_)
     exact⟨congrArg Value.bool (bh (.inr (.inr (.inr (.inr (.inr (.inr (.inl (fk17))))))))).symm,S15.nil⟩
     refine J.e 28 [.bool false] func10 (hR _ _ ?_)
     exact⟨congrArg Value.bool (bh (.inr (.inr (.inr (.inr (.inr (.inl (fk16)))))))).symm,S14.nil⟩
    exact J.t 9 (L10_4 _ 0 w6 om om (by intro j hj;simp at hj) S6 rfl)
   exact J.t 9 (L10_3 _ 0 w4 om om (by intro j hj;simp at hj) S4 rfl)
  exact J.t 9 (L10_2 _ 0 w2 om om (by intro j hj;simp at hj) S2 rfl)
 exact J.t 9 (L10_1 _ 0 w1 om om (by intro j hj;simp at hj) S1 rfl)
end
end Go.Proofs.YtaoolgcddapegaaGreatDoor
