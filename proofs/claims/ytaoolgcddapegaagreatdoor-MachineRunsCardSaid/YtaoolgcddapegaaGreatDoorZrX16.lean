/- Walks of functions of this seat, printed by a program over the engine. Conditions: as each theorem says. -/
import Derived.Test.YtaoolgcddapegaaGreatDoorZrW14
set_option linter.unusedSimpArgs false
set_option linter.unusedVariables false
namespace Go.Proofs.YtaoolgcddapegaaGreatDoor
noncomputable section
open Go.Eng Go.RowKit Go.Proofs.Tryz
set_option maxRecDepth 20000
set_option maxHeartbeats 20000000
abbrev bv:List Value:=[iv 0,.bool false,iv 0,iv 0,iv 0,iv 0,iv 0,iv 0,iv 0,iv 0]
abbrev cU:Array Value:=#[iv 0,.bool false,iv 0,iv 0,iv 0,iv 0,iv 0,iv 0,iv 0,iv 0]
theorem hb110:af prog 110:=fun _ _=>by kernel_rfl
def K110_0:=List.drop 1 (adv 30 [] (bo Tryz.f110))
def K110_1:=List.drop 1 (adv 1 [] K110_0)
def K110_2:=List.drop 1 (adv 2 [] K110_1)
theorem types_any (p:Prg) (i:Ins) (w:World) (hp:prgQ w p) (hi:insQ w i) (hk:0≤i.gK∧i.gK<2097152):Ret prog 110 #[.agg (eb p),.agg (dm i)] w (fun v w'=>v=.tuple #[.agg (aJ (tyA p i.gOp i.gK)),.agg (aJ (tyB p i.gOp i.gK)),.agg (aJ (tyC p i.gOp i.gK)),.bool (tyOK p i.gOp i.gK)]∧Sep w [] w'):=by
 refine Ret.st (N:=86) func110 fun R hR S0=>?_
 obtain ⟨q1,q2,q3,q4,q5,q6,q7,q8,q9,q10,q11,q12,q13,q14,q15,q16,q17,q18,q19,q20,q21,q22,q23,q24,q25,_⟩:=id hp
 have ql1:=q2.len_eq
 have ql2:=q5.len_eq
 have ql3:=q8.len_eq
 have ql4:=q11.len_eq
 have ql5:=q15.len_eq
 have ql6:=q18.len_eq
 have ql7:=q21.len_eq
 have ql8:=q24.len_eq
 obtain ⟨q26,q27,q28,q29,q30,_⟩:=id hi
 refine J.nw 2 [] [] [] S0 2 (ba p) 28 fun b1 w1 S1=>J.nw 0 [] [] [] S1 3 (aR i) 48 fun b2 w2 S2=>J.nw 0 [] [] [] S2 4 bv 75 fun b3 w3 S3=>J.nw 0 [] [] [] S3 5 bv 75 fun b4 w4 S4=>J.nw 0 [] [] [] S4 6 bv 75 fun b5 w5 S5=>J.lb 5 [] [] [] S5 3 rfl 16 (iv i.gK)<|J.c0 0 [] [] [] S5 17 hb131 (split3_any i.gK _ om) fun w6 S6=>J.lb 11 [] [(10,iv (i.gK%128)),(9,iv (i.gK/128%128)),(8,iv (i.gK/16384))] [] S6 4 rfl 22 (.slice p.aK p.al p.br) ?_
 have X1:∀ (ton:Bool) (w7:World),((ton=true→i.gOp=9∨i.gOp=10)∧(ton=false→¬ (i.gOp=9∨i.gOp=10)))→Sep w [box b5 bv 75,box b4 bv 75,box b3 bv 75,box b2 (aR i) 48,box b1 (ba p) 28] w7→J prog 110 86 R K110_0 [(11,iv (p.al:Int)),(10,iv (i.gK%128)),(9,iv (i.gK/128%128)),(8,iv (i.gK/16384)),(6,pv b5),(5,pv b4),(4,pv b3),(3,pv b2),(2,pv b1),(12,.bool ton)] w7:=by
  intro ton w7 hton S7
  have X2:∀ (tst:Bool) (w8:World),((tst=true→i.gOp=13∨i.gOp=14)∧(tst=false→¬ (i.gOp=13∨i.gOp=14)))→Sep w [box b5 bv 75,box b4 bv 75,box b3 bv 75,box b2 (aR i) 48,box b1 (ba p) 28] w8→J prog 110 86 R K110_1 [(11,iv (p.al:Int)),(10,iv (i.gK%128)),(9,iv (i.gK/128%128)),(8,iv (i.gK/16384)),(6,pv b5),(5,pv b4),(4,pv b3),(2,pv b1),(12,.bool ton),(13,.bool tst)] w8:=by
   intro tst w8 htst S8
   have X3:∀ (tb:Bool) (w9:World),((tb=true→¬ (i.gK/16384<(p.al:Int)∧(i.gOp=9∨i.gOp=10∨i.gK/128%128<(p.al:Int))∧(i.gOp=13∨i.gOp=14∨i.gK%128<(p.al:Int))))∧(tb=false→i.gK/16384<(p.al:Int)∧(i.gOp=9∨i.gOp=10∨i.gK/128%128<(p.al:Int))∧(i.gOp=13∨i.gOp=14∨i.gK%128<(p.al:Int))))→Sep w [box b5 bv 75,box b4 bv 75,box b3 bv 75,box b2 (aR i) 48,box b1 (ba p) 28] w9→J prog 110 86 R K110_2 [(10,iv (i.gK%128)),(9,iv (i.gK/128%128)),(8,iv (i.gK/16384)),(6,pv b5),(5,pv b4),(4,pv b3),(2,pv b1),(12,.bool ton),(13,.bool tst),(60,.bool tb)] w9:=by
    intro tb w9 htb S9
    refine J.b 0 [] [] [] 60 tb (fun fk1=>?_) fun fk1=>?_
    have fb1:=htb.1 fk1
    refine J.r 2 [true] [] []<|J.drawPlan (fun w_=>Sep w [box b5 bv 75,box b4 bv 75,box b3 bv 75,box b2 (aR i) 48,box b1 (ba p) 28] w_) [(0,true),(1,true),(2,true),(3,false),(4,false),(5,false),(6,true)] S9 Tryz.mixed kr (aF (T:=[(0,some 61,16),(0,some 62,32),(0,some 63,64),(1,none,2305843009213693968),(11,none,4611686018427387936),(31,none,9223372036854775872),(63,some 7,0)]) kr kr) ?_
    intro w10 S10
    refine PB.mk S10<|PL.takeOK 0 (fun w_ S_=>OK.ldBox S_ 2 61 75 0 (.agg cU) kr rfl kr) rfl<|PL.takeOK 1 (fun w_ S_=>OK.ldBox S_ 1 62 75 0 (.agg cU) kr rfl kr) rfl<|PL.takeOK 2 (fun w_ S_=>OK.ldBox S_ 0 63 75 0 (.agg cU) kr rfl kr) rfl<|PL.stBox S10 2 75 0 (.agg cU) bv [box b5 bv 75,box b4 bv 75,box b3 bv 75,box b2 (aR i) 48,box b1 (ba p) 28] kr rfl kr kr rfl ?_
    intro w11 S11
    refine PB.mk S11<|PL.stBox S11 1 75 0 (.agg cU) bv [box b5 bv 75,box b4 bv 75,box b3 bv 75,box b2 (aR i) 48,box b1 (ba p) 28] kr rfl kr kr rfl ?_
    intro w12 S12
    refine PB.mk S12<|PL.stBox S12 0 75 0 (.agg cU) bv [box b5 bv 75,box b4 bv 75,box b3 bv 75,box b2 (aR i) 48,box b1 (ba p) 28] kr rfl kr kr rfl ?_
    intro w13 S13
    refine PB.mk S13<|PL.take 6 7 (.bool false) (fun _ _=>kr)<|PL.done<|J.ret Tryz.f110 [.agg cU,.agg cU,.agg cU,.bool false] func110 ⟨⟨⟨b3,0,none⟩,kr,aT (S13.nth 2 rfl) kr⟩,⟨⟨b4,0,none⟩,kr,aT (S13.nth 1 rfl) kr⟩,⟨⟨b5,0,none⟩,kr,aT (S13.nth 0 rfl) kr⟩,kr,trivial⟩<|hR _ _ ?_
    have e0:tyOK p i.gOp i.gK=false:=decide_eq_false om
    obtain ⟨e1,e2,e3⟩:=ty_no e0
    exact⟨by rw[e1,e2,e3,e0];rfl,S13.nil⟩
    have fb2:=htb.2 fk1
    refine J.lb 5 [false] [] [] S9 4 rfl 65 (.slice p.aK p.al p.br)<|J.r 1 [] [(66,iv (i.gK/16384))] [] ?_
    obtain ⟨p1,hp1,hc1⟩:=q5.at fx0 (i.gK/16384).toNat om
    have hel1:=aX q6 fx0 (n:=(i.gK/16384).toNat) (by have:=q5.len_eq;omega)
    obtain ⟨q31,q32,q33,q34,q35,q36,q37,q38,q39,_⟩:=id hel1
    refine J.ok (OK.index 67 23 10 p.aK p1 p.al (i.gK/16384).toNat (i.gK/16384) (p1.add ((i.gK/16384).toNat*10)) kr kr hp1 om om rfl)<|J.ok (OK.ldCells 68 75 (p1.add ((i.gK/16384).toNat*10)) (aP (p.ap.getD (i.gK/16384).toNat fx0)) kr kr kr (fun j_ v_ hj_=>S9.cell (hc1 j_ v_ hj_)))<|J.sb 0 [] [] [] S9 2 rfl (aP (p.ap.getD (i.gK/16384).toNat fx0)) rfl fun w14 S14=>J.bn 7 [] [] [] 70 ton (fun fk2=>?_) fun fk2=>?_
    have fb3:=hton.1 fk2
    refine J.bn 8 [false] [] [] 77 tst (fun fk3=>?_) fun fk3=>?_
    have fb4:=htst.1 fk3
    refine J.r 3 [false] [] []<|J.drawPlan (fun w_=>Sep w [box b5 bv 75,box b4 bv 75,box b3 (aP (p.ap.getD (i.gK/16384).toNat fx0)) 75,box b2 (aR i) 48,box b1 (ba p) 28] w_) [(0,true),(1,true),(2,true),(3,false),(4,false),(5,false),(6,true)] S14 Tryz.mixed kr (aF (T:=[(0,some 83,16),(0,some 84,32),(0,some 85,64),(1,none,9671406556917033397649424),(11,none,19342813113834066795298848),(31,none,38685626227668133590597696),(63,some 7,0)]) kr kr) ?_
    intro w15 S15
    refine PB.mk S15<|PL.takeOK 0 (fun w_ S_=>OK.ldBox S_ 2 83 75 0 (.agg (aJ (p.ap.getD (i.gK/16384).toNat fx0))) kr rfl kr) rfl<|PL.takeOK 1 (fun w_ S_=>OK.ldBox S_ 1 84 75 0 (.agg cU) kr rfl kr) rfl<|PL.takeOK 2 (fun w_ S_=>OK.ldBox S_ 0 85 75 0 (.agg cU) kr rfl kr) rfl<|PL.stBox S15 2 75 0 (.agg (aJ (p.ap.getD (i.gK/16384).toNat fx0))) (aP (p.ap.getD (i.gK/16384).toNat fx0)) [box b5 bv 75,box b4 bv 75,box b3 (aP (p.ap.getD (i.gK/16384).toNat fx0)) 75,box b2 (aR i) 48,box b1 (ba p) 28] kr rfl kr kr rfl ?_
    intro w16 S16
    refine PB.mk S16<|PL.stBox S16 1 75 0 (.agg cU) bv [box b5 bv 75,box b4 bv 75,box b3 (aP (p.ap.getD (i.gK/16384).toNat fx0)) 75,box b2 (aR i) 48,box b1 (ba p) 28] kr rfl kr kr rfl ?_
    intro w17 S17
    refine PB.mk S17<|PL.stBox S17 0 75 0 (.agg cU) bv [box b5 bv 75,box b4 bv 75,box b3 (aP (p.ap.getD (i.gK/16384).toNat fx0)) 75,box b2 (aR i) 48,box b1 (ba p) 28] kr rfl kr kr rfl ?_
    intro w18 S18
    refine PB.mk S18<|PL.take 6 7 (.bool true) (fun _ _=>kr)<|PL.done<|J.ret Tryz.f110 [.agg (aJ (p.ap.getD (i.gK/16384).toNat fx0)),.agg cU,.agg cU,.bool true] func110 ⟨⟨⟨b3,0,none⟩,kr,aT (S18.nth 2 rfl) kr⟩,⟨⟨b4,0,none⟩,kr,aT (S18.nth 1 rfl) kr⟩,⟨⟨b5,0,none⟩,kr,aT (S18.nth 0 rfl) kr⟩,kr,trivial⟩<|hR _ _ ?_
    obtain ⟨e1,e2,e3⟩:=ty_yes (p:=p) (op:=i.gOp) (k:=i.gK) ((dM (p:=p) (op:=i.gOp) (k:=i.gK)).2 om)
    rw[if_neg om] at e2
    rw[if_neg om] at e3
    exact⟨by rw[e1,e2,e3,(dM (p:=p) (op:=i.gOp) (k:=i.gK)).2 om];rfl,S18.nil⟩
    have fb5:=htst.2 fk3
    refine J.lb 3 [true] [] [] S14 4 rfl 79 (.slice p.aK p.al p.br)<|J.r 1 [] [(80,iv (i.gK%128))] [] ?_
    obtain ⟨p2,hp2,hc2⟩:=q5.at fx0 (i.gK%128).toNat om
    have hel2:=aX q6 fx0 (n:=(i.gK%128).toNat) (by have:=q5.len_eq;omega)
    obtain ⟨q40,q41,q42,q43,q44,q45,q46,q47,q48,_⟩:=id hel2
    refine J.ok (OK.index 81 23 10 p.aK p2 p.al (i.gK%128).toNat (i.gK%128) (p2.add ((i.gK%128).toNat*10)) kr kr hp2 om om rfl)<|J.ok (OK.ldCells 82 75 (p2.add ((i.gK%128).toNat*10)) (aP (p.ap.getD (i.gK%128).toNat fx0)) kr kr kr (fun j_ v_ hj_=>S14.cell (hc2 j_ v_ hj_)))<|J.sb 0 [] [] [] S14 0 rfl (aP (p.ap.getD (i.gK%128).toNat fx0)) rfl fun w19 S19=>J.r 2 [] [] []<|J.drawPlan (fun w_=>Sep w [box b5 (aP (p.ap.getD (i.gK%128).toNat fx0)) 75,box b4 bv 75,box b3 (aP (p.ap.getD (i.gK/16384).toNat fx0)) 75,box b2 (aR i) 48,box b1 (ba p) 28] w_) [(0,true),(1,true),(2,true),(3,false),(4,false),(5,false),(6,true)] S19 Tryz.mixed kr (aF (T:=[(0,some 83,16),(0,some 84,32),(0,some 85,64),(1,none,9671406556917033397649424),(11,none,19342813113834066795298848),(31,none,38685626227668133590597696),(63,some 7,0)]) kr kr) ?_
    intro w20 S20
    refine PB.mk S20<|PL.takeOK 0 (fun w_ S_=>OK.ldBox S_ 2 83 75 0 (.agg (aJ (p.ap.getD (i.gK/16384).toNat fx0))) kr rfl kr) rfl<|PL.takeOK 1 (fun w_ S_=>OK.ldBox S_ 1 84 75 0 (.agg cU) kr rfl kr) rfl<|PL.takeOK 2 (fun w_ S_=>OK.ldBox S_ 0 85 75 0 (.agg (aJ (p.ap.getD (i.gK%128).toNat fx0))) kr rfl kr) rfl<|PL.stBox S20 2 75 0 (.agg (aJ (p.ap.getD (i.gK/16384).toNat fx0))) (aP (p.ap.getD (i.gK/16384).toNat fx0)) [box b5 (aP (p.ap.getD (i.gK%128).toNat fx0)) 75,box b4 bv 75,box b3 (aP (p.ap.getD (i.gK/16384).toNat fx0)) 75,box b2 (aR i) 48,box b1 (ba p) 28] kr rfl kr kr rfl ?_
    intro w21 S21
    refine PB.mk S21<|PL.stBox S21 1 75 0 (.agg cU) bv [box b5 (aP (p.ap.getD (i.gK%128).toNat fx0)) 75,box b4 bv 75,box b3 (aP (p.ap.getD (i.gK/16384).toNat fx0)) 75,box b2 (aR i) 48,box b1 (ba p) 28] kr rfl kr kr rfl ?_
    intro w22 S22
    refine PB.mk S22<|PL.stBox S22 0 75 0 (.agg (aJ (p.ap.getD (i.gK%128).toNat fx0))) (aP (p.ap.getD (i.gK%128).toNat fx0)) [box b5 (aP (p.ap.getD (i.gK%128).toNat fx0)) 75,box b4 bv 75,box b3 (aP (p.ap.getD (i.gK/16384).toNat fx0)) 75,box b2 (aR i) 48,box b1 (ba p) 28] kr rfl kr kr rfl ?_
    intro w23 S23
    refine PB.mk S23<|PL.take 6 7 (.bool true) (fun _ _=>kr)<|PL.done<|J.ret Tryz.f110 [.agg (aJ (p.ap.getD (i.gK/16384).toNat fx0)),.agg cU,.agg (aJ (p.ap.getD (i.gK%128).toNat fx0)),.bool true] func110 ⟨⟨⟨b3,0,none⟩,kr,aT (S23.nth 2 rfl) kr⟩,⟨⟨b4,0,none⟩,kr,aT (S23.nth 1 rfl) kr⟩,⟨⟨b5,0,none⟩,kr,aT (S23.nth 0 rfl) kr⟩,kr,trivial⟩<|hR _ _ ?_
    obtain ⟨e1,e2,e3⟩:=ty_yes (p:=p) (op:=i.gOp) (k:=i.gK) ((dM (p:=p) (op:=i.gOp) (k:=i.gK)).2 om)
    rw[if_neg om] at e2
    rw[if_pos om] at e3
    exact⟨by rw[e1,e2,e3,(dM (p:=p) (op:=i.gOp) (k:=i.gK)).2 om];rfl,S23.nil⟩
    have fb6:=hton.2 fk2
    refine J.lb 3 [true] [] [] S14 4 rfl 72 (.slice p.aK p.al p.br)<|J.r 1 [] [(73,iv (i.gK/128%128))] [] ?_
    obtain ⟨p3,hp3,hc3⟩:=q5.at fx0 (i.gK/128%128).toNat om
    have hel3:=aX q6 fx0 (n:=(i.gK/128%128).toNat) (by have:=q5.len_eq;omega)
    obtain ⟨q49,q50,q51,q52,q53,q54,q55,q56,q57,_⟩:=id hel3
    refine J.ok (OK.index 74 23 10 p.aK p3 p.al (i.gK/128%128).toNat (i.gK/128%128) (p3.add ((i.gK/128%128).toNat*10)) kr kr hp3 om om rfl)<|J.ok (OK.ldCells 75 75 (p3.add ((i.gK/128%128).toNat*10)) (aP (p.ap.getD (i.gK/128%128).toNat fx0)) kr kr kr (fun j_ v_ hj_=>S14.cell (hc3 j_ v_ hj_)))<|J.sb 0 [] [] [] S14 1 rfl (aP (p.ap.getD (i.gK/128%128).toNat fx0)) rfl fun w24 S24=>J.bn 7 [] [] [] 77 tst (fun fk4=>?_) fun fk4=>?_
    have fb7:=htst.1 fk4
    refine J.r 3 [false] [] []<|J.drawPlan (fun w_=>Sep w [box b5 bv 75,box b4 (aP (p.ap.getD (i.gK/128%128).toNat fx0)) 75,box b3 (aP (p.ap.getD (i.gK/16384).toNat fx0)) 75,box b2 (aR i) 48,box b1 (ba p) 28] w_) [(0,true),(1,true),(2,true),(3,false),(4,false),(5,false),(6,true)] S24 Tryz.mixed kr (aF (T:=[(0,some 83,16),(0,some 84,32),(0,some 85,64),(1,none,9671406556917033397649424),(11,none,19342813113834066795298848),(31,none,38685626227668133590597696),(63,some 7,0)]) kr kr) ?_
    intro w25 S25
    refine PB.mk S25<|PL.takeOK 0 (fun w_ S_=>OK.ldBox S_ 2 83 75 0 (.agg (aJ (p.ap.getD (i.gK/16384).toNat fx0))) kr rfl kr) rfl<|PL.takeOK 1 (fun w_ S_=>OK.ldBox S_ 1 84 75 0 (.agg (aJ (p.ap.getD (i.gK/128%128).toNat fx0))) kr rfl kr) rfl<|PL.takeOK 2 (fun w_ S_=>OK.ldBox S_ 0 85 75 0 (.agg cU) kr rfl kr) rfl<|PL.stBox S25 2 75 0 (.agg (aJ (p.ap.getD (i.gK/16384).toNat fx0))) (aP (p.ap.getD (i.gK/16384).toNat fx0)) [box b5 bv 75,box b4 (aP (p.ap.getD (i.gK/128%128).toNat fx0)) 75,box b3 (aP (p.ap.getD (i.gK/16384).toNat fx0)) 75,box b2 (aR i) 48,box b1 (ba p) 28] kr rfl kr kr rfl ?_
    intro w26 S26
    refine PB.mk S26<|PL.stBox S26 1 75 0 (.agg (aJ (p.ap.getD (i.gK/128%128).toNat fx0))) (aP (p.ap.getD (i.gK/128%128).toNat fx0)) [box b5 bv 75,box b4 (aP (p.ap.getD (i.gK/128%128).toNat fx0)) 75,box b3 (aP (p.ap.getD (i.gK/16384).toNat fx0)) 75,box b2 (aR i) 48,box b1 (ba p) 28] kr rfl kr kr rfl ?_
    intro w27 S27
    refine PB.mk S27<|PL.stBox S27 0 75 0 (.agg cU) bv [box b5 bv 75,box b4 (aP (p.ap.getD (i.gK/128%128).toNat fx0)) 75,box b3 (aP (p.ap.getD (i.gK/16384).toNat fx0)) 75,box b2 (aR i) 48,box b1 (ba p) 28] kr rfl kr kr rfl ?_
    intro w28 S28
    refine PB.mk S28<|PL.take 6 7 (.bool true) (fun _ _=>kr)<|PL.done<|J.ret Tryz.f110 [.agg (aJ (p.ap.getD (i.gK/16384).toNat fx0)),.agg (aJ (p.ap.getD (i.gK/128%128).toNat fx0)),.agg cU,.bool true] func110 ⟨⟨⟨b3,0,none⟩,kr,aT (S28.nth 2 rfl) kr⟩,⟨⟨b4,0,none⟩,kr,aT (S28.nth 1 rfl) kr⟩,⟨⟨b5,0,none⟩,kr,aT (S28.nth 0 rfl) kr⟩,kr,trivial⟩<|hR _ _ ?_
    obtain ⟨e1,e2,e3⟩:=ty_yes (p:=p) (op:=i.gOp) (k:=i.gK) ((dM (p:=p) (op:=i.gOp) (k:=i.gK)).2 om)
    rw[if_pos om] at e2
    rw[if_neg om] at e3
    exact⟨by rw[e1,e2,e3,(dM (p:=p) (op:=i.gOp) (k:=i.gK)).2 om];rfl,S28.nil⟩
    have fb8:=htst.2 fk4
    refine J.lb 3 [true] [] [] S24 4 rfl 79 (.slice p.aK p.al p.br)<|J.r 1 [] [(80,iv (i.gK%128))] [] ?_
    obtain ⟨p4,hp4,hc4⟩:=q5.at fx0 (i.gK%128).toNat om
    have hel4:=aX q6 fx0 (n:=(i.gK%128).toNat) (by have:=q5.len_eq;omega)
    obtain ⟨q58,q59,q60,q61,q62,q63,q64,q65,q66,_⟩:=id hel4
    refine J.ok (OK.index 81 23 10 p.aK p4 p.al (i.gK%128).toNat (i.gK%128) (p4.add ((i.gK%128).toNat*10)) kr kr hp4 om om rfl)<|J.ok (OK.ldCells 82 75 (p4.add ((i.gK%128).toNat*10)) (aP (p.ap.getD (i.gK%128).toNat fx0)) kr kr kr (fun j_ v_ hj_=>S24.cell (hc4 j_ v_ hj_)))<|J.sb 0 [] [] [] S24 0 rfl (aP (p.ap.getD (i.gK%128).toNat fx0)) rfl fun w29 S29=>J.r 2 [] [] []<|J.drawPlan (fun w_=>Sep w [box b5 (aP (p.ap.getD (i.gK%128).toNat fx0)) 75,box b4 (aP (p.ap.getD (i.gK/128%128).toNat fx0)) 75,box b3 (aP (p.ap.getD (i.gK/16384).toNat fx0)) 75,box b2 (aR i) 48,box b1 (ba p) 28] w_) [(0,true),(1,true),(2,true),(3,false),(4,false),(5,false),(6,true)] S29 Tryz.mixed kr (aF (T:=[(0,some 83,16),(0,some 84,32),(0,some 85,64),(1,none,9671406556917033397649424),(11,none,19342813113834066795298848),(31,none,38685626227668133590597696),(63,some 7,0)]) kr kr) ?_
    intro w30 S30
    refine PB.mk S30<|PL.takeOK 0 (fun w_ S_=>OK.ldBox S_ 2 83 75 0 (.agg (aJ (p.ap.getD (i.gK/16384).toNat fx0))) kr rfl kr) rfl<|PL.takeOK 1 (fun w_ S_=>OK.ldBox S_ 1 84 75 0 (.agg (aJ (p.ap.getD (i.gK/128%128).toNat fx0))) kr rfl kr) rfl<|PL.takeOK 2 (fun w_ S_=>OK.ldBox S_ 0 85 75 0 (.agg (aJ (p.ap.getD (i.gK%128).toNat fx0))) kr rfl kr) rfl<|PL.stBox S30 2 75 0 (.agg (aJ (p.ap.getD (i.gK/16384).toNat fx0))) (aP (p.ap.getD (i.gK/16384).toNat fx0)) [box b5 (aP (p.ap.getD (i.gK%128).toNat fx0)) 75,box b4 (aP (p.ap.getD (i.gK/128%128).toNat fx0)) 75,box b3 (aP (p.ap.getD (i.gK/16384).toNat fx0)) 75,box b2 (aR i) 48,box b1 (ba p) 28] kr rfl kr kr rfl ?_
    intro w31 S31
    refine PB.mk S31<|PL.stBox S31 1 75 0 (.agg (aJ (p.ap.getD (i.gK/128%128).toNat fx0))) (aP (p.ap.getD (i.gK/128%128).toNat fx0)) [box b5 (aP (p.ap.getD (i.gK%128).toNat fx0)) 75,box b4 (aP (p.ap.getD (i.gK/128%128).toNat fx0)) 75,box b3 (aP (p.ap.getD (i.gK/16384).toNat fx0)) 75,box b2 (aR i) 48,box b1 (ba p) 28] kr rfl kr kr rfl ?_
    intro w32 S32
    refine PB.mk S32<|PL.stBox S32 0 75 0 (.agg (aJ (p.ap.getD (i.gK%128).toNat fx0))) (aP (p.ap.getD (i.gK%128).toNat fx0)) [box b5 (aP (p.ap.getD (i.gK%128).toNat fx0)) 75,box b4 (aP (p.ap.getD (i.gK/128%128).toNat fx0)) 75,box b3 (aP (p.ap.getD (i.gK/16384).toNat fx0)) 75,box b2 (aR i) 48,box b1 (ba p) 28] kr rfl kr kr rfl ?_
    intro w33 S33
    refine PB.mk S33<|PL.take 6 7 (.bool true) (fun _ _=>kr)<|PL.done<|J.ret Tryz.f110 [.agg (aJ (p.ap.getD (i.gK/16384).toNat fx0)),.agg (aJ (p.ap.getD (i.gK/128%128).toNat fx0)),.agg (aJ (p.ap.getD (i.gK%128).toNat fx0)),.bool true] func110 ⟨⟨⟨b3,0,none⟩,kr,aT (S33.nth 2 rfl) kr⟩,⟨⟨b4,0,none⟩,kr,aT (S33.nth 1 rfl) kr⟩,⟨⟨b5,0,none⟩,kr,aT (S33.nth 0 rfl) kr⟩,kr,trivial⟩<|hR _ _ ?_
    obtain ⟨e1,e2,e3⟩:=ty_yes (p:=p) (op:=i.gOp) (k:=i.gK) ((dM (p:=p) (op:=i.gOp) (k:=i.gK)).2 om)
    rw[if_pos om] at e2
    rw[if_pos om] at e3
    exact⟨by rw[e1,e2,e3,(dM (p:=p) (op:=i.gOp) (k:=i.gK)).2 om];rfl,S33.nil⟩
   refine J.c 7 [] [] [] 43 ((i.gK/16384)≥(p.al:Int)) (fun fk5=>?_) fun fk5=>?_
   exact J.t 18 (X3 true w8 (⟨fun h_=>by first | (cases h_;done) | (have h2_:=of_decide_eq_true h_;omega) | omega,fun h_=>by first | (cases h_;done) | (have h2_:=of_decide_eq_false h_;omega) | omega⟩) S8)
   refine J.bn 3 [] [] [] 46 ton (fun fk6=>?_) fun fk6=>?_
   have fb9:=hton.1 fk6
   refine J.bn 9 [] [(52,.bool false)] [] 55 tst (fun fk7=>?_) fun fk7=>?_
   have fb10:=htst.1 fk7
   exact J.t 6 (X3 false w8 (⟨fun h_=>by first | (cases h_;done) | (have h2_:=of_decide_eq_true h_;omega) | omega,fun h_=>by first | (cases h_;done) | (have h2_:=of_decide_eq_false h_;omega) | omega⟩) S8)
   have fb11:=htst.2 fk7
   exact J.t 6 (X3 (decide ((i.gK%128)≥(p.al:Int))) w8 (⟨fun h_=>by first | (cases h_;done) | (have h2_:=of_decide_eq_true h_;omega) | omega,fun h_=>by first | (cases h_;done) | (have h2_:=of_decide_eq_false h_;omega) | omega⟩) S8)
   have fb12:=hton.2 fk6
   refine J.c 6 [] [] [] 52 ((i.gK/128%128)≥(p.al:Int)) (fun fk8=>?_) fun fk8=>?_
   exact J.t 9 (X3 true w8 (⟨fun h_=>by first | (cases h_;done) | (have h2_:=of_decide_eq_true h_;omega) | omega,fun h_=>by first | (cases h_;done) | (have h2_:=of_decide_eq_false h_;omega) | omega⟩) S8)
   refine J.bn 3 [] [] [] 55 tst (fun fk9=>?_) fun fk9=>?_
   have fb13:=htst.1 fk9
   exact J.t 6 (X3 false w8 (⟨fun h_=>by first | (cases h_;done) | (have h2_:=of_decide_eq_true h_;omega) | omega,fun h_=>by first | (cases h_;done) | (have h2_:=of_decide_eq_false h_;omega) | omega⟩) S8)
   have fb14:=htst.2 fk9
   exact J.t 6 (X3 (decide ((i.gK%128)≥(p.al:Int))) w8 (⟨fun h_=>by first | (cases h_;done) | (have h2_:=of_decide_eq_true h_;omega) | omega,fun h_=>by first | (cases h_;done) | (have h2_:=of_decide_eq_false h_;omega) | omega⟩) S8)
  refine J.lb 3 [] [] [] S7 3 rfl 33 (iv i.gOp)<|J.c 2 [] [] [] 35 (i.gOp=13) (fun fk10=>?_) fun fk10=>?_
  exact J.t 6 (X2 true w7 (⟨fun h_=>by first | (cases h_;done) | (have h2_:=beq_iff_eq.1 h_;omega) | omega,fun h_=>by first | (cases h_;done) | (have h2_:=beq_eq_false_iff_ne.1 h_;omega) | omega⟩) S7)
  exact J.lb 1 [] [] [] S7 3 rfl 37 (iv i.gOp)<|J.t 4 (X2 (i.gOp==14) w7 (⟨fun h_=>by first | (cases h_;done) | (have h2_:=beq_iff_eq.1 h_;omega) | omega,fun h_=>by first | (cases h_;done) | (have h2_:=beq_eq_false_iff_ne.1 h_;omega) | omega⟩) S7)
 refine J.lb 6 [] [(11,iv (p.al:Int))] [] S6 3 rfl 25 (iv i.gOp)<|J.c 2 [] [] [] 27 (i.gOp=9) (fun fk11=>?_) fun fk11=>?_
 exact J.t 6 (X1 true w6 (⟨fun h_=>by first | (cases h_;done) | (have h2_:=beq_iff_eq.1 h_;omega) | omega,fun h_=>by first | (cases h_;done) | (have h2_:=beq_eq_false_iff_ne.1 h_;omega) | omega⟩) S6)
 exact J.lb 1 [] [] [] S6 3 rfl 29 (iv i.gOp)<|J.t 4 (X1 (i.gOp==10) w6 (⟨fun h_=>by first | (cases h_;done) | (have h2_:=beq_iff_eq.1 h_;omega) | omega,fun h_=>by first | (cases h_;done) | (have h2_:=beq_eq_false_iff_ne.1 h_;omega) | omega⟩) S6)

end
end Go.Proofs.YtaoolgcddapegaaGreatDoor

namespace Go.Proofs.YtaoolgcddapegaaGreatDoor
noncomputable section
open Go.Eng Go.RowKit Go.Proofs.Tryz
set_option maxRecDepth 20000
set_option maxHeartbeats 20000000
theorem hb151:af prog 151:=fun _ _=>by kernel_rfl

theorem units_any (i:Ins) (a b t:Fxd) (w:World) (hi:insQ w i) (ha:cE w a) (hb:cE w b) (ht:cE w t):Ret prog 151 #[.agg (dm i),.agg (aJ a),.agg (aJ b),.agg (aJ t)] w (fun v w'=>v=.bool (cW i.gOp (au a) (au b) (au t))∧Sep w [] w'):=by
 refine Ret.st (N:=79) func151 fun R hR S0=>?_
 obtain ⟨q1,q2,q3,q4,q5,_⟩:=id hi
 obtain ⟨q6,q7,q8,q9,q10,q11,q12,q13,q14,_⟩:=id ha
 obtain ⟨q15,q16,q17,q18,q19,q20,q21,q22,q23,_⟩:=id hb
 obtain ⟨q24,q25,q26,q27,q28,q29,q30,q31,q32,_⟩:=id ht
 refine J.nw 2 [] [] [] S0 4 (aR i) 48 fun b1 w1 S1=>J.nw 0 [] [] [] S1 5 (aP a) 75 fun b2 w2 S2=>J.nw 0 [] [] [] S2 6 (aP b) 75 fun b3 w3 S3=>J.nw 0 [] [] [] S3 7 (aP t) 75 fun b4 w4 S4=>J.lb 6 [] [] [] S4 3 rfl 14 (iv i.gOp)<|J.c 8 [] [] [] 15 (i.gOp=5) (fun fk1=>?_) fun fk1=>?_
 refine J.lb 6 [true,true] [] [] S4 2 rfl 19 (.agg #[iv a.ah,iv a.ae,iv a.ag,iv a.aj,iv a.ai])<|J.lb 1 [] [] [] S4 1 rfl 21 (.agg #[iv b.ah,iv b.ae,iv b.ag,iv b.aj,iv b.ai])<|J.ok (OK.eqUnt 22 (au a) (au b) kr)<|J.b 1 [] [] [] 23 (ct (au a) (au b)) (fun fk2=>?_) fun fk2=>?_
 refine J.lb 1 [] [] [] S4 2 rfl 25 (.agg #[iv a.ah,iv a.ae,iv a.ag,iv a.aj,iv a.ai])<|J.lb 1 [] [] [] S4 0 rfl 27 (.agg #[iv t.ah,iv t.ae,iv t.ag,iv t.aj,iv t.ai])<|J.ok (OK.eqUnt 28 (au a) (au t) kr)<|J.e 3 [.bool (ct (au a) (au t))] func151 (hR _ _ ?_)
 have e1:(ct (au a) (au b))=true:=fk2
 exact⟨congrArg Value.bool (by unfold cW;(repeat first | rw[if_pos om] | rw[if_neg om]);rw[e1];rw[Bool.true_and]<;>rfl),S4.nil⟩
 refine J.e 8 [.bool false] func151 (hR _ _ ?_)
 have e1:(ct (au a) (au b))=false:=fk2
 exact⟨congrArg Value.bool (by unfold cW;(repeat first | rw[if_pos om] | rw[if_neg om]);rw[e1];rfl),S4.nil⟩
 refine J.c 5 [false] [] [15] 15 (i.gOp=6) (fun fk3=>?_) fun fk3=>?_
 refine J.lb 4 [true] [] [] S4 2 rfl 19 (.agg #[iv a.ah,iv a.ae,iv a.ag,iv a.aj,iv a.ai])<|J.lb 1 [] [] [] S4 1 rfl 21 (.agg #[iv b.ah,iv b.ae,iv b.ag,iv b.aj,iv b.ai])<|J.ok (OK.eqUnt 22 (au a) (au b) kr)<|J.b 1 [] [] [] 23 (ct (au a) (au b)) (fun fk4=>?_) fun fk4=>?_
 refine J.lb 1 [] [] [] S4 2 rfl 25 (.agg #[iv a.ah,iv a.ae,iv a.ag,iv a.aj,iv a.ai])<|J.lb 1 [] [] [] S4 0 rfl 27 (.agg #[iv t.ah,iv t.ae,iv t.ag,iv t.aj,iv t.ai])<|J.ok (OK.eqUnt 28 (au a) (au t) kr)<|J.e 3 [.bool (ct (au a) (au t))] func151 (hR _ _ ?_)
 have e1:(ct (au a) (au b))=true:=fk4
 exact⟨congrArg Value.bool (by unfold cW;(repeat first | rw[if_pos om] | rw[if_neg om]);rw[e1];rw[Bool.true_and]<;>rfl),S4.nil⟩
 refine J.e 8 [.bool false] func151 (hR _ _ ?_)
 have e1:(ct (au a) (au b))=false:=fk4
 exact⟨congrArg Value.bool (by unfold cW;(repeat first | rw[if_pos om] | rw[if_neg om]);rw[e1];rfl),S4.nil⟩
 refine J.c 6 [false] [] [] 30 (i.gOp=7) (fun fk5=>?_) fun fk5=>?_
 refine J.lb 4 [true] [] [] S4 2 rfl 34 (.agg #[iv a.ah,iv a.ae,iv a.ag,iv a.aj,iv a.ai])<|J.lb 1 [] [] [] S4 1 rfl 36 (.agg #[iv b.ah,iv b.ae,iv b.ag,iv b.aj,iv b.ai])<|J.c0 0 [] [] [] S4 37 hb186 (umul_any (⟨a.ah,a.ae,a.ag,a.aj,a.ai⟩:Unt) (⟨b.ah,b.ae,b.ag,b.aj,b.ai⟩:Unt) _) fun w5 S5=>J.nw 3 [] [(39,iv (unE (⟨a.ah,a.ae,a.ag,a.aj,a.ai⟩:Unt) (⟨b.ah,b.ae,b.ag,b.aj,b.ai⟩:Unt) 1)),(38,.agg (bK (unX (⟨a.ah,a.ae,a.ag,a.aj,a.ai⟩:Unt) (⟨b.ah,b.ae,b.ag,b.aj,b.ai⟩:Unt) 1)))] [] S5 9 [iv 0,iv 0,iv 0,iv 0,iv 0] 73 fun b5 w6 S6=>J.sb 0 [] [] [] S6 0 rfl (bE (unX (⟨a.ah,a.ae,a.ag,a.aj,a.ai⟩:Unt) (⟨b.ah,b.ae,b.ag,b.aj,b.ai⟩:Unt) 1)) rfl fun w7 S7=>J.c 7 [] [] [] 42 ((unE (⟨a.ah,a.ae,a.ag,a.aj,a.ai⟩:Unt) (⟨b.ah,b.ae,b.ag,b.aj,b.ai⟩:Unt) 1)=0) (fun fk6=>?_) fun fk6=>?_
 refine J.lb 0 [] [] [] S7 0 rfl 43 (.agg (bK (unX (⟨a.ah,a.ae,a.ag,a.aj,a.ai⟩:Unt) (⟨b.ah,b.ae,b.ag,b.aj,b.ai⟩:Unt) 1)))<|J.lb 1 [] [] [] S7 1 rfl 45 (.agg #[iv t.ah,iv t.ae,iv t.ag,iv t.aj,iv t.ai])<|J.ok (OK.eqUnt 46 (unX (⟨a.ah,a.ae,a.ag,a.aj,a.ai⟩:Unt) (⟨b.ah,b.ae,b.ag,b.aj,b.ai⟩:Unt) 1) (au t) kr)<|J.e 3 [.bool (ct (unX (⟨a.ah,a.ae,a.ag,a.aj,a.ai⟩:Unt) (⟨b.ah,b.ae,b.ag,b.aj,b.ai⟩:Unt) 1) (au t))] func151 (hR _ _ ?_)
 have e1:((unE (au a) (au b) 1==0))=true:=(beq_iff_eq.2 fk6)
 exact⟨congrArg Value.bool (by unfold cW;(repeat first | rw[if_pos om] | rw[if_neg om]);rw[e1];rw[Bool.true_and]<;>rfl),S7.nil⟩
 refine J.e 7 [.bool false] func151 (hR _ _ ?_)
 have e1:((unE (au a) (au b) 1==0))=false:=(beq_eq_false_iff_ne.2 fk6)
 exact⟨congrArg Value.bool (by unfold cW;(repeat first | rw[if_pos om] | rw[if_neg om]);rw[e1];rfl),S7.nil⟩
 refine J.c 6 [false] [] [] 48 (i.gOp=8) (fun fk7=>?_) fun fk7=>?_
 refine J.lb 4 [true] [] [] S4 2 rfl 52 (.agg #[iv a.ah,iv a.ae,iv a.ag,iv a.aj,iv a.ai])<|J.lb 1 [] [] [] S4 1 rfl 54 (.agg #[iv b.ah,iv b.ae,iv b.ag,iv b.aj,iv b.ai])<|J.c0 0 [] [] [] S4 55 hb187 (udiv_any (⟨a.ah,a.ae,a.ag,a.aj,a.ai⟩:Unt) (⟨b.ah,b.ae,b.ag,b.aj,b.ai⟩:Unt) _) fun w8 S8=>J.nw 3 [] [(57,iv (unE (⟨a.ah,a.ae,a.ag,a.aj,a.ai⟩:Unt) (⟨b.ah,b.ae,b.ag,b.aj,b.ai⟩:Unt) (-1))),(56,.agg (bK (unX (⟨a.ah,a.ae,a.ag,a.aj,a.ai⟩:Unt) (⟨b.ah,b.ae,b.ag,b.aj,b.ai⟩:Unt) (-1))))] [] S8 11 [iv 0,iv 0,iv 0,iv 0,iv 0] 73 fun b6 w9 S9=>J.sb 0 [] [] [] S9 0 rfl (bE (unX (⟨a.ah,a.ae,a.ag,a.aj,a.ai⟩:Unt) (⟨b.ah,b.ae,b.ag,b.aj,b.ai⟩:Unt) (-1))) rfl fun w10 S10=>J.c 7 [] [] [] 60 ((unE (⟨a.ah,a.ae,a.ag,a.aj,a.ai⟩:Unt) (⟨b.ah,b.ae,b.ag,b.aj,b.ai⟩:Unt) (-1))=0) (fun fk8=>?_) fun fk8=>?_
 refine J.lb 0 [] [] [] S10 0 rfl 61 (.agg (bK (unX (⟨a.ah,a.ae,a.ag,a.aj,a.ai⟩:Unt) (⟨b.ah,b.ae,b.ag,b.aj,b.ai⟩:Unt) (-1))))<|J.lb 1 [] [] [] S10 1 rfl 63 (.agg #[iv t.ah,iv t.ae,iv t.ag,iv t.aj,iv t.ai])<|J.ok (OK.eqUnt 64 (unX (⟨a.ah,a.ae,a.ag,a.aj,a.ai⟩:Unt) (⟨b.ah,b.ae,b.ag,b.aj,b.ai⟩:Unt) (-1)) (au t) kr)<|J.e 3 [.bool (ct (unX (⟨a.ah,a.ae,a.ag,a.aj,a.ai⟩:Unt) (⟨b.ah,b.ae,b.ag,b.aj,b.ai⟩:Unt) (-1)) (au t))] func151 (hR _ _ ?_)
 have e1:((unE (au a) (au b) (-1)==0))=true:=(beq_iff_eq.2 fk8)
 exact⟨congrArg Value.bool (by unfold cW;(repeat first | rw[if_pos om] | rw[if_neg om]);rw[e1];rw[Bool.true_and]<;>rfl),S10.nil⟩
 refine J.e 7 [.bool false] func151 (hR _ _ ?_)
 have e1:((unE (au a) (au b) (-1)==0))=false:=(beq_eq_false_iff_ne.2 fk8)
 exact⟨congrArg Value.bool (by unfold cW;(repeat first | rw[if_pos om] | rw[if_neg om]);rw[e1];rfl),S10.nil⟩
 refine J.c 7 [false] [] [] 66 (i.gOp=9) (fun fk9=>?_) fun fk9=>?_
 refine J.lb 6 [true,true] [] [] S4 2 rfl 70 (.agg #[iv a.ah,iv a.ae,iv a.ag,iv a.aj,iv a.ai])<|J.lb 1 [] [] [] S4 0 rfl 72 (.agg #[iv t.ah,iv t.ae,iv t.ag,iv t.aj,iv t.ai])<|J.ok (OK.eqUnt 73 (au a) (au t) kr)<|J.e 2 [.bool (ct (au a) (au t))] func151 (hR _ _ ?_)
 exact⟨congrArg Value.bool (by unfold cW;(repeat first | rw[if_pos om] | rw[if_neg om])<;>rfl),S4.nil⟩
 refine J.c 5 [false] [] [66] 66 (i.gOp=10) (fun fk10=>?_) fun fk10=>?_
 refine J.lb 4 [true] [] [] S4 2 rfl 70 (.agg #[iv a.ah,iv a.ae,iv a.ag,iv a.aj,iv a.ai])<|J.lb 1 [] [] [] S4 0 rfl 72 (.agg #[iv t.ah,iv t.ae,iv t.ag,iv t.aj,iv t.ai])<|J.ok (OK.eqUnt 73 (au a) (au t) kr)<|J.e 2 [.bool (ct (au a) (au t))] func151 (hR _ _ ?_)
 exact⟨congrArg Value.bool (by unfold cW;(repeat first | rw[if_pos om] | rw[if_neg om])<;>rfl),S4.nil⟩
 refine J.lb 6 [false] [] [] S4 2 rfl 75 (.agg #[iv a.ah,iv a.ae,iv a.ag,iv a.aj,iv a.ai])<|J.lb 1 [] [] [] S4 1 rfl 77 (.agg #[iv b.ah,iv b.ae,iv b.ag,iv b.aj,iv b.ai])<|J.ok (OK.eqUnt 78 (au a) (au b) kr)<|J.e 2 [.bool (ct (au a) (au b))] func151 (hR _ _ ?_)
 exact⟨congrArg Value.bool (by unfold cW;(repeat first | rw[if_pos om] | rw[if_neg om])<;>rfl),S4.nil⟩

theorem hb102:af prog 102:=fun _ _=>by kernel_rfl

theorem fits_any (p:Prg) (i:Ins) (w:World) (hp:prgQ w p) (hi:insQ w i):Ret prog 102 #[.agg (eb p),.agg (dm i)] w (fun v w'=>v=.bool (cT p i)∧Sep w [] w'):=by
 refine Ret.st (N:=78) func102 fun R hR S0=>?_
 obtain ⟨q1,q2,q3,q4,q5,q6,q7,q8,q9,q10,q11,q12,q13,q14,q15,q16,q17,q18,q19,q20,q21,q22,q23,q24,q25,_⟩:=id hp
 have ql1:=q2.len_eq
 have ql2:=q5.len_eq
 have ql3:=q8.len_eq
 have ql4:=q11.len_eq
 have ql5:=q15.len_eq
 have ql6:=q18.len_eq
 have ql7:=q21.len_eq
 have ql8:=q24.len_eq
 obtain ⟨q26,q27,q28,q29,q30,_⟩:=id hi
 refine J.nw 2 [] [] [] S0 2 (ba p) 28 fun b1 w1 S1=>J.nw 0 [] [] [] S1 3 (aR i) 48 fun b2 w2 S2=>J.lb 6 [] [] [] S2 0 rfl 10 (.agg (dm i))<|J.c0 0 [] [] [] S2 11 hb49 (formed_any i _ (df hi S2)) fun w3 S3=>J.bn 3 [] [] [] 9 (dh i) (fun fk1=>?_) fun fk1=>?_
 have hfp:=dO.1 fk1
 refine J.lb 4 [false] [] [] S3 0 rfl 15 (iv i.gOp)<|J.c 2 [] [] [] 17 (i.gOp=2) (fun fk2=>?_) fun fk2=>?_
 refine J.lb 10 [true] [] [] S3 0 rfl 23 (iv i.gK)<|J.lb 1 [] [] [] S3 1 rfl 25 (iv p.aA)<|J.e 3 [.bool (decide (i.gK<p.aA))] func102 (hR _ _ ?_)
 exact⟨congrArg Value.bool (by unfold cT;rw[fk1,Bool.true_and];unfold cv;(repeat first | rw[if_pos om] | rw[if_neg om]);all_goals first | rfl | exact(decide_eq_true om).symm | exact(decide_eq_false om).symm),S3.nil⟩
 refine J.lb 1 [] [] [] S3 0 rfl 19 (iv i.gOp)<|J.c 4 [] [] [] 13 (i.gOp=3) (fun fk3=>?_) fun fk3=>?_
 refine J.lb 4 [true] [] [] S3 0 rfl 23 (iv i.gK)<|J.lb 1 [] [] [] S3 1 rfl 25 (iv p.aA)<|J.e 3 [.bool (decide (i.gK<p.aA))] func102 (hR _ _ ?_)
 exact⟨congrArg Value.bool (by unfold cT;rw[fk1,Bool.true_and];unfold cv;(repeat first | rw[if_pos om] | rw[if_neg om]);all_goals first | rfl | exact(decide_eq_true om).symm | exact(decide_eq_false om).symm),S3.nil⟩
 refine J.lb 4 [false] [] [] S3 0 rfl 29 (iv i.gOp)<|J.c 3 [] [] [] 27 (i.gOp=20) (fun fk4=>?_) fun fk4=>?_
 refine J.lb 4 [true] [] [] S3 0 rfl 32 (iv i.gK)<|J.lb 1 [] [] [] S3 1 rfl 34 (.slice p.bO p.bg p.bX)<|J.e 4 [.bool (decide (i.gK<(p.bg:Int)))] func102 (hR _ _ ?_)
 exact⟨congrArg Value.bool (by unfold cT;rw[fk1,Bool.true_and];unfold cv;(repeat first | rw[if_pos om] | rw[if_neg om]);all_goals first | rfl | exact(decide_eq_true om).symm | exact(decide_eq_false om).symm),S3.nil⟩
 refine J.lb 4 [false] [] [] S3 0 rfl 39 (iv i.gOp)<|J.c 3 [] [] [] 37 (i.gOp=21) (fun fk5=>?_) fun fk5=>?_
 refine J.lb 4 [true] [] [] S3 0 rfl 42 (iv i.gK)<|J.lb 1 [] [] [] S3 1 rfl 44 (.slice p.cu p.bI p.cI)<|J.e 4 [.bool (decide (i.gK<(p.bI:Int)))] func102 (hR _ _ ?_)
 exact⟨congrArg Value.bool (by unfold cT;rw[fk1,Bool.true_and];unfold cv;(repeat first | rw[if_pos om] | rw[if_neg om]);all_goals first | rfl | exact(decide_eq_true om).symm | exact(decide_eq_false om).symm),S3.nil⟩
 refine J.lb 4 [false] [] [] S3 0 rfl 49 (iv i.gOp)<|J.c 3 [] [] [] 47 (i.gOp=22) (fun fk6=>?_) fun fk6=>?_
 refine J.lb 4 [true] [] [] S3 0 rfl 52 (iv i.gK)<|J.h 1 [] [] [] 53 (iv (Int.fdiv i.gK (2^5))) (iv (i.gK/32)) (congrArg (Value.int .i64) (cA _ _ dE))<|J.wi 1 [] [] [] 54 ((i.gK/32)+1)<|J.lb 1 [] [] [] S3 1 rfl 56 (iv p.aA)<|J.e 3 [.bool (decide (((i.gK/32)+1)<p.aA))] func102 (hR _ _ ?_)
 exact⟨congrArg Value.bool (by unfold cT;rw[fk1,Bool.true_and];unfold cv;(repeat first | rw[if_pos om] | rw[if_neg om]);all_goals first | rfl | exact(decide_eq_true om).symm | exact(decide_eq_false om).symm),S3.nil⟩
 refine J.lb 4 [false] [] [] S3 0 rfl 60 (iv i.gOp)<|J.c0 0 [] [] [] S3 61 hb132 (typed_any i.gOp _) fun w4 S4=>J.b 2 [] [] [] 58 (decide (el i.gOp)) (fun fk7=>?_) fun fk7=>?_
 have fb2:=of_decide_eq_true fk7
 refine J.lb 3 [true] [] [] S4 1 rfl 63 (.agg (eb p))<|J.lb 0 [] [] [] S4 0 rfl 64 (.agg (dm i))<|J.c0 0 [] [] [] S4 65 hb110 (types_any p i _ (dN hp S4) (df hi S4) om) fun w5 S5=>?_
 obtain ⟨hty1a,hty1b,hty1c⟩:=ty_q (w:=w) (op:=(i).gOp) (k:=(i).gK) q6
 refine J.nw 5 [] [(69,.bool (tyOK p (i).gOp (i).gK)),(68,.agg (aJ (tyC p (i).gOp (i).gK))),(67,.agg (aJ (tyB p (i).gOp (i).gK))),(66,.agg (aJ (tyA p (i).gOp (i).gK)))] [] S5 5 [iv 0,.bool false,iv 0,iv 0,iv 0,iv 0,iv 0,iv 0,iv 0,iv 0] 75 fun b3 w6 S6=>J.nw 0 [] [] [] S6 6 [iv 0,.bool false,iv 0,iv 0,iv 0,iv 0,iv 0,iv 0,iv 0,iv 0] 75 fun b4 w7 S7=>J.nw 0 [] [] [] S7 7 [iv 0,.bool false,iv 0,iv 0,iv 0,iv 0,iv 0,iv 0,iv 0,iv 0] 75 fun b5 w8 S8=>J.sb 0 [] [] [] S8 2 rfl (aP (tyA p (i).gOp (i).gK)) rfl fun w9 S9=>J.sb 0 [] [] [] S9 1 rfl (aP (tyB p (i).gOp (i).gK)) rfl fun w10 S10=>J.sb 0 [] [] [] S10 0 rfl (aP (tyC p (i).gOp (i).gK)) rfl fun w11 S11=>J.b 6 [] [] [] 71 (tyOK p (i).gOp (i).gK) (fun fk8=>?_) fun fk8=>?_
 refine J.lb 0 [] [] [] S11 3 rfl 72 (.agg (dm i))<|J.lb 0 [] [] [] S11 2 rfl 73 (.agg (aJ (tyA p (i).gOp (i).gK)))<|J.lb 0 [] [] [] S11 1 rfl 74 (.agg (aJ (tyB p (i).gOp (i).gK)))<|J.lb 0 [] [] [] S11 0 rfl 75 (.agg (aJ (tyC p (i).gOp (i).gK)))<|J.c0 0 [] [] [] S11 76 hb151 (units_any i (tyA p (i).gOp (i).gK) (tyB p (i).gOp (i).gK) (tyC p (i).gOp (i).gK) _ (df hi S11) (aq hty1a S11) (aq hty1b S11) (aq hty1c S11)) fun w12 S12=>J.e 3 [.bool (cW (i).gOp (au (tyA p (i).gOp (i).gK)) (au (tyB p (i).gOp (i).gK)) (au (tyC p (i).gOp (i).gK)))] func102 (hR _ _ ?_)
 exact⟨congrArg Value.bool (by unfold cT;rw[fk1,Bool.true_and];unfold cv;(repeat first | rw[if_pos om] | rw[if_neg om]);rw[fk8];all_goals first | rfl | (rw[Bool.true_and];first | rfl | exact rfl.symm)),S12.nil⟩
 refine J.e 8 [.bool false] func102 (hR _ _ ?_)
 exact⟨congrArg Value.bool (by unfold cT;rw[fk1,Bool.true_and];unfold cv;(repeat first | rw[if_pos om] | rw[if_neg om]);rw[fk8];all_goals first | rfl | (rw[Bool.true_and];first | rfl | exact rfl.symm)),S11.nil⟩
 have fb3:=of_decide_eq_false fk7
 refine J.e 7 [.bool true] func102 (hR _ _ ?_)
 exact⟨congrArg Value.bool (by unfold cT;rw[fk1,Bool.true_and];unfold cv;(repeat first | rw[if_pos om] | rw[if_neg om]);all_goals first | rfl | exact(decide_eq_true om).symm | exact(decide_eq_false om).symm),S4.nil⟩
 refine J.e 5 [.bool false] func102 (hR _ _ ?_)
 exact⟨congrArg Value.bool (by unfold cT;rw[fk1];rfl),S3.nil⟩
theorem hb92:af prog 92:=fun _ _=>by kernel_rfl

theorem not_any (b:Bool) (w:World):Ret prog 92 #[.bool b] w (fun v w'=>v=.bool (!b)∧Sep w [] w'):=by
 refine Ret.st (N:=5) func92 fun R hR S0=>J.e 10 [.bool (!b)] func92 (hR _ _ ?_)
 exact⟨rfl,S0.nil⟩

theorem hb94:af prog 94:=fun _ _=>by kernel_rfl

theorem val2_any (t:Fxd) (bx:Nat) (w:World) (ht:cE w t) (hb:(box bx [.func (.func 92) #[] #[]] 141).holds w):Ret prog 94 #[.agg (aJ t),pv bx] w (fun v w'=>v=.bool (!bP t)∧Sep w [] w'):=by
 refine Ret.st (N:=8) func94 fun R hR S0=>?_
 obtain ⟨q1,q2,q3,q4,q5,q6,q7,q8,q9,_⟩:=id ht
 refine J.nw 2 [] [] [] S0 2 (aP t) 75 fun b1 w1 S1=>J.r 3 [] [] []<|J.drawPlan (fun w_=>Sep w [box b1 (aP t) 75] w_) [(0,true),(1,true),(2,false),(3,false),(4,true)] S1 Tryz.mixed kr (aF (T:=[(0,some 4,2),(0,some 5,4),(2,some 6,32),(5,some 7,80),(15,some 3,128)]) kr kr) ?_
 intro w2 S2
 refine PB.mk S2<|PL.takeOK 0 (fun w_ S_=>OK.ldRo S_ hb 4 141 0 (.func (.func 92) #[] #[]) kr kr) rfl<|PL.takeOK 1 (fun w_ S_=>OK.ldBox S_ 0 5 75 0 (.agg (aJ t)) kr rfl kr) rfl<|PL.callF 6 95 #[.agg (aJ t)] hb95 kr (fxvalid_any t _ (aq ht S2)) ?_
 rintro _ w3 ⟨rfl,T1⟩
 have S3:Sep w [box b1 (aP t) 75] w3:=S2.trans T1
 clear T1 S2
 refine PB.mk S3<|PL.callF 7 92 #[.bool (bP t)] hb92 kr (not_any (bP t) _) ?_
 rintro _ w4 ⟨rfl,T2⟩
 have S4:Sep w [box b1 (aP t) 75] w4:=S3.trans T2
 clear T2 S3
 refine PB.mk S4<|PL.take 4 3 (.bool (!(bP t))) (fun _ _=>kr)<|PL.done<|J.e 0 [.bool (!(bP t))] func94 (hR _ _ ?_)
 exact⟨rfl,S4.nil⟩

theorem hb96:af prog 96:=fun _ _=>by kernel_rfl

theorem val3_any (c:Crv) (bx:Nat) (w:World) (hc:crvQ w c) (hb:(box bx [.func (.func 92) #[] #[]] 141).holds w):Ret prog 96 #[.agg (crvA c),pv bx] w (fun v w'=>v=.bool (!cF c)∧Sep w [] w'):=by
 refine Ret.st (N:=8) func96 fun R hR S0=>?_
 obtain ⟨q1,q2,q3,q4,q5,q6,_⟩:=id hc
 have ql1:=q2.len_eq
 have ql2:=q5.len_eq
 refine J.nw 2 [] [] [] S0 2 (crvC c) 66 fun b1 w1 S1=>J.r 3 [] [] []<|J.drawPlan (fun w_=>Sep w [box b1 (crvC c) 66] w_) [(0,true),(1,true),(2,false),(3,false),(4,true)] S1 Tryz.mixed kr (aF (T:=[(0,some 4,2),(0,some 5,4),(2,some 6,32),(5,some 7,80),(15,some 3,128)]) kr kr) ?_
 intro w2 S2
 refine PB.mk S2<|PL.takeOK 0 (fun w_ S_=>OK.ldRo S_ hb 4 141 0 (.func (.func 92) #[] #[]) kr kr) rfl<|PL.takeOK 1 (fun w_ S_=>OK.ldBox S_ 0 5 66 0 (.agg (crvA c)) kr rfl kr) rfl<|PL.callF 6 97 #[.agg (crvA c)] hb97 kr (cvalid_any c _ (ec hc S2)) ?_
 rintro _ w3 ⟨rfl,T1⟩
 have S3:Sep w [box b1 (crvC c) 66] w3:=S2.trans T1
 clear T1 S2
 refine PB.mk S3<|PL.callF 7 92 #[.bool (cF c)] hb92 kr (not_any (cF c) _) ?_
 rintro _ w4 ⟨rfl,T2⟩
 have S4:Sep w [box b1 (crvC c) 66] w4:=S3.trans T2
 clear T2 S3
 refine PB.mk S4<|PL.take 4 3 (.bool (!(cF c))) (fun _ _=>kr)<|PL.done<|J.e 0 [.bool (!(cF c))] func96 (hR _ _ ?_)
 exact⟨rfl,S4.nil⟩

theorem hb98:af prog 98:=fun _ _=>by kernel_rfl

theorem val4_any (m:Mp) (bx:Nat) (w:World) (hm:mpQ w m) (hb:(box bx [.func (.func 92) #[] #[]] 141).holds w):Ret prog 98 #[.agg (mpA m),pv bx] w (fun v w'=>v=.bool (!co m)∧Sep w [] w'):=by
 refine Ret.st (N:=8) func98 fun R hR S0=>?_
 obtain ⟨q1,q2,q3,q4,q5,q6,q7,q8,q9,_⟩:=id hm
 have ql1:=q2.len_eq
 have ql2:=q5.len_eq
 have ql3:=q8.len_eq
 refine J.nw 2 [] [] [] S0 2 (mpC m) 62 fun b1 w1 S1=>J.r 3 [] [] []<|J.drawPlan (fun w_=>Sep w [box b1 (mpC m) 62] w_) [(0,true),(1,true),(2,false),(3,false),(4,true)] S1 Tryz.mixed kr (aF (T:=[(0,some 4,2),(0,some 5,4),(2,some 6,32),(5,some 7,80),(15,some 3,128)]) kr kr) ?_
 intro w2 S2
 refine PB.mk S2<|PL.takeOK 0 (fun w_ S_=>OK.ldRo S_ hb 4 141 0 (.func (.func 92) #[] #[]) kr kr) rfl<|PL.takeOK 1 (fun w_ S_=>OK.ldBox S_ 0 5 62 0 (.agg (mpA m)) kr rfl kr) rfl<|PL.callF 6 99 #[.agg (mpA m)] hb99 kr (valid_any m _ (eh hm S2)) ?_
 rintro _ w3 ⟨rfl,T1⟩
 have S3:Sep w [box b1 (mpC m) 62] w3:=S2.trans T1
 clear T1 S2
 refine PB.mk S3<|PL.callF 7 92 #[.bool (co m)] hb92 kr (not_any (co m) _) ?_
 rintro _ w4 ⟨rfl,T2⟩
 have S4:Sep w [box b1 (mpC m) 62] w4:=S3.trans T2
 clear T2 S3
 refine PB.mk S4<|PL.take 4 3 (.bool (!(co m))) (fun _ _=>kr)<|PL.done<|J.e 0 [.bool (!(co m))] func98 (hR _ _ ?_)
 exact⟨rfl,S4.nil⟩

theorem hb101:af prog 101:=fun _ _=>by kernel_rfl

theorem val5_any (p:Prg) (i:Ins) (bx1 bx2:Nat) (w:World) (hp:prgQ w p) (hi:insQ w i) (hb1:(box bx1 [.func (.func 92) #[] #[]] 141).holds w) (hb2:(box bx2 (ba p) 28).holds w):Ret prog 101 #[.agg (dm i),pv bx1,pv bx2] w (fun v w'=>v=.bool (!cT p i)∧Sep w [] w'):=by
 refine Ret.st (N:=10) func101 fun R hR S0=>?_
 obtain ⟨q1,q2,q3,q4,q5,q6,q7,q8,q9,q10,q11,q12,q13,q14,q15,q16,q17,q18,q19,q20,q21,q22,q23,q24,q25,_⟩:=id hp
 have ql1:=q2.len_eq
 have ql2:=q5.len_eq
 have ql3:=q8.len_eq
 have ql4:=q11.len_eq
 have ql5:=q15.len_eq
 have ql6:=q18.len_eq
 have ql7:=q21.len_eq
 have ql8:=q24.len_eq
 obtain ⟨q26,q27,q28,q29,q30,_⟩:=id hi
 refine J.nw 2 [] [] [] S0 3 (aR i) 48 fun b1 w1 S1=>J.r 3 [] [] []<|J.drawPlan (fun w_=>Sep w [box b1 (aR i) 48] w_) [(0,true),(1,true),(2,true),(3,false),(4,false),(5,true)] S1 Tryz.mixed kr (aF (T:=[(0,some 5,2),(0,some 6,4),(0,some 7,8),(6,some 8,192),(9,some 9,288),(31,some 4,512)]) kr kr) ?_
 intro w2 S2
 refine PB.mk S2<|PL.takeOK 0 (fun w_ S_=>OK.ldRo S_ hb1 5 141 0 (.func (.func 92) #[] #[]) kr kr) rfl<|PL.takeOK 1 (fun w_ S_=>OK.ldRo S_ hb2 6 28 0 (.agg (eb p)) kr kr) rfl<|PL.takeOK 2 (fun w_ S_=>OK.ldBox S_ 0 7 48 0 (.agg (dm i)) kr rfl kr) rfl<|PL.callF 8 102 #[.agg (eb p),.agg (dm i)] hb102 kr (fits_any p i _ (dN hp S2) (df hi S2)) ?_
 rintro _ w3 ⟨rfl,T1⟩
 have S3:Sep w [box b1 (aR i) 48] w3:=S2.trans T1
 clear T1 S2
 refine PB.mk S3<|PL.callF 9 92 #[.bool (cT p i)] hb92 kr (not_any (cT p i) _) ?_
 rintro _ w4 ⟨rfl,T2⟩
 have S4:Sep w [box b1 (aR i) 48] w4:=S3.trans T2
 clear T2 S3
 refine PB.mk S4<|PL.take 5 4 (.bool (!(cT p i))) (fun _ _=>kr)<|PL.done<|J.e 0 [.bool (!(cT p i))] func101 (hR _ _ ?_)
 exact⟨rfl,S4.nil⟩

theorem hb104:af prog 104:=fun _ _=>by kernel_rfl

theorem val6_any (p:Prg) (c:Int) (bx1:Nat) (w:World) (hb1:(box bx1 (ba p) 28).holds w):Ret prog 104 #[iv c,pv bx1] w (fun v w'=>v=.bool (!(decide (0≤c)&&decide (c<p.aA)))∧Sep w [] w'):=by
 refine Ret.st (N:=12) func104 fun R hR S0=>J.c 9 [] [] [] 6 (c<0) (fun fk1=>?_) fun fk1=>?_
 refine J.e 7 [.bool true] func104 (hR _ _ ?_)
 exact⟨congrArg Value.bool (by show _= !(decide (0≤c)&&decide (c<p.aA));by_cases q1_:0≤c<;>by_cases q2_:c<p.aA<;>simp[q1_,q2_]<;>omega),S0.nil⟩
 refine J.r 2 [] [(8,.pointer (some ⟨bx1,4,none⟩)),(7,iv c)] []<|J.ok (OK.ldRo S0 hb1 9 3 4 (iv p.aA) kr kr)<|J.e 4 [.bool (decide (c≥p.aA))] func104 (hR _ _ ?_)
 exact⟨congrArg Value.bool (by show _= !(decide (0≤c)&&decide (c<p.aA));by_cases q1_:0≤c<;>by_cases q2_:c<p.aA<;>simp[q1_,q2_]<;>omega),S0.nil⟩

theorem hb106:af prog 106:=fun _ _=>by kernel_rfl

theorem val7_any (n:Int) (w:World):Ret prog 106 #[iv n] w (fun v w'=>v=.bool (!initB n)∧Sep w [] w'):=by
 refine Ret.st (N:=9) func106 fun R hR S0=>J.c 9 [] [] [] 5 (n<(-1099511627776)) (fun fk1=>?_) fun fk1=>?_
 refine J.e 5 [.bool true] func106 (hR _ _ ?_)
 exact⟨congrArg Value.bool (by show _= !(decide (-1099511627776≤n)&&decide (n≤1099511627776));by_cases q1_: -1099511627776≤n<;>by_cases q2_:n≤1099511627776<;>simp[q1_,q2_]<;>omega),S0.nil⟩
 refine J.e 5 [.bool (decide (n>1099511627776))] func106 (hR _ _ ?_)
 exact⟨congrArg Value.bool (by show _= !(decide (-1099511627776≤n)&&decide (n≤1099511627776));by_cases q1_: -1099511627776≤n<;>by_cases q2_:n≤1099511627776<;>simp[q1_,q2_]<;>omega),S0.nil⟩

theorem hb143:af prog 143:=fun _ _=>by kernel_rfl
def K143_0:=adv 13 [] (bo Tryz.f143)
theorem indexFX1 (la:Option Addr) (len cap:Nat) (l:List Fxd) (g:FuncId) (c1:Value) (q:Fxd→Bool) (w:World) (hI:Recs fxdE 10 w la len l) (hlen:len≤9223372036854775807) (hbg:af prog g) (hcall:∀ (i:Nat) (w2:World),i<l.length→Sep w [] w2→Ret prog g #[.agg (aJ (l.getD i fx0)),c1] w2 (fun v w3=>v=.bool (q (l.getD i fx0))∧Sep w2 [] w3)):Ret prog 143 #[.slice la len cap,.func (.func g) #[] #[c1]] w (fun v w'=>v=iv (bR q l)∧Sep w [] w'):=by
 refine Ret.st (N:=19) func143 fun R hR S0=>?_
 have L143_1:∀ (mm_:Nat) (i:Int) (w1:World),(0≤i)→(i≤(len:Int))→(∀ j,j<(i).toNat→q (l.getD j fx0)=false)→Sep w [] w1→((len:Int)-i).toNat=mm_→J prog 143 19 R K143_0 [(8,iv i),(7,iv (len:Int)),(0,.slice la len cap),(1,.func (.func g) #[] #[c1])] w1:=by
  intro mm1
  induction mm1 using Nat.strongRecOn with
  | _ mm1 ih1 =>
  intro i w1 h0 h1 hq S1 hm1
  refine J.c 5 [] [] [] 9 (i<(len:Int)) (fun fk1=>?_) fun fk1=>?_
  refine J.r 14 [true] [(13,iv i),(12,.slice la len cap),(11,.func (.func g) #[] #[c1]),(5,iv i)] [] ?_
  obtain ⟨p1,hp1,hc1⟩:=hI.at fx0 (i).toNat om
  refine J.ok (OK.index 14 23 10 la p1 len (i).toNat i (p1.add ((i).toNat*10)) kr kr hp1 om om rfl)<|J.ok (OK.ldCells 15 75 (p1.add ((i).toNat*10)) (aP (l.getD (i).toNat fx0)) kr kr kr (fun j_ v_ hj_=>S1.cell (hc1 j_ v_ hj_)))<|J.callF 16 g #[.agg (aJ (l.getD (i).toNat fx0)),c1] hbg kr (hcall (i).toNat w1 (by have:=hI.len_eq;omega) S1.nil) ?_
  rintro _ w2 ⟨rfl,T1⟩
  have S2:Sep w [] w2:=S1.trans T1
  refine J.b 1 [] [] [] 16 (q (l.getD (i).toNat fx0)) (fun fk2=>?_) fun fk2=>?_
  refine J.e 6 [iv i] func143 (hR _ _ ?_)
  exact⟨by rw[cG,dq fx0 i.toNat (by have:=hI.len_eq;omega) hq fk2,Int.toNat_of_nonneg h0],S2.nil⟩
  exact J.wi 5 [false] [] [] 18 (i+1)<|J.t 3 (ih1 _ (show((len:Int)-(i+1)).toNat<mm1 from by omega) (i+1) w2 om om (by intro j hj;by_cases e:j=i.toNat;(subst e;exact fk2);exact hq j om) S2 rfl)
  refine J.e 6 [iv (-1)] func143 (hR _ _ ?_)
  exact⟨by rw[cG,dH fx0 fun j hj=>hq j (by have:=hI.len_eq;omega)],S1.nil⟩
 exact J.t 13 (L143_1 _ 0 w om om (by intro j hj;simp at hj) S0 rfl)

theorem hb93:af prog 93:=fun _ _=>by kernel_rfl

theorem containsFX1 (la:Option Addr) (len cap:Nat) (l:List Fxd) (g:FuncId) (c1:Value) (q:Fxd→Bool) (w:World) (hI:Recs fxdE 10 w la len l) (hlen:len≤9223372036854775807) (hbg:af prog g) (hcall:∀ (i:Nat) (w2:World),i<l.length→Sep w [] w2→Ret prog g #[.agg (aJ (l.getD i fx0)),c1] w2 (fun v w3=>v=.bool (q (l.getD i fx0))∧Sep w2 [] w3)):Ret prog 93 #[.slice la len cap,.func (.func g) #[] #[c1]] w (fun v w'=>v=.bool (l.any q)∧Sep w [] w'):=by
 refine Ret.st (N:=9) func93 fun R hR S0=>J.r 8 [] [(6,.func (.func g) #[] #[c1]),(5,.slice la len cap)] []<|J.callF 7 143 #[.slice la len cap,.func (.func g) #[] #[c1]] hb143 kr (indexFX1 la len cap l g c1 q _ (hI.sep S0) oz hbg (hcall)) ?_
 rintro _ w1 ⟨rfl,T1⟩
 have S1:Sep w [] w1:=S0.trans T1
 refine J.e 3 [.bool (decide ((bR q l)≥0))] func93 (hR _ _ ?_)
 exact⟨congrArg Value.bool (by first | exact cV),S1.nil⟩

theorem hb59:af prog 59:=fun _ _=>by kernel_rfl
def K59_0:=adv 13 [] (bo Tryz.f59)
theorem indexCV1 (la:Option Addr) (len cap:Nat) (l:List Crv) (g:FuncId) (c1:Value) (q:Crv→Bool) (w:World) (hI:Recs crvE 2 w la len l) (hlen:len≤9223372036854775807) (hbg:af prog g) (hcall:∀ (i:Nat) (w2:World),i<l.length→Sep w [] w2→Ret prog g #[.agg (crvA (l.getD i (⟨none,0,0,[],none,0,0,[]⟩:Crv))),c1] w2 (fun v w3=>v=.bool (q (l.getD i (⟨none,0,0,[],none,0,0,[]⟩:Crv)))∧Sep w2 [] w3)):Ret prog 59 #[.slice la len cap,.func (.func g) #[] #[c1]] w (fun v w'=>v=iv (bR q l)∧Sep w [] w'):=by
 refine Ret.st (N:=19) func59 fun R hR S0=>?_
 have L59_1:∀ (mm_:Nat) (i:Int) (w1:World),(0≤i)→(i≤(len:Int))→(∀ j,j<(i).toNat→q (l.getD j (⟨none,0,0,[],none,0,0,[]⟩:Crv))=false)→Sep w [] w1→((len:Int)-i).toNat=mm_→J prog 59 19 R K59_0 [(8,iv i),(7,iv (len:Int)),(0,.slice la len cap),(1,.func (.func g) #[] #[c1])] w1:=by
  intro mm1
  induction mm1 using Nat.strongRecOn with
  | _ mm1 ih1 =>
  intro i w1 h0 h1 hq S1 hm1
  refine J.c 5 [] [] [] 9 (i<(len:Int)) (fun fk1=>?_) fun fk1=>?_
  refine J.r 14 [true] [(13,iv i),(12,.slice la len cap),(11,.func (.func g) #[] #[c1]),(5,iv i)] [] ?_
  obtain ⟨p1,hp1,hc1⟩:=hI.at (⟨none,0,0,[],none,0,0,[]⟩:Crv) (i).toNat om
  refine J.ok (OK.index 14 24 2 la p1 len (i).toNat i (p1.add ((i).toNat*2)) kr kr hp1 om om rfl)<|J.ok (OK.ldCells 15 66 (p1.add ((i).toNat*2)) (crvC (l.getD (i).toNat (⟨none,0,0,[],none,0,0,[]⟩:Crv))) kr kr kr (fun j_ v_ hj_=>S1.cell (hc1 j_ v_ hj_)))<|J.callF 16 g #[.agg (crvA (l.getD (i).toNat (⟨none,0,0,[],none,0,0,[]⟩:Crv))),c1] hbg kr (hcall (i).toNat w1 (by have:=hI.len_eq;omega) S1.nil) ?_
  rintro _ w2 ⟨rfl,T1⟩
  have S2:Sep w [] w2:=S1.trans T1
  refine J.b 1 [] [] [] 16 (q (l.getD (i).toNat (⟨none,0,0,[],none,0,0,[]⟩:Crv))) (fun fk2=>?_) fun fk2=>?_
  refine J.e 6 [iv i] func59 (hR _ _ ?_)
  exact⟨by rw[cG,dq (⟨none,0,0,[],none,0,0,[]⟩:Crv) i.toNat (by have:=hI.len_eq;omega) hq fk2,Int.toNat_of_nonneg h0],S2.nil⟩
  exact J.wi 5 [false] [] [] 18 (i+1)<|J.t 3 (ih1 _ (show((len:Int)-(i+1)).toNat<mm1 from by omega) (i+1) w2 om om (by intro j hj;by_cases e:j=i.toNat;(subst e;exact fk2);exact hq j om) S2 rfl)
  refine J.e 6 [iv (-1)] func59 (hR _ _ ?_)
  exact⟨by rw[cG,dH (⟨none,0,0,[],none,0,0,[]⟩:Crv) fun j hj=>hq j (by have:=hI.len_eq;omega)],S1.nil⟩
 exact J.t 13 (L59_1 _ 0 w om om (by intro j hj;simp at hj) S0 rfl)

theorem hb24:af prog 24:=fun _ _=>by kernel_rfl

theorem containsCV1 (la:Option Addr) (len cap:Nat) (l:List Crv) (g:FuncId) (c1:Value) (q:Crv→Bool) (w:World) (hI:Recs crvE 2 w la len l) (hlen:len≤9223372036854775807) (hbg:af prog g) (hcall:∀ (i:Nat) (w2:World),i<l.length→Sep w [] w2→Ret prog g #[.agg (crvA (l.getD i (⟨none,0,0,[],none,0,0,[]⟩:Crv))),c1] w2 (fun v w3=>v=.bool (q (l.getD i (⟨none,0,0,[],none,0,0,[]⟩:Crv)))∧Sep w2 [] w3)):Ret prog 24 #[.slice la len cap,.func (.func g) #[] #[c1]] w (fun v w'=>v=.bool (l.any q)∧Sep w [] w'):=by
 refine Ret.st (N:=9) func24 fun R hR S0=>J.r 8 [] [(6,.func (.func g) #[] #[c1]),(5,.slice la len cap)] []<|J.callF 7 59 #[.slice la len cap,.func (.func g) #[] #[c1]] hb59 kr (indexCV1 la len cap l g c1 q _ (hI.sep S0) oz hbg (hcall)) ?_
 rintro _ w1 ⟨rfl,T1⟩
 have S1:Sep w [] w1:=S0.trans T1
 refine J.e 3 [.bool (decide ((bR q l)≥0))] func24 (hR _ _ ?_)
 exact⟨congrArg Value.bool (by first | exact cV),S1.nil⟩

theorem hb58:af prog 58:=fun _ _=>by kernel_rfl
def K58_0:=adv 13 [] (bo Tryz.f58)
theorem indexMP1 (la:Option Addr) (len cap:Nat) (l:List Mp) (g:FuncId) (c1:Value) (q:Mp→Bool) (w:World) (hI:Recs mpE 3 w la len l) (hlen:len≤9223372036854775807) (hbg:af prog g) (hcall:∀ (i:Nat) (w2:World),i<l.length→Sep w [] w2→Ret prog g #[.agg (mpA (l.getD i (⟨none,0,0,[],none,0,0,[],none,0,0,[]⟩:Mp))),c1] w2 (fun v w3=>v=.bool (q (l.getD i (⟨none,0,0,[],none,0,0,[],none,0,0,[]⟩:Mp)))∧Sep w2 [] w3)):Ret prog 58 #[.slice la len cap,.func (.func g) #[] #[c1]] w (fun v w'=>v=iv (bR q l)∧Sep w [] w'):=by
 refine Ret.st (N:=19) func58 fun R hR S0=>?_
 have L58_1:∀ (mm_:Nat) (i:Int) (w1:World),(0≤i)→(i≤(len:Int))→(∀ j,j<(i).toNat→q (l.getD j (⟨none,0,0,[],none,0,0,[],none,0,0,[]⟩:Mp))=false)→Sep w [] w1→((len:Int)-i).toNat=mm_→J prog 58 19 R K58_0 [(8,iv i),(7,iv (len:Int)),(0,.slice la len cap),(1,.func (.func g) #[] #[c1])] w1:=by
  intro mm1
  induction mm1 using Nat.strongRecOn with
  | _ mm1 ih1 =>
  intro i w1 h0 h1 hq S1 hm1
  refine J.c 5 [] [] [] 9 (i<(len:Int)) (fun fk1=>?_) fun fk1=>?_
  refine J.r 14 [true] [(13,iv i),(12,.slice la len cap),(11,.func (.func g) #[] #[c1]),(5,iv i)] [] ?_
  obtain ⟨p1,hp1,hc1⟩:=hI.at (⟨none,0,0,[],none,0,0,[],none,0,0,[]⟩:Mp) (i).toNat om
  refine J.ok (OK.index 14 25 3 la p1 len (i).toNat i (p1.add ((i).toNat*3)) kr kr hp1 om om rfl)<|J.ok (OK.ldCells 15 62 (p1.add ((i).toNat*3)) (mpC (l.getD (i).toNat (⟨none,0,0,[],none,0,0,[],none,0,0,[]⟩:Mp))) kr kr kr (fun j_ v_ hj_=>S1.cell (hc1 j_ v_ hj_)))<|J.callF 16 g #[.agg (mpA (l.getD (i).toNat (⟨none,0,0,[],none,0,0,[],none,0,0,[]⟩:Mp))),c1] hbg kr (hcall (i).toNat w1 (by have:=hI.len_eq;omega) S1.nil) ?_
  rintro _ w2 ⟨rfl,T1⟩
  have S2:Sep w [] w2:=S1.trans T1
  refine J.b 1 [] [] [] 16 (q (l.getD (i).toNat (⟨none,0,0,[],none,0,0,[],none,0,0,[]⟩:Mp))) (fun fk2=>?_) fun fk2=>?_
  refine J.e 6 [iv i] func58 (hR _ _ ?_)
  exact⟨by rw[cG,dq (⟨none,0,0,[],none,0,0,[],none,0,0,[]⟩:Mp) i.toNat (by have:=hI.len_eq;omega) hq fk2,Int.toNat_of_nonneg h0],S2.nil⟩
  exact J.wi 5 [false] [] [] 18 (i+1)<|J.t 3 (ih1 _ (show((len:Int)-(i+1)).toNat<mm1 from by omega) (i+1) w2 om om (by intro j hj;by_cases e:j=i.toNat;(subst e;exact fk2);exact hq j om) S2 rfl)
  refine J.e 6 [iv (-1)] func58 (hR _ _ ?_)
  exact⟨by rw[cG,dH (⟨none,0,0,[],none,0,0,[],none,0,0,[]⟩:Mp) fun j hj=>hq j (by have:=hI.len_eq;omega)],S1.nil⟩
 exact J.t 13 (L58_1 _ 0 w om om (by intro j hj;simp at hj) S0 rfl)

theorem hb22:af prog 22:=fun _ _=>by kernel_rfl

theorem containsMP1 (la:Option Addr) (len cap:Nat) (l:List Mp) (g:FuncId) (c1:Value) (q:Mp→Bool) (w:World) (hI:Recs mpE 3 w la len l) (hlen:len≤9223372036854775807) (hbg:af prog g) (hcall:∀ (i:Nat) (w2:World),i<l.length→Sep w [] w2→Ret prog g #[.agg (mpA (l.getD i (⟨none,0,0,[],none,0,0,[],none,0,0,[]⟩:Mp))),c1] w2 (fun v w3=>v=.bool (q (l.getD i (⟨none,0,0,[],none,0,0,[],none,0,0,[]⟩:Mp)))∧Sep w2 [] w3)):Ret prog 22 #[.slice la len cap,.func (.func g) #[] #[c1]] w (fun v w'=>v=.bool (l.any q)∧Sep w [] w'):=by
 refine Ret.st (N:=9) func22 fun R hR S0=>J.r 8 [] [(6,.func (.func g) #[] #[c1]),(5,.slice la len cap)] []<|J.callF 7 58 #[.slice la len cap,.func (.func g) #[] #[c1]] hb58 kr (indexMP1 la len cap l g c1 q _ (hI.sep S0) oz hbg (hcall)) ?_
 rintro _ w1 ⟨rfl,T1⟩
 have S1:Sep w [] w1:=S0.trans T1
 refine J.e 3 [.bool (decide ((bR q l)≥0))] func22 (hR _ _ ?_)
 exact⟨congrArg Value.bool (by first | exact cV),S1.nil⟩

theorem hb150:af prog 150:=fun _ _=>by kernel_rfl
def K150_0:=adv 13 [] (bo Tryz.f150)
theorem indexIN2 (la:Option Addr) (len cap:Nat) (l:List Ins) (g:FuncId) (c1:Value) (c2:Value) (q:Ins→Bool) (w:World) (hI:Recs insE 5 w la len l) (hlen:len≤9223372036854775807) (hbg:af prog g) (hcall:∀ (i:Nat) (w2:World),i<l.length→Sep w [] w2→Ret prog g #[.agg (dm (l.getD i bq)),c1,c2] w2 (fun v w3=>v=.bool (q (l.getD i bq))∧Sep w2 [] w3)):Ret prog 150 #[.slice la len cap,.func (.func g) #[] #[c1,c2]] w (fun v w'=>v=iv (bR q l)∧Sep w [] w'):=by
 refine Ret.st (N:=19) func150 fun R hR S0=>?_
 have L150_1:∀ (mm_:Nat) (i:Int) (w1:World),(0≤i)→(i≤(len:Int))→(∀ j,j<(i).toNat→q (l.getD j bq)=false)→Sep w [] w1→((len:Int)-i).toNat=mm_→J prog 150 19 R K150_0 [(8,iv i),(7,iv (len:Int)),(0,.slice la len cap),(1,.func (.func g) #[] #[c1,c2])] w1:=by
  intro mm1
  induction mm1 using Nat.strongRecOn with
  | _ mm1 ih1 =>
  intro i w1 h0 h1 hq S1 hm1
  refine J.c 5 [] [] [] 9 (i<(len:Int)) (fun fk1=>?_) fun fk1=>?_
  refine J.r 14 [true] [(13,iv i),(12,.slice la len cap),(11,.func (.func g) #[] #[c1,c2]),(5,iv i)] [] ?_
  obtain ⟨p1,hp1,hc1⟩:=hI.at bq (i).toNat om
  refine J.ok (OK.index 14 22 5 la p1 len (i).toNat i (p1.add ((i).toNat*5)) kr kr hp1 om om rfl)<|J.ok (OK.ldCells 15 48 (p1.add ((i).toNat*5)) (aR (l.getD (i).toNat bq)) kr kr kr (fun j_ v_ hj_=>S1.cell (hc1 j_ v_ hj_)))<|J.callF 16 g #[.agg (dm (l.getD (i).toNat bq)),c1,c2] hbg kr (hcall (i).toNat w1 (by have:=hI.len_eq;omega) S1.nil) ?_
  rintro _ w2 ⟨rfl,T1⟩
  have S2:Sep w [] w2:=S1.trans T1
  refine J.b 1 [] [] [] 16 (q (l.getD (i).toNat bq)) (fun fk2=>?_) fun fk2=>?_
  refine J.e 6 [iv i] func150 (hR _ _ ?_)
  exact⟨by rw[cG,dq bq i.toNat (by have:=hI.len_eq;omega) hq fk2,Int.toNat_of_nonneg h0],S2.nil⟩
  exact J.wi 5 [false] [] [] 18 (i+1)<|J.t 3 (ih1 _ (show((len:Int)-(i+1)).toNat<mm1 from by omega) (i+1) w2 om om (by intro j hj;by_cases e:j=i.toNat;(subst e;exact fk2);exact hq j om) S2 rfl)
  refine J.e 6 [iv (-1)] func150 (hR _ _ ?_)
  exact⟨by rw[cG,dH bq fun j hj=>hq j (by have:=hI.len_eq;omega)],S1.nil⟩
 exact J.t 13 (L150_1 _ 0 w om om (by intro j hj;simp at hj) S0 rfl)

theorem hb100:af prog 100:=fun _ _=>by kernel_rfl

theorem containsIN2 (la:Option Addr) (len cap:Nat) (l:List Ins) (g:FuncId) (c1:Value) (c2:Value) (q:Ins→Bool) (w:World) (hI:Recs insE 5 w la len l) (hlen:len≤9223372036854775807) (hbg:af prog g) (hcall:∀ (i:Nat) (w2:World),i<l.length→Sep w [] w2→Ret prog g #[.agg (dm (l.getD i bq)),c1,c2] w2 (fun v w3=>v=.bool (q (l.getD i bq))∧Sep w2 [] w3)):Ret prog 100 #[.slice la len cap,.func (.func g) #[] #[c1,c2]] w (fun v w'=>v=.bool (l.any q)∧Sep w [] w'):=by
 refine Ret.st (N:=9) func100 fun R hR S0=>J.r 8 [] [(6,.func (.func g) #[] #[c1,c2]),(5,.slice la len cap)] []<|J.callF 7 150 #[.slice la len cap,.func (.func g) #[] #[c1,c2]] hb150 kr (indexIN2 la len cap l g c1 c2 q _ (hI.sep S0) oz hbg (hcall)) ?_
 rintro _ w1 ⟨rfl,T1⟩
 have S1:Sep w [] w1:=S0.trans T1
 refine J.e 3 [.bool (decide ((bR q l)≥0))] func100 (hR _ _ ?_)
 exact⟨congrArg Value.bool (by first | exact cV),S1.nil⟩

def K59a_0:=adv 13 [] (bo Tryz.f59)
theorem indexCV0 (la:Option Addr) (len cap:Nat) (l:List Crv) (g:FuncId) (q:Crv→Bool) (w:World) (hI:Recs crvE 2 w la len l) (hlen:len≤9223372036854775807) (hbg:af prog g) (hcall:∀ (i:Nat) (w2:World),i<l.length→Sep w [] w2→Ret prog g #[.agg (crvA (l.getD i (⟨none,0,0,[],none,0,0,[]⟩:Crv)))] w2 (fun v w3=>v=.bool (q (l.getD i (⟨none,0,0,[],none,0,0,[]⟩:Crv)))∧Sep w2 [] w3)):Ret prog 59 #[.slice la len cap,.func (.func g) #[] #[]] w (fun v w'=>v=iv (bR q l)∧Sep w [] w'):=by
 refine Ret.st (N:=19) func59 fun R hR S0=>?_
 have L59_1:∀ (mm_:Nat) (i:Int) (w1:World),(0≤i)→(i≤(len:Int))→(∀ j,j<(i).toNat→q (l.getD j (⟨none,0,0,[],none,0,0,[]⟩:Crv))=false)→Sep w [] w1→((len:Int)-i).toNat=mm_→J prog 59 19 R K59a_0 [(8,iv i),(7,iv (len:Int)),(0,.slice la len cap),(1,.func (.func g) #[] #[])] w1:=by
  intro mm1
  induction mm1 using Nat.strongRecOn with
  | _ mm1 ih1 =>
  intro i w1 h0 h1 hq S1 hm1
  refine J.c 5 [] [] [] 9 (i<(len:Int)) (fun fk1=>?_) fun fk1=>?_
  refine J.r 14 [true] [(13,iv i),(12,.slice la len cap),(11,.func (.func g) #[] #[]),(5,iv i)] [] ?_
  obtain ⟨p1,hp1,hc1⟩:=hI.at (⟨none,0,0,[],none,0,0,[]⟩:Crv) (i).toNat om
  refine J.ok (OK.index 14 24 2 la p1 len (i).toNat i (p1.add ((i).toNat*2)) kr kr hp1 om om rfl)<|J.ok (OK.ldCells 15 66 (p1.add ((i).toNat*2)) (crvC (l.getD (i).toNat (⟨none,0,0,[],none,0,0,[]⟩:Crv))) kr kr kr (fun j_ v_ hj_=>S1.cell (hc1 j_ v_ hj_)))<|J.callF 16 g #[.agg (crvA (l.getD (i).toNat (⟨none,0,0,[],none,0,0,[]⟩:Crv)))] hbg kr (hcall (i).toNat w1 (by have:=hI.len_eq;omega) S1.nil) ?_
  rintro _ w2 ⟨rfl,T1⟩
  have S2:Sep w [] w2:=S1.trans T1
  refine J.b 1 [] [] [] 16 (q (l.getD (i).toNat (⟨none,0,0,[],none,0,0,[]⟩:Crv))) (fun fk2=>?_) fun fk2=>?_
  refine J.e 6 [iv i] func59 (hR _ _ ?_)
  exact⟨by rw[cG,dq (⟨none,0,0,[],none,0,0,[]⟩:Crv) i.toNat (by have:=hI.len_eq;omega) hq fk2,Int.toNat_of_nonneg h0],S2.nil⟩
  exact J.wi 5 [false] [] [] 18 (i+1)<|J.t 3 (ih1 _ (show((len:Int)-(i+1)).toNat<mm1 from by omega) (i+1) w2 om om (by intro j hj;by_cases e:j=i.toNat;(subst e;exact fk2);exact hq j om) S2 rfl)
  refine J.e 6 [iv (-1)] func59 (hR _ _ ?_)
  exact⟨by rw[cG,dH (⟨none,0,0,[],none,0,0,[]⟩:Crv) fun j hj=>hq j (by have:=hI.len_eq;omega)],S1.nil⟩
 exact J.t 13 (L59_1 _ 0 w om om (by intro j hj;simp at hj) S0 rfl)

theorem containsCV0 (la:Option Addr) (len cap:Nat) (l:List Crv) (g:FuncId) (q:Crv→Bool) (w:World) (hI:Recs crvE 2 w la len l) (hlen:len≤9223372036854775807) (hbg:af prog g) (hcall:∀ (i:Nat) (w2:World),i<l.length→Sep w [] w2→Ret prog g #[.agg (crvA (l.getD i (⟨none,0,0,[],none,0,0,[]⟩:Crv)))] w2 (fun v w3=>v=.bool (q (l.getD i (⟨none,0,0,[],none,0,0,[]⟩:Crv)))∧Sep w2 [] w3)):Ret prog 24 #[.slice la len cap,.func (.func g) #[] #[]] w (fun v w'=>v=.bool (l.any q)∧Sep w [] w'):=by
 refine Ret.st (N:=9) func24 fun R hR S0=>J.r 8 [] [(6,.func (.func g) #[] #[]),(5,.slice la len cap)] []<|J.callF 7 59 #[.slice la len cap,.func (.func g) #[] #[]] hb59 kr (indexCV0 la len cap l g  q _ (hI.sep S0) oz hbg (hcall)) ?_
 rintro _ w1 ⟨rfl,T1⟩
 have S1:Sep w [] w1:=S0.trans T1
 refine J.e 3 [.bool (decide ((bR q l)≥0))] func24 (hR _ _ ?_)
 exact⟨congrArg Value.bool (by first | exact cV),S1.nil⟩

def K58a_0:=adv 13 [] (bo Tryz.f58)
theorem indexMP0 (la:Option Addr) (len cap:Nat) (l:List Mp) (g:FuncId) (q:Mp→Bool) (w:World) (hI:Recs mpE 3 w la len l) (hlen:len≤9223372036854775807) (hbg:af prog g) (hcall:∀ (i:Nat) (w2:World),i<l.length→Sep w [] w2→Ret prog g #[.agg (mpA (l.getD i (⟨none,0,0,[],none,0,0,[],none,0,0,[]⟩:Mp)))] w2 (fun v w3=>v=.bool (q (l.getD i (⟨none,0,0,[],none,0,0,[],none,0,0,[]⟩:Mp)))∧Sep w2 [] w3)):Ret prog 58 #[.slice la len cap,.func (.func g) #[] #[]] w (fun v w'=>v=iv (bR q l)∧Sep w [] w'):=by
 refine Ret.st (N:=19) func58 fun R hR S0=>?_
 have L58_1:∀ (mm_:Nat) (i:Int) (w1:World),(0≤i)→(i≤(len:Int))→(∀ j,j<(i).toNat→q (l.getD j (⟨none,0,0,[],none,0,0,[],none,0,0,[]⟩:Mp))=false)→Sep w [] w1→((len:Int)-i).toNat=mm_→J prog 58 19 R K58a_0 [(8,iv i),(7,iv (len:Int)),(0,.slice la len cap),(1,.func (.func g) #[] #[])] w1:=by
  intro mm1
  induction mm1 using Nat.strongRecOn with
  | _ mm1 ih1 =>
  intro i w1 h0 h1 hq S1 hm1
  refine J.c 5 [] [] [] 9 (i<(len:Int)) (fun fk1=>?_) fun fk1=>?_
  refine J.r 14 [true] [(13,iv i),(12,.slice la len cap),(11,.func (.func g) #[] #[]),(5,iv i)] [] ?_
  obtain ⟨p1,hp1,hc1⟩:=hI.at (⟨none,0,0,[],none,0,0,[],none,0,0,[]⟩:Mp) (i).toNat om
  refine J.ok (OK.index 14 25 3 la p1 len (i).toNat i (p1.add ((i).toNat*3)) kr kr hp1 om om rfl)<|J.ok (OK.ldCells 15 62 (p1.add ((i).toNat*3)) (mpC (l.getD (i).toNat (⟨none,0,0,[],none,0,0,[],none,0,0,[]⟩:Mp))) kr kr kr (fun j_ v_ hj_=>S1.cell (hc1 j_ v_ hj_)))<|J.callF 16 g #[.agg (mpA (l.getD (i).toNat (⟨none,0,0,[],none,0,0,[],none,0,0,[]⟩:Mp)))] hbg kr (hcall (i).toNat w1 (by have:=hI.len_eq;omega) S1.nil) ?_
  rintro _ w2 ⟨rfl,T1⟩
  have S2:Sep w [] w2:=S1.trans T1
  refine J.b 1 [] [] [] 16 (q (l.getD (i).toNat (⟨none,0,0,[],none,0,0,[],none,0,0,[]⟩:Mp))) (fun fk2=>?_) fun fk2=>?_
  refine J.e 6 [iv i] func58 (hR _ _ ?_)
  exact⟨by rw[cG,dq (⟨none,0,0,[],none,0,0,[],none,0,0,[]⟩:Mp) i.toNat (by have:=hI.len_eq;omega) hq fk2,Int.toNat_of_nonneg h0],S2.nil⟩
  exact J.wi 5 [false] [] [] 18 (i+1)<|J.t 3 (ih1 _ (show((len:Int)-(i+1)).toNat<mm1 from by omega) (i+1) w2 om om (by intro j hj;by_cases e:j=i.toNat;(subst e;exact fk2);exact hq j om) S2 rfl)
  refine J.e 6 [iv (-1)] func58 (hR _ _ ?_)
  exact⟨by rw[cG,dH (⟨none,0,0,[],none,0,0,[],none,0,0,[]⟩:Mp) fun j hj=>hq j (by have:=hI.len_eq;omega)],S1.nil⟩
 exact J.t 13 (L58_1 _ 0 w om om (by intro j hj;simp at hj) S0 rfl)

theorem containsMP0 (la:Option Addr) (len cap:Nat) (l:List Mp) (g:FuncId) (q:Mp→Bool) (w:World) (hI:Recs mpE 3 w la len l) (hlen:len≤9223372036854775807) (hbg:af prog g) (hcall:∀ (i:Nat) (w2:World),i<l.length→Sep w [] w2→Ret prog g #[.agg (mpA (l.getD i (⟨none,0,0,[],none,0,0,[],none,0,0,[]⟩:Mp)))] w2 (fun v w3=>v=.bool (q (l.getD i (⟨none,0,0,[],none,0,0,[],none,0,0,[]⟩:Mp)))∧Sep w2 [] w3)):Ret prog 22 #[.slice la len cap,.func (.func g) #[] #[]] w (fun v w'=>v=.bool (l.any q)∧Sep w [] w'):=by
 refine Ret.st (N:=9) func22 fun R hR S0=>J.r 8 [] [(6,.func (.func g) #[] #[]),(5,.slice la len cap)] []<|J.callF 7 58 #[.slice la len cap,.func (.func g) #[] #[]] hb58 kr (indexMP0 la len cap l g  q _ (hI.sep S0) oz hbg (hcall)) ?_
 rintro _ w1 ⟨rfl,T1⟩
 have S1:Sep w [] w1:=S0.trans T1
 refine J.e 3 [.bool (decide ((bR q l)≥0))] func22 (hR _ _ ?_)
 exact⟨congrArg Value.bool (by first | exact cV),S1.nil⟩

def K152a_0:=adv 13 [] (bo Tryz.f152)
theorem indexI1 (la:Option Addr) (len cap:Nat) (l:List Int) (g:FuncId) (c1:Value) (q:Int→Bool) (w:World) (hI:Ones (Value.int .i64) w la len l) (hlen:len≤9223372036854775807) (hbg:af prog g) (hcall:∀ (i:Nat) (w2:World),i<l.length→Sep w [] w2→Ret prog g #[iv (l.getD i 0),c1] w2 (fun v w3=>v=.bool (q (l.getD i 0))∧Sep w2 [] w3)):Ret prog 152 #[.slice la len cap,.func (.func g) #[] #[c1]] w (fun v w'=>v=iv (bR q l)∧Sep w [] w'):=by
 refine Ret.st (N:=19) func152 fun R hR S0=>?_
 have L152_1:∀ (mm_:Nat) (i:Int) (w1:World),(0≤i)→(i≤(len:Int))→(∀ j,j<(i).toNat→q (l.getD j 0)=false)→Sep w [] w1→((len:Int)-i).toNat=mm_→J prog 152 19 R K152a_0 [(8,iv i),(7,iv (len:Int)),(0,.slice la len cap),(1,.func (.func g) #[] #[c1])] w1:=by
  intro mm1
  induction mm1 using Nat.strongRecOn with
  | _ mm1 ih1 =>
  intro i w1 h0 h1 hq S1 hm1
  refine J.c 5 [] [] [] 9 (i<(len:Int)) (fun fk1=>?_) fun fk1=>?_
  refine J.r 14 [true] [(13,iv i),(12,.slice la len cap),(11,.func (.func g) #[] #[c1]),(5,iv i)] [] ?_
  obtain ⟨p1,hp1,hc1⟩:=hI.at 0 (i).toNat om
  refine J.ok (OK.index 14 26 1 la p1 len (i).toNat i (p1.add (i).toNat) kr kr hp1 om om nO)<|J.ok (OK.ldCell 15 3 (p1.add (i).toNat) (iv (l.getD (i).toNat 0)) kr kr (S1.cell hc1))<|J.callF 16 g #[iv (l.getD (i).toNat 0),c1] hbg kr (hcall (i).toNat w1 (by have:=hI.len_eq;omega) S1.nil) ?_
  rintro _ w2 ⟨rfl,T1⟩
  have S2:Sep w [] w2:=S1.trans T1
  refine J.b 1 [] [] [] 16 (q (l.getD (i).toNat 0)) (fun fk2=>?_) fun fk2=>?_
  refine J.e 6 [iv i] func152 (hR _ _ ?_)
  exact⟨by rw[cG,dq 0 i.toNat (by have:=hI.len_eq;omega) hq fk2,Int.toNat_of_nonneg h0],S2.nil⟩
  exact J.wi 5 [false] [] [] 18 (i+1)<|J.t 3 (ih1 _ (show((len:Int)-(i+1)).toNat<mm1 from by omega) (i+1) w2 om om (by intro j hj;by_cases e:j=i.toNat;(subst e;exact fk2);exact hq j om) S2 rfl)
  refine J.e 6 [iv (-1)] func152 (hR _ _ ?_)
  exact⟨by rw[cG,dH 0 fun j hj=>hq j (by have:=hI.len_eq;omega)],S1.nil⟩
 exact J.t 13 (L152_1 _ 0 w om om (by intro j hj;simp at hj) S0 rfl)

theorem containsI1 (la:Option Addr) (len cap:Nat) (l:List Int) (g:FuncId) (c1:Value) (q:Int→Bool) (w:World) (hI:Ones (Value.int .i64) w la len l) (hlen:len≤9223372036854775807) (hbg:af prog g) (hcall:∀ (i:Nat) (w2:World),i<l.length→Sep w [] w2→Ret prog g #[iv (l.getD i 0),c1] w2 (fun v w3=>v=.bool (q (l.getD i 0))∧Sep w2 [] w3)):Ret prog 103 #[.slice la len cap,.func (.func g) #[] #[c1]] w (fun v w'=>v=.bool (l.any q)∧Sep w [] w'):=by
 refine Ret.st (N:=9) func103 fun R hR S0=>J.r 8 [] [(6,.func (.func g) #[] #[c1]),(5,.slice la len cap)] []<|J.callF 7 152 #[.slice la len cap,.func (.func g) #[] #[c1]] hb152 kr (indexI1 la len cap l g c1 q _ (hI.sep S0) oz hbg (hcall)) ?_
 rintro _ w1 ⟨rfl,T1⟩
 have S1:Sep w [] w1:=S0.trans T1
 refine J.e 3 [.bool (decide ((bR q l)≥0))] func103 (hR _ _ ?_)
 exact⟨congrArg Value.bool (by first | exact cV),S1.nil⟩
end
end Go.Proofs.YtaoolgcddapegaaGreatDoor
