/- Walks of functions of this seat, printed by a program over the engine. Conditions: as each theorem says. -/
import Derived.Test.YtaoolgcddapegaaGreatZqX20
set_option linter.unusedSimpArgs false
set_option linter.unusedVariables false
namespace Go.Proofs.YtaoolgcddapegaaGreat
noncomputable section
open Go.Eng Go.RowKit Go.Proofs.Tryz
set_option maxRecDepth 20000
set_option maxHeartbeats 20000000
theorem hb6:af prog 6:=fun _ _=>by kernel_rfl
def K6_0:=adv 50 [false] (bi Tryz.f6)
def K6_1:=adv 18 [false] K6_0
def K6_2:=adv 18 [false] K6_1
def K6_3:=adv 18 [false] K6_2
def K6_4:=adv 7 [] (cR (adv 53 [false,false] K6_3))
def K6_5:=adv 17 [false] K6_4
theorem rpvalid_any (p:Prg) (w:World) (hp:prgQ w p):Ret prog 6 #[.agg (dq p)] w (fun v w'=>v=.bool (bX p)∧Sep w [] w'):=by
 refine Ret.st (N:=187) func6 fun R hR S0=>?_
 obtain ⟨q1,q2,q3,q4,q5,q6,q7,q8,q9,q10,q11,q12,q13,q14,q15,q16,q17,q18,q19,q20,q21,q22,q23,q24,q25,_⟩:=id hp
 have ql1:=q2.len_eq
 have ql2:=q5.len_eq
 have ql3:=q8.len_eq
 have ql4:=q11.len_eq
 have ql5:=q15.len_eq
 have ql6:=q18.len_eq
 have ql7:=q21.len_eq
 have ql8:=q24.len_eq
 have hrep:(List.replicate (p.ap).toNat false).length=p.ap.toNat:=List.length_replicate
 have hcat:(p.au++p.ao).length=p.au.length+p.ao.length:=List.length_append
 refine J.nw 2 [] [] [] S0 1 (aO p) 28 fun b1 w1 S1=>J.lb 6 [] [] [] S1 0 rfl 12 (.slice p.cD p.bl p.dd)<|J.c 3 [] [] [] 15 ((p.bl:Int)>4000) (fun fk1=>?_) fun fk1=>?_
 refine J.e 33 [.bool false] func6 (hR _ _ ?_)
 exact⟨congrArg Value.bool (aX (.inl om)).symm,S1.nil⟩
 refine J.lb 1 [] [] [] S1 0 rfl 17 (.slice p.aJ p.am p.bj)<|J.c 4 [] [] [] 21 ((p.am:Int)>100) (fun fk2=>?_) fun fk2=>?_
 refine J.e 27 [.bool false] func6 (hR _ _ ?_)
 exact⟨congrArg Value.bool (aX (.inl om)).symm,S1.nil⟩
 refine J.lb 1 [] [] [] S1 0 rfl 23 (.slice p.ce p.br p.cu)<|J.c 4 [] [] [] 27 ((p.br:Int)>100) (fun fk3=>?_) fun fk3=>?_
 refine J.e 21 [.bool false] func6 (hR _ _ ?_)
 exact⟨congrArg Value.bool (aX (.inl om)).symm,S1.nil⟩
 refine J.lb 1 [] [] [] S1 0 rfl 29 (.slice p.dc p.bO p.dz)<|J.c 4 [] [] [] 33 ((p.bO:Int)>100) (fun fk4=>?_) fun fk4=>?_
 refine J.e 15 [.bool false] func6 (hR _ _ ?_)
 exact⟨congrArg Value.bool (aX (.inl om)).symm,S1.nil⟩
 refine J.lb 1 [] [] [] S1 0 rfl 35 (iv p.ap)<|J.c 3 [] [] [] 38 (p.ap<0) (fun fk5=>?_) fun fk5=>?_
 refine J.e 10 [.bool false] func6 (hR _ _ ?_)
 exact⟨congrArg Value.bool (aX (.inl om)).symm,S1.nil⟩
 refine J.lb 1 [] [] [] S1 0 rfl 40 (iv p.ap)<|J.c 3 [] [] [] 42 (p.ap>1000) (fun fk6=>?_) fun fk6=>?_
 refine J.e 5 [.bool false] func6 (hR _ _ ?_)
 exact⟨congrArg Value.bool (aX (.inl om)).symm,S1.nil⟩
 have L6_1:∀ (mm_:Nat) (i0:Int) (w2:World),(0≤i0)→(i0≤(p.am:Int))→(∀ j,j<(i0).toNat→bF (p.av.getD j fx0)=true)→Sep w [box b1 (aO p) 28] w2→((p.am:Int)-i0).toNat=mm_→J prog 6 187 R K6_0 [(3,iv i0),(1,pv b1)] w2:=by
  intro mm1
  induction mm1 using Nat.strongRecOn with
  | _ mm1 ih1 =>
  intro i0 w2 z0 y0 hq0 S2 hm1
  refine J.lb 5 [] [(43,iv i0)] [] S2 0 rfl 45 (.slice p.aJ p.am p.bj)<|J.c 3 [] [] [] 47 (i0<(p.am:Int)) (fun fk7=>?_) fun fk7=>?_
  refine J.lb 7 [true] [] [] S2 0 rfl 51 (.slice p.aJ p.am p.bj)<|J.r 1 [] [(52,iv i0)] [] ?_
  obtain ⟨p1,hp1,hc1⟩:=q5.at fx0 (i0).toNat om
  have hel1:=aP q6 fx0 (n:=(i0).toNat) (by have:=q5.len_eq;omega)
  obtain ⟨q26,q27,q28,q29,q30,q31,q32,q33,q34,_⟩:=id hel1
  refine J.ok (OK.index 53 23 10 p.aJ p1 p.am (i0).toNat i0 (p1.add ((i0).toNat*10)) kr kr hp1 om om rfl)<|J.ok (OK.ldCells 54 54 (p1.add ((i0).toNat*10)) (aN (p.av.getD (i0).toNat fx0)) kr kr kr (fun j_ v_ hj_=>S2.cell (hc1 j_ v_ hj_)))<|J.c0 0 [] [] [] S2 55 hb16 (rfxvalid_any (p.av.getD (i0).toNat fx0) _ (aw hel1 S2)) fun w3 S3=>J.bn 2 [] [] [] 56 (bF (p.av.getD (i0).toNat fx0)) (fun fk8=>?_) fun fk8=>?_
  exact J.wi 6 [false] [] [] 49 (i0+1)<|J.t 3 (ih1 _ (show((p.am:Int)-(i0+1)).toNat<mm1 from by omega) (i0+1) w3 om om (cW (q:=fun j=>bF (p.av.getD j fx0)=true) z0 hq0 fk8) S3 rfl)
  refine J.e 5 [.bool false] func6 (hR _ _ ?_)
  exact⟨congrArg Value.bool (aX (.inr (.inl (all_no fx0 (j:=i0.toNat) om fk8)))).symm,S3.nil⟩
  have L6_2:∀ (mm_:Nat) (i1:Int) (w4:World),(0≤i1)→(i1≤(p.br:Int))→(∀ j,j<(i1).toNat→cB (p.bS.getD j (⟨none,0,0,[],none,0,0,[]⟩:Crv))=true)→Sep w [box b1 (aO p) 28] w4→((p.br:Int)-i1).toNat=mm_→J prog 6 187 R K6_1 [(4,iv i1),(1,pv b1)] w4:=by
   intro mm2
   induction mm2 using Nat.strongRecOn with
   | _ mm2 ih2 =>
   intro i1 w4 z1 y1 hq1 S4 hm2
   refine J.lb 5 [] [(57,iv i1)] [] S4 0 rfl 59 (.slice p.ce p.br p.cu)<|J.c 3 [] [] [] 61 (i1<(p.br:Int)) (fun fk9=>?_) fun fk9=>?_
   refine J.lb 7 [true] [] [] S4 0 rfl 65 (.slice p.ce p.br p.cu)<|J.r 1 [] [(66,iv i1)] [] ?_
   obtain ⟨p2,hp2,hc2⟩:=q8.at (⟨none,0,0,[],none,0,0,[]⟩:Crv) (i1).toNat om
   have hel2:=aP q9 (⟨none,0,0,[],none,0,0,[]⟩:Crv) (n:=(i1).toNat) (by have:=q8.len_eq;omega)
   obtain ⟨q35,q36,q37,q38,q39,q40,_⟩:=id hel2
   have ql9:=q36.len_eq
   have ql10:=q39.len_eq
   refine J.ok (OK.index 67 24 2 p.ce p2 p.br (i1).toNat i1 (p2.add ((i1).toNat*2)) kr kr hp2 om om rfl)<|J.ok (OK.ldCells 68 57 (p2.add ((i1).toNat*2)) (crvC (p.bS.getD (i1).toNat (⟨none,0,0,[],none,0,0,[]⟩:Crv))) kr kr kr (fun j_ v_ hj_=>S4.cell (hc2 j_ v_ hj_)))<|J.c0 0 [] [] [] S4 69 hb17 (rcvalid_any (p.bS.getD (i1).toNat (⟨none,0,0,[],none,0,0,[]⟩:Crv)) _ (dV hel2 S4)) fun w5 S5=>J.bn 2 [] [] [] 70 (cB (p.bS.getD (i1).toNat (⟨none,0,0,[],none,0,0,[]⟩:Crv))) (fun fk10=>?_) fun fk10=>?_
   exact J.wi 6 [false] [] [] 63 (i1+1)<|J.t 3 (ih2 _ (show((p.br:Int)-(i1+1)).toNat<mm2 from by omega) (i1+1) w5 om om (cW (q:=fun j=>cB (p.bS.getD j (⟨none,0,0,[],none,0,0,[]⟩:Crv))=true) z1 hq1 fk10) S5 rfl)
   refine J.e 5 [.bool false] func6 (hR _ _ ?_)
   exact⟨congrArg Value.bool (aX (.inr (.inr (.inl (all_no (⟨none,0,0,[],none,0,0,[]⟩:Crv) (j:=i1.toNat) om fk10))))).symm,S5.nil⟩
   have L6_3:∀ (mm_:Nat) (i2:Int) (w6:World),(0≤i2)→(i2≤(p.bO:Int))→(∀ j,j<(i2).toNat→ch (p.cX.getD j (⟨none,0,0,[],none,0,0,[],none,0,0,[]⟩:Mp))=true)→Sep w [box b1 (aO p) 28] w6→((p.bO:Int)-i2).toNat=mm_→J prog 6 187 R K6_2 [(5,iv i2),(1,pv b1)] w6:=by
    intro mm3
    induction mm3 using Nat.strongRecOn with
    | _ mm3 ih3 =>
    intro i2 w6 z2 y2 hq2 S6 hm3
    refine J.lb 5 [] [(71,iv i2)] [] S6 0 rfl 73 (.slice p.dc p.bO p.dz)<|J.c 3 [] [] [] 75 (i2<(p.bO:Int)) (fun fk11=>?_) fun fk11=>?_
    refine J.lb 7 [true] [] [] S6 0 rfl 79 (.slice p.dc p.bO p.dz)<|J.r 1 [] [(80,iv i2)] [] ?_
    obtain ⟨p3,hp3,hc3⟩:=q11.at (⟨none,0,0,[],none,0,0,[],none,0,0,[]⟩:Mp) (i2).toNat om
    have hel3:=aP q12 (⟨none,0,0,[],none,0,0,[],none,0,0,[]⟩:Mp) (n:=(i2).toNat) (by have:=q11.len_eq;omega)
    obtain ⟨q41,q42,q43,q44,q45,q46,q47,q48,q49,_⟩:=id hel3
    have ql11:=q42.len_eq
    have ql12:=q45.len_eq
    have ql13:=q48.len_eq
    refine J.ok (OK.index 81 25 3 p.dc p3 p.bO (i2).toNat i2 (p3.add ((i2).toNat*3)) kr kr hp3 om om rfl)<|J.ok (OK.ldCells 82 61 (p3.add ((i2).toNat*3)) (mpC (p.cX.getD (i2).toNat (⟨none,0,0,[],none,0,0,[],none,0,0,[]⟩:Mp))) kr kr kr (fun j_ v_ hj_=>S6.cell (hc3 j_ v_ hj_)))<|J.c0 0 [] [] [] S6 83 hb18 (rvalid_any (p.cX.getD (i2).toNat (⟨none,0,0,[],none,0,0,[],none,0,0,[]⟩:Mp)) _ (dZ hel3 S6)) fun w7 S7=>J.bn 2 [] [] [] 84 (ch (p.cX.getD (i2).toNat (⟨none,0,0,[],none,0,0,[],none,0,0,[]⟩:Mp))) (fun fk12=>?_) fun fk12=>?_
    exact J.wi 6 [false] [] [] 77 (i2+1)<|J.t 3 (ih3 _ (show((p.bO:Int)-(i2+1)).toNat<mm3 from by omega) (i2+1) w7 om om (cW (q:=fun j=>ch (p.cX.getD j (⟨none,0,0,[],none,0,0,[],none,0,0,[]⟩:Mp))=true) z2 hq2 fk12) S7 rfl)
    refine J.e 5 [.bool false] func6 (hR _ _ ?_)
    exact⟨congrArg Value.bool (aX (.inr (.inr (.inr (.inl (all_no (⟨none,0,0,[],none,0,0,[],none,0,0,[]⟩:Mp) (j:=i2.toNat) om fk12)))))).symm,S7.nil⟩
    have L6_4:∀ (mm_:Nat) (i3:Int) (w8:World),(0≤i3)→(i3≤(p.bl:Int))→(∀ j,j<(i3).toNat→cN p (p.aB.getD j bq)=true)→Sep w [box b1 (aO p) 28] w8→((p.bl:Int)-i3).toNat=mm_→J prog 6 187 R K6_3 [(6,iv i3),(1,pv b1)] w8:=by
     intro mm4
     induction mm4 using Nat.strongRecOn with
     | _ mm4 ih4 =>
     intro i3 w8 z3 y3 hq3 S8 hm4
     refine J.lb 5 [] [(85,iv i3)] [] S8 0 rfl 87 (.slice p.cD p.bl p.dd)<|J.c 3 [] [] [] 89 (i3<(p.bl:Int)) (fun fk13=>?_) fun fk13=>?_
     refine J.r 5 [true] [] [] ?_
     rcases Bool.eq_false_or_eq_true (formB (p.aB.getD (i3).toNat bq)) with fk14 | fk14
     obtain ⟨p4,hp4,hc4⟩:=q2.at bq (i3).toNat om
     have hel4:=aP q3 bq (n:=(i3).toNat) (by have:=q2.len_eq;omega)
     obtain ⟨q50,q51,q52,q53,q54,_⟩:=id hel4
     refine J.drawPlan (fun w_=>Sep w [box b1 (aO p) 28] w_) [(0,true),(1,true),(2,true),(3,true),(4,true),(5,false),(6,true),(7,true),(8,true),(9,true),(10,true),(11,true),(12,true),(13,true),(14,false),(15,true),(16,true)] S8 Tryz.mixed kr (aE (T:=[(0,some 92,2),(1,some 93,4951760157141521099596496896),(0,some 94,64),(6,some 95,29710560942849126597578981376),(8,some 96,39614081257132168796771975168),(16,some 97,79228162514264337593543950336),(32,some 98,158456325028528675187087900672),(96,some 99,316912650057057350374175801344),(128,some 100,633825300114114700748351602690),(128,some 101,633825300114114700748351602690),(640,some 102,3169126500570573503741758013440),(128,some 103,633825300114114700748351602752),(3200,some 104,15845632502852867518708790067200),(4224,some 105,20916234903765785124695602888704),(8576,some 106,42466295107645684950139557380096),(16512,some 107,81763463714720796396537356746752),(32896,some 108,162893102129327478092326361890816)]) kr kr) ?_
     intro w9 S9
     refine PB.mk S9<|PL.take 0 92 (pv b1) (fun _ _=>kr)<|PL.takeOK 1 (fun w_ S_=>OK.ldBox S_ 0 93 22 0 (.slice p.cD p.bl p.dd) kr rfl kr) rfl<|PL.take 2 94 (iv i3) (fun _ _=>kr)<|PL.takeOK 3 (fun w_ S_=>OK.index 95 22 5 p.cD p4 p.bl (i3).toNat i3 (p4.add ((i3).toNat*5)) kr kr hp4 om om rfl) rfl<|PL.takeOK 4 (fun w_ S_=>OK.ldCells 96 64 (p4.add ((i3).toNat*5)) (aZ (p.aB.getD (i3).toNat bq)) kr kr kr (fun j_ v_ hj_=>S_.cell (hc4 j_ v_ hj_))) rfl<|PL.callF 97 19 #[.agg (dP (p.aB.getD (i3).toNat bq))] hb19 kr (rformed_any (p.aB.getD (i3).toNat bq) _ (dF hel4 S9)) ?_
     rintro _ w10 ⟨rfl,T1⟩
     have S10:Sep w [box b1 (aO p) 28] w10:=S9.trans T1
     clear T1 S9
     refine PB.head (.bool true) (congrArg Value.bool fk14)<|PB.mk S10<|PL.take 6 98 (.bool false) (fun _ _=>kr)<|PL.take 7 99 (.bool false) (fun _ _=>kr)<|PL.takeOK 8 (fun w_ S_=>OK.ldBox S_ 0 100 28 0 (.agg (dq p)) kr rfl kr) rfl<|PL.take 9 101 (pv b1) (fun _ _=>kr)<|PL.takeOK 10 (fun w_ S_=>OK.ldBox S_ 0 102 22 0 (.slice p.cD p.bl p.dd) kr rfl kr) rfl<|PL.take 11 103 (iv i3) (fun _ _=>kr)<|PL.takeOK 12 (fun w_ S_=>OK.index 104 22 5 p.cD p4 p.bl (i3).toNat i3 (p4.add ((i3).toNat*5)) kr kr hp4 om om rfl) rfl<|PL.takeOK 13 (fun w_ S_=>OK.ldCells 105 64 (p4.add ((i3).toNat*5)) (aZ (p.aB.getD (i3).toNat bq)) kr kr kr (fun j_ v_ hj_=>S_.cell (hc4 j_ v_ hj_))) rfl<|PL.callF 106 20 #[.agg (dq p),.agg (dP (p.aB.getD (i3).toNat bq))] hb20 kr (rnamed_any p (p.aB.getD (i3).toNat bq) _ (cS hp S10) (dF hel4 S10) fk14) ?_
     rintro _ w11 ⟨rfl,T2⟩
     have S11:Sep w [box b1 (aO p) 28] w11:=S10.trans T2
     clear T2 S10
     refine PB.mk S11<|PL.take 15 107 (.bool (!(cm p (p.aB.getD (i3).toNat bq)))) (fun _ _=>kr)<|PL.take 16 108 (.bool (!(cm p (p.aB.getD (i3).toNat bq)))) (fun _ _=>kr)<|PL.done<|J.bn 0 [] [] [] 108 (cm p (p.aB.getD (i3).toNat bq)) (fun fk15=>?_) fun fk15=>?_
     exact J.wi 6 [false] [] [] 91 (i3+1)<|J.t 3 (ih4 _ (show((p.bl:Int)-(i3+1)).toNat<mm4 from by omega) (i3+1) w11 om om (cW (q:=fun j=>cN p (p.aB.getD j bq)=true) z3 hq3 (by unfold cN;rw[fk14,fk15];rfl)) S11 rfl)
     refine J.e 5 [.bool false] func6 (hR _ _ ?_)
     exact⟨congrArg Value.bool (aX (.inr (.inr (.inr (.inr (.inl (all_no bq (j:=i3.toNat) om (by unfold cN;rw[fk15];rw[Bool.and_false])))))))).symm,S11.nil⟩
     obtain ⟨p5,hp5,hc5⟩:=q2.at bq (i3).toNat om
     have hel5:=aP q3 bq (n:=(i3).toNat) (by have:=q2.len_eq;omega)
     obtain ⟨q55,q56,q57,q58,q59,_⟩:=id hel5
     refine J.drawPlan (fun w_=>Sep w [box b1 (aO p) 28] w_) [(0,true),(1,true),(2,true),(3,true),(4,true),(5,false),(6,true),(7,true),(8,true),(9,true),(10,true),(11,true),(12,true),(13,true),(14,true),(15,true),(16,true)] S8 Tryz.mixed kr (aE (T:=[(0,some 92,2),(1,some 93,4951760157141521099596496896),(0,some 94,64),(6,some 95,29710560942849126597578981376),(8,some 96,39614081257132168796771975168),(16,some 97,79228162514264337593543950336),(32,some 98,158456325028528675187087900672),(96,some 99,316912650057057350374175801344),(128,some 100,633825300114114700748351602690),(128,some 101,633825300114114700748351602690),(640,some 102,3169126500570573503741758013440),(128,some 103,633825300114114700748351602752),(3200,some 104,15845632502852867518708790067200),(4224,some 105,20916234903765785124695602888704),(8576,some 106,42466295107645684950139557380096),(16512,some 107,81763463714720796396537356746752),(32896,some 108,162893102129327478092326361890816)]) kr kr) ?_
     intro w12 S12
     refine PB.mk S12<|PL.take 0 92 (pv b1) (fun _ _=>kr)<|PL.takeOK 1 (fun w_ S_=>OK.ldBox S_ 0 93 22 0 (.slice p.cD p.bl p.dd) kr rfl kr) rfl<|PL.take 2 94 (iv i3) (fun _ _=>kr)<|PL.takeOK 3 (fun w_ S_=>OK.index 95 22 5 p.cD p5 p.bl (i3).toNat i3 (p5.add ((i3).toNat*5)) kr kr hp5 om om rfl) rfl<|PL.takeOK 4 (fun w_ S_=>OK.ldCells 96 64 (p5.add ((i3).toNat*5)) (aZ (p.aB.getD (i3).toNat bq)) kr kr kr (fun j_ v_ hj_=>S_.cell (hc5 j_ v_ hj_))) rfl<|PL.callF 97 19 #[.agg (dP (p.aB.getD (i3).toNat bq))] hb19 kr (rformed_any (p.aB.getD (i3).toNat bq) _ (dF hel5 S12)) ?_
     rintro _ w13 ⟨rfl,T3⟩
     have S13:Sep w [box b1 (aO p) 28] w13:=S12.trans T3
     clear T3 S12
     refine PB.head (.bool false) (congrArg Value.bool fk14)<|PB.mk S13<|PL.take 6 98 (.bool true) (fun _ _=>kr)<|PL.take 7 99 (.bool true) (fun _ _=>kr)<|PL.takePass 8 (some 100) kr<|PL.takePass 9 (some 101) kr<|PL.takePass 10 (some 102) kr<|PL.takePass 11 (some 103) kr<|PL.takePass 12 (some 104) kr<|PL.takePass 13 (some 105) kr<|PL.takePass 14 (some 106) kr ?_
     refine PL.takePass 15 (some 107) kr<|PL.take 16 108 (.bool true) (fun _ _=>kr)<|PL.done<|J.e 5 [.bool false] func6 (hR _ _ ?_)
     exact⟨congrArg Value.bool (aX (.inr (.inr (.inr (.inr (.inl (all_no bq (j:=i3.toNat) om (by unfold cN;rw[fk14];rfl)))))))).symm,S13.nil⟩
     refine J.lb 5 [false] [] [] S8 0 rfl 109 (.agg (dq p))<|J.lb 1 [] [] [] S8 0 rfl 111 (.slice p.aU p.aq p.aW)<|J.c0 0 [] [] [] S8 112 hb21 (rcells_any p p.aU p.aq p.aW p.au _ (q15.sep S8)) fun w14 S14=>J.bn 2 [] [] [] 114 (cH (p).ap p.au) (fun fk16=>?_) fun fk16=>?_
     have fb1:=(bY fk16).1
     refine J.lb 0 [] [] [] S14 0 rfl 115 (.agg (dq p))<|J.lb 1 [] [] [] S14 0 rfl 117 (.slice p.bt p.aL p.bv)<|J.c0 0 [] [] [] S14 118 hb21 (rcells_any p p.bt p.aL p.bv p.aM _ (q21.sep S14)) fun w15 S15=>J.bn 3 [] [] [] 121 (cH (p).ap p.aM) (fun fk17=>?_) fun fk17=>?_
     have fb2:=(bY fk17).1
     refine J.lb 0 [] [] [] S15 0 rfl 122 (.agg (dq p))<|J.lb 1 [] [] [] S15 0 rfl 124 (.slice p.aY p.aH p.ba)<|J.c0 0 [] [] [] S15 125 hb21 (rcells_any p p.aY p.aH p.ba p.ao _ (q18.sep S15)) fun w16 S16=>J.bn 3 [] [] [] 128 (cH (p).ap p.ao) (fun fk18=>?_) fun fk18=>?_
     have fb3:=(bY fk18).1
     refine J.lb 1 [] [] [] S16 0 rfl 130 (.slice p.bU p.bc p.co)<|J.lb 2 [] [(131,iv (p.bc:Int))] [] S16 0 rfl 133 (.slice p.aY p.aH p.ba)<|J.cn 4 [] [] [] 136 ((p.bc:Int)=(p.aH:Int)) (fun fk19=>?_) fun fk19=>?_
     refine J.lb 5 [false] [] [] S16 0 rfl 138 (iv p.ap)<|J.make (eP Value.bool) false S16 139 67 4 1 p.ap p.ap ((p.ap).toNat) (.bool false) 1 kr om om kr kr kr rF om ?_
     intro b2 w17 S17
     refine J.r 3 [] [(7,.slice (some ⟨b2,0,none⟩) ((List.replicate ((p.ap).toNat) false).length) ((p.ap).toNat))] []<|J.drawPlan (fun w_=>Sep w [ak (eP Value.bool) (some ⟨b2,0,none⟩) ((p.ap).toNat) 4 1 (List.replicate ((p.ap).toNat) false),box b1 (aO p) 28] w_) [(1,true),(2,true),(4,true),(5,true),(0,false),(3,false),(6,false),(7,true)] S17 Tryz.mixed kr (aE (T:=[(0,some 140,0),(0,some 141,2),(2,some 142,2787593149816327892691964784081045188247552),(5,some 143,6968982874540819731729911960202612970618880),(0,some 144,2),(16,some 145,22300745198530623141535718272648361505980416),(40,some 146,55751862996326557853839295681620903764951040),(127,some 8,89202980794122492566142873090593446023921664)]) kr kr) ?_
     intro w18 S18
     refine PB.mk S18<|PL.take 1 141 (.pointer (some ⟨b1,5,none⟩)) (fun _ _=>kr)<|PL.takeOK 2 (fun w_ S_=>OK.ldBox S_ 1 142 26 5 (.slice p.aU p.aq p.aW) kr rfl kr) rfl<|PL.take 4 144 (.pointer (some ⟨b1,6,none⟩)) (fun _ _=>kr)<|PL.takeOK 5 (fun w_ S_=>OK.ldBox S_ 1 145 26 6 (.slice p.aY p.aH p.ba) kr rfl kr) rfl<|PL.newSlice S18 140 0 [] 3 kr ?_
     intro b3 w19 S19
     refine PB.mk (S19.erase 0) ?_
     have S20:Sep w [ak aA (some ⟨b3,0,none⟩) 0 3 1 ([]),ak (eP Value.bool) (some ⟨b2,0,none⟩) ((p.ap).toNat) 4 1 (List.replicate ((p.ap).toNat) false),box b1 (aO p) 28] w19:=box_row aA S19 0 [] 1 rfl rfl rfl (by simp[maxLen]) (.inr trivial)
     have hz1:=q15.sep S20
     have:=hz1.len_eq
     refine PL.appendN aA S20 0 ([]) p.au p.aq oz 143 26 (iv 0) 8 p.aU p.aW rfl kr kr kr kr dE (q15.sep S20).enc (fun h_=>Ones.nil (h_▸hz1)) (fun _=>rfl) (fun _=>rfl) (⟨by first | omega | (simp;omega),by first | omega | (simp;omega)⟩) ?_
     intro ra1 rc1 w20 S21
     replace S21:Sep w [ak aA ra1 rc1 3 1 p.au,ak (eP Value.bool) (some ⟨b2,0,none⟩) ((p.ap).toNat) 4 1 (List.replicate ((p.ap).toNat) false),box b1 (aO p) 28] w20:=S21
     refine PB.mk (S21.erase 0) ?_
     have hz2:=q18.sep S21
     have:=hz2.len_eq
     refine PL.appendN aA S21 0 p.au p.ao p.aH oz 146 26 (iv 0) 8 p.aY p.ba rfl kr kr kr kr dE (q18.sep S21).enc (fun h_=>Ones.nil (h_▸hz2)) (fun _=>rfl) (fun _=>rfl) (⟨by first | omega | (simp;omega),by first | omega | (simp;omega)⟩) ?_
     intro ra2 rc2 w21 S22
     replace S22:Sep w [ak aA ra2 rc2 3 1 (p.au++p.ao),ak (eP Value.bool) (some ⟨b2,0,none⟩) ((p.ap).toNat) 4 1 (List.replicate ((p.ap).toNat) false),box b1 (aO p) 28] w21:=S22
     refine PB.mk (S22.erase 0)<|PL.take 7 8 (.slice ra2 ((p.au++p.ao).length) rc2) (fun _ _=>kr)<|PL.done ?_
     have L6_5:∀ (mm_:Nat) (tk:List Bool) (k:Int) (w22:World),(0≤k)→(k≤((p.au++p.ao).length:Int))→(markP (p.au++p.ao) p.ap (k).toNat tk)→Sep w [ak aA ra2 rc2 3 1 (p.au++p.ao),ak (eP Value.bool) (some ⟨b2,0,none⟩) ((p.ap).toNat) 4 1 tk,box b1 (aO p) 28] w22→(((p.au++p.ao).length:Int)-k).toNat=mm_→J prog 6 187 R K6_4 [(9,iv k),(8,.slice ra2 ((p.au++p.ao).length) rc2),(7,.slice (some ⟨b2,0,none⟩) ((List.replicate ((p.ap).toNat) false).length) ((p.ap).toNat)),(1,pv b1)] w22:=by
      intro mm5
      induction mm5 using Nat.strongRecOn with
      | _ mm5 ih5 =>
      intro tk k w22 k0 k1 hM S23 hm5
      have hck0:=fun (j:Nat) (hj:j<(p.au++p.ao).length)=>getD_two (j:=j) ((bY fk16).2) ((bY fk18).2) hj
      have hck1:k<((p.au++p.ao).length:Int)→_:=fun h_=>hck0 k.toNat om
      have htk:=hM.1
      refine J.c 8 [] [] [] 150 (k<((p.au++p.ao).length:Int)) (fun fk20=>?_) fun fk20=>?_
      have hck:=hck1 om
      refine J.r 10 [true] [(155,iv k),(154,.slice ra2 ((p.au++p.ao).length) rc2),(153,.slice (some ⟨b2,0,none⟩) ((List.replicate ((p.ap).toNat) false).length) ((p.ap).toNat))] [] ?_
      obtain ⟨p6,hp6⟩:=bK (S23.nth 0 rfl) (show 0<(p.au++p.ao).length by first | omega | (simp;omega))
      refine J.ok (OK.index 156 26 1 ra2 p6 ((p.au++p.ao).length) (k).toNat k (p6.add (k).toNat) kr kr hp6 om oz nO)<|J.ok (OK.ldCell 157 3 (p6.add (k).toNat) (iv ((p.au++p.ao).getD (k).toNat 0)) kr kr (ct (g:=(Value.int .i64)) S23 0 rfl hp6 0 (k).toNat oz)) ?_
      obtain ⟨p7,hp7⟩:=bK (S23.nth 1 rfl) (show 0<(tk).length by first | omega | (simp;omega))
      refine J.ok (OK.index 158 67 1 (some ⟨b2,0,none⟩) p7 ((List.replicate ((p.ap).toNat) false).length) ((p.au++p.ao).getD (k).toNat 0).toNat ((p.au++p.ao).getD (k).toNat 0) (p7.add ((p.au++p.ao).getD (k).toNat 0).toNat) kr kr hp7 om oz nO)<|J.ok (OK.ldCell 159 4 (p7.add ((p.au++p.ao).getD (k).toNat 0).toNat) (.bool (tk.getD ((p.au++p.ao).getD (k).toNat 0).toNat false)) kr kr (ct (g:=Value.bool) S23 1 rfl hp7 false ((p.au++p.ao).getD (k).toNat 0).toNat oz))<|J.b 1 [] [] [] 159 (tk.getD ((p.au++p.ao).getD (k).toNat 0).toNat false) (fun fk21=>?_) fun fk21=>?_
      refine J.e 5 [.bool false] func6 (hR _ _ ?_)
      exact⟨congrArg Value.bool (aX (.inr (.inr (.inr (.inr (.inr (.inr (.inr (.inr (.inr (.inl (mark_twice hM om hck fk21)))))))))))).symm,S23.nil⟩
      refine J.r 6 [false] [(162,iv k),(161,.slice ra2 ((p.au++p.ao).length) rc2),(160,.slice (some ⟨b2,0,none⟩) ((List.replicate ((p.ap).toNat) false).length) ((p.ap).toNat))] []<|J.ok (OK.index 163 26 1 ra2 p6 ((p.au++p.ao).length) (k).toNat k (p6.add (k).toNat) kr kr hp6 om oz nO)<|J.ok (OK.ldCell 164 3 (p6.add (k).toNat) (iv ((p.au++p.ao).getD (k).toNat 0)) kr kr (ct (g:=(Value.int .i64)) S23 0 rfl hp6 0 (k).toNat oz))<|J.ok (OK.index 165 67 1 (some ⟨b2,0,none⟩) p7 ((List.replicate ((p.ap).toNat) false).length) ((p.au++p.ao).getD (k).toNat 0).toNat ((p.au++p.ao).getD (k).toNat 0) (p7.add ((p.au++p.ao).getD (k).toNat 0).toNat) kr kr hp7 om oz nO)<|J.stRow1 Value.bool bool_one S23 1 tk 4 p7 ((p.au++p.ao).getD (k).toNat 0).toNat true rfl kr hp7 oz kr ?_
      intro w23 S24
      replace S24:Sep w [ak aA ra2 rc2 3 1 (p.au++p.ao),ak (eP Value.bool) (some ⟨b2,0,none⟩) ((p.ap).toNat) 4 1 (tk.set ((p.au++p.ao).getD (k).toNat 0).toNat true),box b1 (aO p) 28] w23:=S24
      exact J.wi 5 [] [] [] 152 (k+1)<|J.t 3 (ih5 _ (show(((p.au++p.ao).length:Int)-(k+1)).toNat<mm5 from by omega) (tk.set ((p.au++p.ao).getD (k).toNat 0).toNat true) (k+1) w23 om om (by rw[show(k+1).toNat=k.toNat+1 by omega];exact mark_step hM om hck fk21) S24 rfl)
      have L6_6:∀ (mm_:Nat) (i5:Int) (w24:World),(0≤i5)→(i5≤(p.bc:Int))→(∀ j,j<(i5).toNat→initB (p.bf.getD j 0)=true)→Sep w [ak aA ra2 rc2 3 1 (p.au++p.ao),ak (eP Value.bool) (some ⟨b2,0,none⟩) ((p.ap).toNat) 4 1 tk,box b1 (aO p) 28] w24→((p.bc:Int)-i5).toNat=mm_→J prog 6 187 R K6_5 [(10,iv i5),(1,pv b1)] w24:=by
       intro mm6
       induction mm6 using Nat.strongRecOn with
       | _ mm6 ih6 =>
       intro i5 w24 z5 y5 hq5 S25 hm6
       refine J.lb 5 [] [(166,iv i5)] [] S25 2 rfl 168 (.slice p.bU p.bc p.co)<|J.c 3 [] [] [] 170 (i5<(p.bc:Int)) (fun fk22=>?_) fun fk22=>?_
       refine J.lb 7 [true] [] [] S25 2 rfl 174 (.slice p.bU p.bc p.co)<|J.r 1 [] [(175,iv i5)] [] ?_
       obtain ⟨p8,hp8,hc6⟩:=q24.at 0 (i5).toNat om
       have hel6:=aP q25 0 (n:=(i5).toNat) (by have:=q24.len_eq;omega)
       refine J.ok (OK.index 176 26 1 p.bU p8 p.bc (i5).toNat i5 (p8.add (i5).toNat) kr kr hp8 om om nO)<|J.ok (OK.ldCell 177 3 (p8.add (i5).toNat) (iv (p.bf.getD (i5).toNat 0)) kr kr (S25.cell hc6))<|J.c 2 [] [] [] 179 ((p.bf.getD (i5).toNat 0)<(-1099511627776)) (fun fk23=>?_) fun fk23=>?_
       refine J.e 13 [.bool false] func6 (hR _ _ ?_)
       exact⟨congrArg Value.bool (aX (.inr (.inr (.inr (.inr (.inr (.inr (.inr (.inr (.inr (.inr (all_no 0 (j:=i5.toNat) om (by unfold initB;first | rw[decide_eq_false (show ¬ -1099511627776≤p.bf.getD (i5).toNat 0 by omega)];rfl | rw[decide_eq_false (show ¬ p.bf.getD (i5).toNat 0≤1099511627776 by omega),Bool.and_false]))))))))))))).symm,S25.nil⟩
       refine J.lb 1 [] [] [] S25 2 rfl 181 (.slice p.bU p.bc p.co)<|J.r 1 [] [(182,iv i5)] []<|J.ok (OK.index 183 26 1 p.bU p8 p.bc (i5).toNat i5 (p8.add (i5).toNat) kr kr hp8 om om nO)<|J.ok (OK.ldCell 184 3 (p8.add (i5).toNat) (iv (p.bf.getD (i5).toNat 0)) kr kr (S25.cell hc6))<|J.c 3 [] [] [] 186 ((p.bf.getD (i5).toNat 0)>1099511627776) (fun fk24=>?_) fun fk24=>?_
       refine J.e 5 [.bool false] func6 (hR _ _ ?_)
       exact⟨congrArg Value.bool (aX (.inr (.inr (.inr (.inr (.inr (.inr (.inr (.inr (.inr (.inr (all_no 0 (j:=i5.toNat) om (by unfold initB;first | rw[decide_eq_false (show ¬ -1099511627776≤p.bf.getD (i5).toNat 0 by omega)];rfl | rw[decide_eq_false (show ¬ p.bf.getD (i5).toNat 0≤1099511627776 by omega),Bool.and_false]))))))))))))).symm,S25.nil⟩
       exact J.wi 6 [false] [] [] 172 (i5+1)<|J.t 3 (ih6 _ (show((p.bc:Int)-(i5+1)).toNat<mm6 from by omega) (i5+1) w24 om om (cW (q:=fun j=>initB (p.bf.getD j 0)=true) z5 hq5 (by unfold initB;rw[decide_eq_true (show -1099511627776≤p.bf.getD (i5).toNat 0 by omega),decide_eq_true (show p.bf.getD (i5).toNat 0≤1099511627776 by omega)];rfl)) S25 rfl)
       refine J.e 6 [.bool true] func6 (hR _ _ ?_)
       exact⟨congrArg Value.bool (validP_yes om ((cI fx0).2 fun j hj=>hq0 j om) ((cI (⟨none,0,0,[],none,0,0,[]⟩:Crv)).2 fun j hj=>hq1 j om) ((cI (⟨none,0,0,[],none,0,0,[],none,0,0,[]⟩:Mp)).2 fun j hj=>hq2 j om) ((cI bq).2 fun j hj=>hq3 j om) fk16 fk17 fk18 om (mark_end hM om) ((cI 0).2 fun j hj=>hq5 j om)).symm,S25.nil⟩
      exact J.t 9 (L6_6 _ 0 w22 om om (by intro j hj;simp at hj) S23 rfl)
     exact J.t 7 (L6_5 _ (List.replicate ((p.ap).toNat) false) 0 w21 om om (mark_zero om) S22 rfl)
     refine J.e 5 [.bool false] func6 (hR _ _ ?_)
     exact⟨congrArg Value.bool (aX (.inr (.inr (.inr (.inr (.inr (.inr (.inr (.inr (.inl om)))))))))).symm,S16.nil⟩
     refine J.e 14 [.bool false] func6 (hR _ _ ?_)
     exact⟨congrArg Value.bool (aX (.inr (.inr (.inr (.inr (.inr (.inr (.inr (.inl (fk18)))))))))).symm,S16.nil⟩
     refine J.e 21 [.bool false] func6 (hR _ _ ?_)
     exact⟨congrArg Value.bool (aX (.inr (.inr (.inr (.inr (.inr (.inr (.inl (fk17))))))))).symm,S15.nil⟩
     refine J.e 28 [.bool false] func6 (hR _ _ ?_)
     exact⟨congrArg Value.bool (aX (.inr (.inr (.inr (.inr (.inr (.inl (fk16)))))))).symm,S14.nil⟩
    exact J.t 9 (L6_4 _ 0 w6 om om (by intro j hj;simp at hj) S6 rfl)
   exact J.t 9 (L6_3 _ 0 w4 om om (by intro j hj;simp at hj) S4 rfl)
  exact J.t 9 (L6_2 _ 0 w2 om om (by intro j hj;simp at hj) S2 rfl)
 exact J.t 9 (L6_1 _ 0 w1 om om (by intro j hj;simp at hj) S1 rfl)

end
end Go.Proofs.YtaoolgcddapegaaGreat

