/- Walks of functions of this seat, printed by a program over the engine. Conditions: as each theorem says. -/
import Derived.Test.YtaoolgcddapegaaGreatZqG32
set_option linter.unusedSimpArgs false
set_option linter.unusedVariables false
namespace Go.Proofs.YtaoolgcddapegaaGreat
noncomputable section
open Go.Eng Go.RowKit Go.Proofs.Tryz
set_option maxRecDepth 20000
set_option maxHeartbeats 20000000
theorem hb145:af prog 145:=fun _ _=>by kernel_rfl
def K145_0:=adv 36 [false,false,false] (bi Tryz.f145)
abbrev bp (b6:Nat) (b5:Nat) (b4:Nat) (vd:Int) (ls:Option Addr) (ns:Nat) (cs:Nat) (b3:Nat) (vn:Int) (lr:Option Addr) (nr:Nat) (cr:Nat) (b2:Nat) (ud:Int) (lq:Option Addr) (nq:Nat) (cq:Nat) (b1:Nat) (un:Int) (lp:Option Addr) (np:Nat) (cp:Nat):List Eng.Claim:=[box b6 [.bool false,.slice none 0 0] 107,box b5 [.bool false,.slice none 0 0] 107,box b4 [.bool (decide (vd<0)),.slice ls ns cs] 107,box b3 [.bool (decide (vn<0)),.slice lr nr cr] 107,box b2 [.bool (decide (ud<0)),.slice lq nq cq] 107,box b1 [.bool (decide (un<0)),.slice lp np cp] 107]
theorem rexact_any (op:Int) (un:Int) (lp:Option Addr) (np cp:Nat) (ud:Int) (lq:Option Addr) (nq cq:Nat) (vn:Int) (lr:Option Addr) (nr cr:Nat) (vd:Int) (ls:Option Addr) (ns cs:Nat) (w:World) (hp:dj w lp np (al un)) (hq:dj w lq nq (al ud)) (hr:dj w lr nr (al vn)) (hs:dj w ls ns (al vd)) (oa:okA un ud) (ob:okA vn vd) (ho:1≤op∧op≤4):Ret prog 145 #[iv op,.agg #[.bool (decide (un<0)),.slice lp np cp],.agg #[.bool (decide (ud<0)),.slice lq nq cq],.agg #[.bool (decide (vn<0)),.slice lr nr cr],.agg #[.bool (decide (vd<0)),.slice ls ns cs]] w (fun v w'=>∃ a1 c1 a2 c2,v=.tuple #[.agg #[.bool (decide (cmN op un ud vn vd<0)),.slice a1 (al (cmN op un ud vn vd)).length c1],.agg #[.bool (decide (cmD op ud vn vd<0)),.slice a2 (al (cmD op ud vn vd)).length c2]]∧Sep w [bgR (cmN op un ud vn vd) a1 c1,bgR (cmD op ud vn vd) a2 c2] w'):=by
 refine Ret.st (N:=62) func145 fun R hR S0=>?_
 have hp0:=cL (x:=un) (y:=vd) 4503600701112320 1048576 om om
 have hp1:=cL (x:=vn) (y:=ud) 4503600701112320 1048576 om om
 have hp2:=cL (x:=un) (y:=vn) 4503600701112320 4503600701112320 om om
 have hp3:=cL (x:=ud) (y:=vd) 1048576 1048576 om om
 have hmc:ud*vn=vn*ud:=Int.mul_comm _ _
 have hp4:vn*(0-ud)= -(vn*ud):=by rw[Int.zero_sub,Int.mul_neg]
 refine J.nw 2 [] [] [] S0 6 [.bool (decide (un<0)),.slice lp np cp] 107 fun b1 w1 S1=>J.nw 0 [] [] [] S1 7 [.bool (decide (ud<0)),.slice lq nq cq] 107 fun b2 w2 S2=>J.nw 0 [] [] [] S2 8 [.bool (decide (vn<0)),.slice lr nr cr] 107 fun b3 w3 S3=>J.nw 0 [] [] [] S3 9 [.bool (decide (vd<0)),.slice ls ns cs] 107 fun b4 w4 S4=>J.nw 0 [] [] [] S4 10 [.bool false,.slice none 0 0] 107 fun b5 w5 S5=>J.nw 0 [] [] [] S5 11 [.bool false,.slice none 0 0] 107 fun b6 w6 S6=>J.c 12 [] [(14,iv op)] [] 15 (op=1) (fun fk1=>?_) fun fk1=>?_
 refine J.r 2 [true] [] []<|J.drawPlan (fun w_=>Sep w [box b4 [.bool (decide (vd<0)),.slice ls ns cs] 107,box b3 [.bool (decide (vn<0)),.slice lr nr cr] 107,box b2 [.bool (decide (ud<0)),.slice lq nq cq] 107,box b1 [.bool (decide (un<0)),.slice lp np cp] 107] w_) [(0,true),(1,true),(3,true),(4,true),(7,true),(8,true),(2,false),(5,false),(6,false),(9,false),(10,false),(11,false)] S6 Tryz.mixed kr (aE (T:=[(0,some 17,64),(0,some 18,512),(3,some 19,393216),(0,some 20,256),(0,some 21,128),(28,some 22,3145728),(36,some 23,4718592),(0,some 24,128),(0,some 25,512),(448,some 26,50331648),(639,none,8389632),(2047,none,67110912)]) kr kr) ?_
 intro w7 S7
 refine PB.mk ((S7.erase 1).erase 0)<|PL.takeOK 0 (fun w_ S_=>OK.ldBox S_ 3 17 107 0 (.agg #[.bool (decide (un<0)),.slice lp np cp]) kr rfl kr) rfl<|PL.takeOK 1 (fun w_ S_=>OK.ldBox S_ 0 18 107 0 (.agg #[.bool (decide (vd<0)),.slice ls ns cs]) kr rfl kr) rfl<|PL.takeOK 3 (fun w_ S_=>OK.ldBox S_ 1 20 107 0 (.agg #[.bool (decide (vn<0)),.slice lr nr cr]) kr rfl kr) rfl<|PL.takeOK 4 (fun w_ S_=>OK.ldBox S_ 2 21 107 0 (.agg #[.bool (decide (ud<0)),.slice lq nq cq]) kr rfl kr) rfl<|PL.takeOK 7 (fun w_ S_=>OK.ldBox S_ 2 24 107 0 (.agg #[.bool (decide (ud<0)),.slice lq nq cq]) kr rfl kr) rfl<|PL.takeOK 8 (fun w_ S_=>OK.ldBox S_ 0 25 107 0 (.agg #[.bool (decide (vd<0)),.slice ls ns cs]) kr rfl kr) rfl<|PL.callF 19 115 #[.agg #[.bool (decide (un<0)),.slice lp np cp],.agg #[.bool (decide (vd<0)),.slice ls ns cs]] dC kr (bH un vd lp np cp ls ns cs _ (hp.sep S7) cO (hs.sep S7) cO) ?_
 rintro _ w8 ⟨ra1,rc1,rfl,T1⟩
 have S8:Sep w [bgR (un*vd) ra1 rc1,box b6 [.bool false,.slice none 0 0] 107,box b5 [.bool false,.slice none 0 0] 107,box b4 [.bool (decide (vd<0)),.slice ls ns cs] 107,box b3 [.bool (decide (vn<0)),.slice lr nr cr] 107,box b2 [.bool (decide (ud<0)),.slice lq nq cq] 107,box b1 [.bool (decide (un<0)),.slice lp np cp] 107] w8:=S7.trans T1
 clear T1 S7
 refine PB.mk (((S8.erase 2).erase 1).erase 0)<|PL.callF 22 115 #[.agg #[.bool (decide (vn<0)),.slice lr nr cr],.agg #[.bool (decide (ud<0)),.slice lq nq cq]] dC kr (bH vn ud lr nr cr lq nq cq _ (hr.sep S8) cO (hq.sep S8) cO) ?_
 rintro _ w9 ⟨ra2,rc2,rfl,T2⟩
 have S9:Sep w [bgR (vn*ud) ra2 rc2,bgR (un*vd) ra1 rc1,box b6 [.bool false,.slice none 0 0] 107,box b5 [.bool false,.slice none 0 0] 107,box b4 [.bool (decide (vd<0)),.slice ls ns cs] 107,box b3 [.bool (decide (vn<0)),.slice lr nr cr] 107,box b2 [.bool (decide (ud<0)),.slice lq nq cq] 107,box b1 [.bool (decide (un<0)),.slice lp np cp] 107] w9:=S8.trans T2
 clear T2 S8
 refine PB.mk ((((S9.erase 3).erase 2).erase 1).erase 0) ?_
 have:=aC (S9.nth 1 rfl)
 have:=aC (S9.nth 0 rfl)
 refine PL.callF 23 114 #[bgV (un*vd) ra1 rc1,bgV (vn*ud) ra2 rc2] hb114 kr (radd_any (un*vd) (vn*ud) ra1 ((al (un*vd)).length) rc1 ra2 ((al (vn*ud)).length) rc2 _ ((aD (S9.nth 1 rfl) ((al (un*vd)).length) rO)) cO ((aD (S9.nth 0 rfl) ((al (vn*ud)).length) rO)) cO) ?_
 rintro _ w10 ⟨ra3,rc3,rfl,T3⟩
 have S10:Sep w [bgR ((un*vd)+(vn*ud)) ra3 rc3,bgR (vn*ud) ra2 rc2,bgR (un*vd) ra1 rc1,box b6 [.bool false,.slice none 0 0] 107,box b5 [.bool false,.slice none 0 0] 107,box b4 [.bool (decide (vd<0)),.slice ls ns cs] 107,box b3 [.bool (decide (vn<0)),.slice lr nr cr] 107,box b2 [.bool (decide (ud<0)),.slice lq nq cq] 107,box b1 [.bool (decide (un<0)),.slice lp np cp] 107] w10:=S9.trans T3
 clear T3 S9
 refine PB.mk (((((S10.erase 4).erase 3).erase 2).erase 1).erase 0)<|PL.callF 26 115 #[.agg #[.bool (decide (ud<0)),.slice lq nq cq],.agg #[.bool (decide (vd<0)),.slice ls ns cs]] dC kr (bH ud vd lq nq cq ls ns cs _ (hq.sep S10) cO (hs.sep S10) cO) ?_
 rintro _ w11 ⟨ra4,rc4,rfl,T4⟩
 have S11:Sep w [bgR (ud*vd) ra4 rc4,bgR ((un*vd)+(vn*ud)) ra3 rc3,bgR (vn*ud) ra2 rc2,bgR (un*vd) ra1 rc1,box b6 [.bool false,.slice none 0 0] 107,box b5 [.bool false,.slice none 0 0] 107,box b4 [.bool (decide (vd<0)),.slice ls ns cs] 107,box b3 [.bool (decide (vn<0)),.slice lr nr cr] 107,box b2 [.bool (decide (ud<0)),.slice lq nq cq] 107,box b1 [.bool (decide (un<0)),.slice lp np cp] 107] w11:=S10.trans T4
 clear T4 S10
 refine PB.mk ((((((S11.erase 5).erase 4).erase 3).erase 2).erase 1).erase 0)<|PL.stBox S11 5 107 0 (bgV ((un*vd)+(vn*ud)) ra3 rc3) (bgC ((un*vd)+(vn*ud)) ra3 rc3) [bgR (ud*vd) ra4 rc4,bgR ((un*vd)+(vn*ud)) ra3 rc3,bgR (vn*ud) ra2 rc2,bgR (un*vd) ra1 rc1,box b6 [.bool false,.slice none 0 0] 107,box b5 (bgC ((un*vd)+(vn*ud)) ra3 rc3) 107,box b4 [.bool (decide (vd<0)),.slice ls ns cs] 107,box b3 [.bool (decide (vn<0)),.slice lr nr cr] 107,box b2 [.bool (decide (ud<0)),.slice lq nq cq] 107,box b1 [.bool (decide (un<0)),.slice lp np cp] 107] kr rfl kr kr rfl ?_
 intro w12 S12
 refine PB.mk ((((((S12.erase 5).erase 4).erase 3).erase 2).erase 1).erase 0)<|PL.stBox S12 4 107 0 (bgV (ud*vd) ra4 rc4) (bgC (ud*vd) ra4 rc4) [bgR (ud*vd) ra4 rc4,bgR ((un*vd)+(vn*ud)) ra3 rc3,bgR (vn*ud) ra2 rc2,bgR (un*vd) ra1 rc1,box b6 (bgC (ud*vd) ra4 rc4) 107,box b5 (bgC ((un*vd)+(vn*ud)) ra3 rc3) 107,box b4 [.bool (decide (vd<0)),.slice ls ns cs] 107,box b3 [.bool (decide (vn<0)),.slice lr nr cr] 107,box b2 [.bool (decide (ud<0)),.slice lq nq cq] 107,box b1 [.bool (decide (un<0)),.slice lp np cp] 107] kr rfl kr kr rfl ?_
 intro w13 S13
 refine PB.mk ((((((S13.erase 5).erase 4).erase 3).erase 2).erase 1).erase 0)<|PL.done<|J.ez 0 [bgV ((un*vd)+(vn*ud)) ra3 rc3,bgV (ud*vd) ra4 rc4] func145 (bk (((S13.erase 3).erase 2).nth 3 rfl) (bk (((S13.erase 3).erase 2).nth 2 rfl) bn)) (hR _ _ ?_)
 have:=aC (((S13.erase 3).erase 2).nth 1 rfl)
 have:=aC (((S13.erase 3).erase 2).nth 0 rfl)
 have e1:cmN op un ud vn vd=(un*vd)+(vn*ud):=by unfold cmN;(repeat first | rw[if_pos om] | rw[if_neg om])<;>omega
 have e2:cmD op ud vn vd=ud*vd:=by unfold cmD;(repeat first | rw[if_pos om] | rw[if_neg om])<;>omega
 exact⟨_,_,_,_,by rw[e1,e2];first | rfl | (simp only[bgV,cY];rfl),by rw[e1,e2];first | exact((S13.erase 3).erase 2).two 0 1 rfl rfl dE | (simp only[bgR,cY];exact((S13.erase 3).erase 2).two 0 1 rfl rfl dE)⟩
 refine J.c 6 [false] [] [] 27 (op=2) (fun fk2=>?_) fun fk2=>?_
 refine J.r 2 [true] [] []<|J.drawPlan (fun w_=>Sep w [box b4 [.bool (decide (vd<0)),.slice ls ns cs] 107,box b3 [.bool (decide (vn<0)),.slice lr nr cr] 107,box b2 [.bool (decide (ud<0)),.slice lq nq cq] 107,box b1 [.bool (decide (un<0)),.slice lp np cp] 107] w_) [(0,true),(1,true),(3,true),(4,true),(8,true),(9,true),(2,false),(5,false),(6,false),(7,false),(10,false),(11,false),(12,false)] S6 Tryz.mixed kr (aE (T:=[(0,some 29,64),(0,some 30,512),(3,some 31,1610612736),(0,some 32,256),(0,some 33,128),(28,some 34,12884901888),(32,some 35,17179869184),(68,some 36,36507222016),(0,some 37,128),(0,some 38,512),(896,some 39,412316860416),(1279,none,68719477760),(4095,none,549755815936)]) kr kr) ?_
 intro w14 S14
 refine PB.mk ((S14.erase 1).erase 0)<|PL.takeOK 0 (fun w_ S_=>OK.ldBox S_ 3 29 107 0 (.agg #[.bool (decide (un<0)),.slice lp np cp]) kr rfl kr) rfl<|PL.takeOK 1 (fun w_ S_=>OK.ldBox S_ 0 30 107 0 (.agg #[.bool (decide (vd<0)),.slice ls ns cs]) kr rfl kr) rfl<|PL.takeOK 3 (fun w_ S_=>OK.ldBox S_ 1 32 107 0 (.agg #[.bool (decide (vn<0)),.slice lr nr cr]) kr rfl kr) rfl<|PL.takeOK 4 (fun w_ S_=>OK.ldBox S_ 2 33 107 0 (.agg #[.bool (decide (ud<0)),.slice lq nq cq]) kr rfl kr) rfl<|PL.takeOK 8 (fun w_ S_=>OK.ldBox S_ 2 37 107 0 (.agg #[.bool (decide (ud<0)),.slice lq nq cq]) kr rfl kr) rfl<|PL.takeOK 9 (fun w_ S_=>OK.ldBox S_ 0 38 107 0 (.agg #[.bool (decide (vd<0)),.slice ls ns cs]) kr rfl kr) rfl<|PL.callF 31 115 #[.agg #[.bool (decide (un<0)),.slice lp np cp],.agg #[.bool (decide (vd<0)),.slice ls ns cs]] dC kr (bH un vd lp np cp ls ns cs _ (hp.sep S14) cO (hs.sep S14) cO) ?_
 rintro _ w15 ⟨ra5,rc5,rfl,T5⟩
 have S15:Sep w [bgR (un*vd) ra5 rc5,box b6 [.bool false,.slice none 0 0] 107,box b5 [.bool false,.slice none 0 0] 107,box b4 [.bool (decide (vd<0)),.slice ls ns cs] 107,box b3 [.bool (decide (vn<0)),.slice lr nr cr] 107,box b2 [.bool (decide (ud<0)),.slice lq nq cq] 107,box b1 [.bool (decide (un<0)),.slice lp np cp] 107] w15:=S14.trans T5
 clear T5 S14
 refine PB.mk (((S15.erase 2).erase 1).erase 0)<|PL.callF 34 115 #[.agg #[.bool (decide (vn<0)),.slice lr nr cr],.agg #[.bool (decide (ud<0)),.slice lq nq cq]] dC kr (bH vn ud lr nr cr lq nq cq _ (hr.sep S15) cO (hq.sep S15) cO) ?_
 rintro _ w16 ⟨ra6,rc6,rfl,T6⟩
 have S16:Sep w [bgR (vn*ud) ra6 rc6,bgR (un*vd) ra5 rc5,box b6 [.bool false,.slice none 0 0] 107,box b5 [.bool false,.slice none 0 0] 107,box b4 [.bool (decide (vd<0)),.slice ls ns cs] 107,box b3 [.bool (decide (vn<0)),.slice lr nr cr] 107,box b2 [.bool (decide (ud<0)),.slice lq nq cq] 107,box b1 [.bool (decide (un<0)),.slice lp np cp] 107] w16:=S15.trans T6
 clear T6 S15
 refine PB.mk ((((S16.erase 3).erase 2).erase 1).erase 0) ?_
 have:=aC (S16.nth 0 rfl)
 refine PL.callF 35 72 #[bgV (vn*ud) ra6 rc6] hb72 kr (ee (vn*ud) ra6 ((al (vn*ud)).length) rc6 _ ((aD (S16.nth 0 rfl) ((al (vn*ud)).length) rO))) ?_
 rintro _ w17 ⟨rfl,T7⟩
 have S17:Sep w [bgR (vn*ud) ra6 rc6,bgR (un*vd) ra5 rc5,box b6 [.bool false,.slice none 0 0] 107,box b5 [.bool false,.slice none 0 0] 107,box b4 [.bool (decide (vd<0)),.slice ls ns cs] 107,box b3 [.bool (decide (vn<0)),.slice lr nr cr] 107,box b2 [.bool (decide (ud<0)),.slice lq nq cq] 107,box b1 [.bool (decide (un<0)),.slice lp np cp] 107] w17:=S16.trans T7
 clear T7 S16
 refine PB.mk ((((S17.erase 3).erase 2).erase 1).erase 0) ?_
 have:=aC (S17.nth 1 rfl)
 have:=aC (S17.nth 0 rfl)
 refine PL.callF 36 114 #[bgV (un*vd) ra5 rc5,.agg #[.bool (decide ((-(vn*ud))<0)),.slice ra6 ((al (vn*ud)).length) rc6]] hb114 kr (radd_any (un*vd) (-(vn*ud)) ra5 ((al (un*vd)).length) rc5 ra6 ((al (vn*ud)).length) rc6 _ ((aD (S17.nth 1 rfl) ((al (un*vd)).length) rO)) cO (by rw[cY];exact(aD (S17.nth 0 rfl) ((al (vn*ud)).length) rO)) cO) ?_
 rintro _ w18 ⟨ra7,rc7,rfl,T8⟩
 have S18:Sep w [bgR ((un*vd)+(-(vn*ud))) ra7 rc7,bgR (vn*ud) ra6 rc6,bgR (un*vd) ra5 rc5,box b6 [.bool false,.slice none 0 0] 107,box b5 [.bool false,.slice none 0 0] 107,box b4 [.bool (decide (vd<0)),.slice ls ns cs] 107,box b3 [.bool (decide (vn<0)),.slice lr nr cr] 107,box b2 [.bool (decide (ud<0)),.slice lq nq cq] 107,box b1 [.bool (decide (un<0)),.slice lp np cp] 107] w18:=S17.trans T8
 clear T8 S17
 refine PB.mk (((((S18.erase 4).erase 3).erase 2).erase 1).erase 0)<|PL.callF 39 115 #[.agg #[.bool (decide (ud<0)),.slice lq nq cq],.agg #[.bool (decide (vd<0)),.slice ls ns cs]] dC kr (bH ud vd lq nq cq ls ns cs _ (hq.sep S18) cO (hs.sep S18) cO) ?_
 rintro _ w19 ⟨ra8,rc8,rfl,T9⟩
 have S19:Sep w [bgR (ud*vd) ra8 rc8,bgR ((un*vd)+(-(vn*ud))) ra7 rc7,bgR (vn*ud) ra6 rc6,bgR (un*vd) ra5 rc5,box b6 [.bool false,.slice none 0 0] 107,box b5 [.bool false,.slice none 0 0] 107,box b4 [.bool (decide (vd<0)),.slice ls ns cs] 107,box b3 [.bool (decide (vn<0)),.slice lr nr cr] 107,box b2 [.bool (decide (ud<0)),.slice lq nq cq] 107,box b1 [.bool (decide (un<0)),.slice lp np cp] 107] w19:=S18.trans T9
 clear T9 S18
 refine PB.mk ((((((S19.erase 5).erase 4).erase 3).erase 2).erase 1).erase 0)<|PL.stBox S19 5 107 0 (bgV ((un*vd)+(-(vn*ud))) ra7 rc7) (bgC ((un*vd)+(-(vn*ud))) ra7 rc7) [bgR (ud*vd) ra8 rc8,bgR ((un*vd)+(-(vn*ud))) ra7 rc7,bgR (vn*ud) ra6 rc6,bgR (un*vd) ra5 rc5,box b6 [.bool false,.slice none 0 0] 107,box b5 (bgC ((un*vd)+(-(vn*ud))) ra7 rc7) 107,box b4 [.bool (decide (vd<0)),.slice ls ns cs] 107,box b3 [.bool (decide (vn<0)),.slice lr nr cr] 107,box b2 [.bool (decide (ud<0)),.slice lq nq cq] 107,box b1 [.bool (decide (un<0)),.slice lp np cp] 107] kr rfl kr kr rfl ?_
 intro w20 S20
 refine PB.mk ((((((S20.erase 5).erase 4).erase 3).erase 2).erase 1).erase 0)<|PL.stBox S20 4 107 0 (bgV (ud*vd) ra8 rc8) (bgC (ud*vd) ra8 rc8) [bgR (ud*vd) ra8 rc8,bgR ((un*vd)+(-(vn*ud))) ra7 rc7,bgR (vn*ud) ra6 rc6,bgR (un*vd) ra5 rc5,box b6 (bgC (ud*vd) ra8 rc8) 107,box b5 (bgC ((un*vd)+(-(vn*ud))) ra7 rc7) 107,box b4 [.bool (decide (vd<0)),.slice ls ns cs] 107,box b3 [.bool (decide (vn<0)),.slice lr nr cr] 107,box b2 [.bool (decide (ud<0)),.slice lq nq cq] 107,box b1 [.bool (decide (un<0)),.slice lp np cp] 107] kr rfl kr kr rfl ?_
 intro w21 S21
 refine PB.mk ((((((S21.erase 5).erase 4).erase 3).erase 2).erase 1).erase 0)<|PL.done<|J.ez 0 [bgV ((un*vd)+(-(vn*ud))) ra7 rc7,bgV (ud*vd) ra8 rc8] func145 (bk (((S21.erase 3).erase 2).nth 3 rfl) (bk (((S21.erase 3).erase 2).nth 2 rfl) bn)) (hR _ _ ?_)
 have:=aC (((S21.erase 3).erase 2).nth 1 rfl)
 have:=aC (((S21.erase 3).erase 2).nth 0 rfl)
 have e1:cmN op un ud vn vd=(un*vd)+(-(vn*ud)):=by unfold cmN;(repeat first | rw[if_pos om] | rw[if_neg om])<;>omega
 have e2:cmD op ud vn vd=ud*vd:=by unfold cmD;(repeat first | rw[if_pos om] | rw[if_neg om])<;>omega
 exact⟨_,_,_,_,by rw[e1,e2];first | rfl | (simp only[bgV,cY];rfl),by rw[e1,e2];first | exact((S21.erase 3).erase 2).two 0 1 rfl rfl dE | (simp only[bgR,cY];exact((S21.erase 3).erase 2).two 0 1 rfl rfl dE)⟩
 refine J.c 6 [false] [] [] 40 (op=3) (fun fk3=>?_) fun fk3=>?_
 refine J.r 2 [true] [] []<|J.drawPlan (fun w_=>Sep w [box b4 [.bool (decide (vd<0)),.slice ls ns cs] 107,box b3 [.bool (decide (vn<0)),.slice lr nr cr] 107,box b2 [.bool (decide (ud<0)),.slice lq nq cq] 107,box b1 [.bool (decide (un<0)),.slice lp np cp] 107] w_) [(0,true),(1,true),(3,true),(4,true),(2,false),(5,false),(6,false),(7,false)] S6 Tryz.mixed kr (aE (T:=[(0,some 42,64),(0,some 43,256),(3,some 44,13194139533312),(0,some 45,128),(0,some 46,512),(28,some 47,105553116266496),(39,none,17592186045440),(127,none,140737488357376)]) kr kr) ?_
 intro w22 S22
 refine PB.mk ((S22.erase 1).erase 0)<|PL.takeOK 0 (fun w_ S_=>OK.ldBox S_ 3 42 107 0 (.agg #[.bool (decide (un<0)),.slice lp np cp]) kr rfl kr) rfl<|PL.takeOK 1 (fun w_ S_=>OK.ldBox S_ 1 43 107 0 (.agg #[.bool (decide (vn<0)),.slice lr nr cr]) kr rfl kr) rfl<|PL.takeOK 3 (fun w_ S_=>OK.ldBox S_ 2 45 107 0 (.agg #[.bool (decide (ud<0)),.slice lq nq cq]) kr rfl kr) rfl<|PL.takeOK 4 (fun w_ S_=>OK.ldBox S_ 0 46 107 0 (.agg #[.bool (decide (vd<0)),.slice ls ns cs]) kr rfl kr) rfl<|PL.callF 44 115 #[.agg #[.bool (decide (un<0)),.slice lp np cp],.agg #[.bool (decide (vn<0)),.slice lr nr cr]] dC kr (bH un vn lp np cp lr nr cr _ (hp.sep S22) cO (hr.sep S22) cO) ?_
 rintro _ w23 ⟨ra9,rc9,rfl,T10⟩
 have S23:Sep w [bgR (un*vn) ra9 rc9,box b6 [.bool false,.slice none 0 0] 107,box b5 [.bool false,.slice none 0 0] 107,box b4 [.bool (decide (vd<0)),.slice ls ns cs] 107,box b3 [.bool (decide (vn<0)),.slice lr nr cr] 107,box b2 [.bool (decide (ud<0)),.slice lq nq cq] 107,box b1 [.bool (decide (un<0)),.slice lp np cp] 107] w23:=S22.trans T10
 clear T10 S22
 refine PB.mk (((S23.erase 2).erase 1).erase 0)<|PL.callF 47 115 #[.agg #[.bool (decide (ud<0)),.slice lq nq cq],.agg #[.bool (decide (vd<0)),.slice ls ns cs]] dC kr (bH ud vd lq nq cq ls ns cs _ (hq.sep S23) cO (hs.sep S23) cO) ?_
 rintro _ w24 ⟨ra10,rc10,rfl,T11⟩
 have S24:Sep w [bgR (ud*vd) ra10 rc10,bgR (un*vn) ra9 rc9,box b6 [.bool false,.slice none 0 0] 107,box b5 [.bool false,.slice none 0 0] 107,box b4 [.bool (decide (vd<0)),.slice ls ns cs] 107,box b3 [.bool (decide (vn<0)),.slice lr nr cr] 107,box b2 [.bool (decide (ud<0)),.slice lq nq cq] 107,box b1 [.bool (decide (un<0)),.slice lp np cp] 107] w24:=S23.trans T11
 clear T11 S23
 refine PB.mk ((((S24.erase 3).erase 2).erase 1).erase 0)<|PL.stBox S24 3 107 0 (bgV (un*vn) ra9 rc9) (bgC (un*vn) ra9 rc9) [bgR (ud*vd) ra10 rc10,bgR (un*vn) ra9 rc9,box b6 [.bool false,.slice none 0 0] 107,box b5 (bgC (un*vn) ra9 rc9) 107,box b4 [.bool (decide (vd<0)),.slice ls ns cs] 107,box b3 [.bool (decide (vn<0)),.slice lr nr cr] 107,box b2 [.bool (decide (ud<0)),.slice lq nq cq] 107,box b1 [.bool (decide (un<0)),.slice lp np cp] 107] kr rfl kr kr rfl ?_
 intro w25 S25
 refine PB.mk ((((S25.erase 3).erase 2).erase 1).erase 0)<|PL.stBox S25 2 107 0 (bgV (ud*vd) ra10 rc10) (bgC (ud*vd) ra10 rc10) [bgR (ud*vd) ra10 rc10,bgR (un*vn) ra9 rc9,box b6 (bgC (ud*vd) ra10 rc10) 107,box b5 (bgC (un*vn) ra9 rc9) 107,box b4 [.bool (decide (vd<0)),.slice ls ns cs] 107,box b3 [.bool (decide (vn<0)),.slice lr nr cr] 107,box b2 [.bool (decide (ud<0)),.slice lq nq cq] 107,box b1 [.bool (decide (un<0)),.slice lp np cp] 107] kr rfl kr kr rfl ?_
 intro w26 S26
 refine PB.mk ((((S26.erase 3).erase 2).erase 1).erase 0)<|PL.done<|J.ez 0 [bgV (un*vn) ra9 rc9,bgV (ud*vd) ra10 rc10] func145 (bk (S26.nth 3 rfl) (bk (S26.nth 2 rfl) bn)) (hR _ _ ?_)
 have:=aC (S26.nth 1 rfl)
 have:=aC (S26.nth 0 rfl)
 have e1:cmN op un ud vn vd=un*vn:=by unfold cmN;(repeat first | rw[if_pos om] | rw[if_neg om])<;>omega
 have e2:cmD op ud vn vd=ud*vd:=by unfold cmD;(repeat first | rw[if_pos om] | rw[if_neg om])<;>omega
 exact⟨_,_,_,_,by rw[e1,e2];first | rfl | (simp only[bgV,cY];rfl),by rw[e1,e2];first | exact S26.two 0 1 rfl rfl dE | (simp only[bgR,cY];exact S26.two 0 1 rfl rfl dE)⟩
 refine J.r 4 [false] [] [] ?_
 replace S6:Sep w (bp b6 b5 b4 vd ls ns cs b3 vn lr nr cr b2 ud lq nq cq b1 un lp np cp) w6:=S6
 have W1:∀ (bd7:Nat) (bd6:Nat) (ad2:Option Addr) (cd2:Nat) (ad5:Option Addr) (cd5:Nat) (w27:World),Sep w (bgR (ud*vn) ad5 cd5::bgR (un*vd) ad2 cd2::box bd6 (bgC (un*vd) ad2 cd2) 107::box bd7 (bgC (ud*vn) ad5 cd5) 107::(bp b6 b5 b4 vd ls ns cs b3 vn lr nr cr b2 ud lq nq cq b1 un lp np cp)) w27→WA prog 145 62 R K145_0 (fun w_=>Sep w (bp b6 b5 b4 vd ls ns cs b3 vn lr nr cr b2 ud lq nq cq b1 un lp np cp) w_) 0 (bA 10 1023) [(10,pv b5),(11,pv b6),(12,pv bd6),(13,pv bd7)] w27:=by
  intro bd7 bd6 ad2 cd2 ad5 cd5 w27 S27
  refine WA.done kr<|J.lb 4 [] [] [] S27 3 rfl 55 (.bool (decide ((ud*vn)<0)))<|J.b 1 [] [] [] 55 (decide ((ud*vn)<0)) (fun fk4=>?_) fun fk4=>?_
  have fb1:=of_decide_eq_true fk4
  refine J.r 2 [true] [] []<|J.drawPlan (fun w_=>Sep w [bgR (ud*vn) ad5 cd5,bgR (un*vd) ad2 cd2,box bd6 (bgC (un*vd) ad2 cd2) 107,box bd7 (bgC (ud*vn) ad5 cd5) 107,box b4 [.bool (decide (vd<0)),.slice ls ns cs] 107,box b3 [.bool (decide (vn<0)),.slice lr nr cr] 107,box b2 [.bool (decide (ud<0)),.slice lq nq cq] 107,box b1 [.bool (decide (un<0)),.slice lp np cp] 107] w_) [(0,true),(2,true),(1,false),(3,false),(4,false),(5,false)] S27 Tryz.mixed kr (aE (T:=[(0,some 56,4096),(1,some 57,72057594037927936),(0,some 58,8192),(6,some 59,288230376151711744),(11,none,144115188075856896),(31,none,576460752303425536)]) kr kr) ?_
  intro w28 S28
  refine PB.mk ((S28.erase 5).erase 4)<|PL.takeOK 0 (fun w_ S_=>OK.ldBox S_ 2 56 107 0 (bgV (un*vd) ad2 cd2) kr rfl kr) rfl<|PL.takeOK 2 (fun w_ S_=>OK.ldBox S_ 3 58 107 0 (bgV (ud*vn) ad5 cd5) kr rfl kr) rfl ?_
  have:=aC (S28.nth 1 rfl)
  refine PL.callF 57 72 #[bgV (un*vd) ad2 cd2] hb72 kr (ee (un*vd) ad2 ((al (un*vd)).length) cd2 _ ((aD (S28.nth 1 rfl) ((al (un*vd)).length) rO))) ?_
  rintro _ w29 ⟨rfl,T12⟩
  have S29:Sep w (bgR (ud*vn) ad5 cd5::bgR (un*vd) ad2 cd2::box bd6 (bgC (un*vd) ad2 cd2) 107::box bd7 (bgC (ud*vn) ad5 cd5) 107::(bp b6 b5 b4 vd ls ns cs b3 vn lr nr cr b2 ud lq nq cq b1 un lp np cp)) w29:=S28.trans T12
  clear T12 S28
  refine PB.mk ((S29.erase 5).erase 4) ?_
  have:=aC (S29.nth 0 rfl)
  refine PL.callF 59 72 #[bgV (ud*vn) ad5 cd5] hb72 kr (ee (ud*vn) ad5 ((al (ud*vn)).length) cd5 _ ((aD (S29.nth 0 rfl) ((al (ud*vn)).length) rO))) ?_
  rintro _ w30 ⟨rfl,T13⟩
  have S30:Sep w (bgR (ud*vn) ad5 cd5::bgR (un*vd) ad2 cd2::box bd6 (bgC (un*vd) ad2 cd2) 107::box bd7 (bgC (ud*vn) ad5 cd5) 107::(bp b6 b5 b4 vd ls ns cs b3 vn lr nr cr b2 ud lq nq cq b1 un lp np cp)) w30:=S29.trans T13
  clear T13 S29
  refine PB.mk ((S30.erase 5).erase 4)<|PL.stBox S30 5 107 0 (.agg #[.bool (decide ((-(un*vd))<0)),.slice ad2 ((al (un*vd)).length) cd2]) [.bool (decide ((-(un*vd))<0)),.slice ad2 ((al (un*vd)).length) cd2] [bgR (ud*vn) ad5 cd5,bgR (un*vd) ad2 cd2,box bd6 (bgC (un*vd) ad2 cd2) 107,box bd7 (bgC (ud*vn) ad5 cd5) 107,box b6 [.bool false,.slice none 0 0] 107,box b5 [.bool (decide ((-(un*vd))<0)),.slice ad2 ((al (un*vd)).length) cd2] 107,box b4 [.bool (decide (vd<0)),.slice ls ns cs] 107,box b3 [.bool (decide (vn<0)),.slice lr nr cr] 107,box b2 [.bool (decide (ud<0)),.slice lq nq cq] 107,box b1 [.bool (decide (un<0)),.slice lp np cp] 107] kr rfl kr kr rfl ?_
  intro w31 S31
  refine PB.mk ((S31.erase 5).erase 4)<|PL.stBox S31 4 107 0 (.agg #[.bool (decide ((-(ud*vn))<0)),.slice ad5 ((al (ud*vn)).length) cd5]) [.bool (decide ((-(ud*vn))<0)),.slice ad5 ((al (ud*vn)).length) cd5] [bgR (ud*vn) ad5 cd5,bgR (un*vd) ad2 cd2,box bd6 (bgC (un*vd) ad2 cd2) 107,box bd7 (bgC (ud*vn) ad5 cd5) 107,box b6 [.bool (decide ((-(ud*vn))<0)),.slice ad5 ((al (ud*vn)).length) cd5] 107,box b5 [.bool (decide ((-(un*vd))<0)),.slice ad2 ((al (un*vd)).length) cd2] 107,box b4 [.bool (decide (vd<0)),.slice ls ns cs] 107,box b3 [.bool (decide (vn<0)),.slice lr nr cr] 107,box b2 [.bool (decide (ud<0)),.slice lq nq cq] 107,box b1 [.bool (decide (un<0)),.slice lp np cp] 107] kr rfl kr kr rfl ?_
  intro w32 S32
  refine PB.mk ((S32.erase 5).erase 4)<|PL.done<|J.ez 0 [.agg #[.bool (decide ((-(un*vd))<0)),.slice ad2 ((al (un*vd)).length) cd2],.agg #[.bool (decide ((-(ud*vn))<0)),.slice ad5 ((al (ud*vn)).length) cd5]] func145 (bk (S32.nth 5 rfl) (bk (S32.nth 4 rfl) bn)) (hR _ _ ?_)
  have:=aC (S32.nth 1 rfl)
  have:=aC (S32.nth 0 rfl)
  have e1:cmN op un ud vn vd= -(un*vd):=by unfold cmN;(repeat first | rw[if_pos om] | rw[if_neg om])<;>omega
  have e2:cmD op ud vn vd= -(ud*vn):=by unfold cmD;(repeat first | rw[if_pos om] | rw[if_neg om])<;>omega
  exact⟨_,_,_,_,by rw[e1,e2];first | rfl | (simp only[bgV,cY];rfl),by rw[e1,e2];first | exact S32.two 0 1 rfl rfl dE | (simp only[bgR,cY];exact S32.two 0 1 rfl rfl dE)⟩
  have fb2:=of_decide_eq_false fk4
  refine J.r 3 [false] [] []<|J.drawPlan (fun w_=>Sep w [bgR (ud*vn) ad5 cd5,bgR (un*vd) ad2 cd2,box bd6 (bgC (un*vd) ad2 cd2) 107,box bd7 (bgC (ud*vn) ad5 cd5) 107,box b4 [.bool (decide (vd<0)),.slice ls ns cs] 107,box b3 [.bool (decide (vn<0)),.slice lr nr cr] 107,box b2 [.bool (decide (ud<0)),.slice lq nq cq] 107,box b1 [.bool (decide (un<0)),.slice lp np cp] 107] w_) [(0,true),(1,true),(2,false),(3,false)] S27 Tryz.mixed kr (aE (T:=[(0,some 60,4096),(0,some 61,8192),(1,none,1152921504606848000),(7,none,2305843009213696000)]) kr kr) ?_
  intro w33 S33
  refine PB.mk ((S33.erase 5).erase 4)<|PL.takeOK 0 (fun w_ S_=>OK.ldBox S_ 2 60 107 0 (bgV (un*vd) ad2 cd2) kr rfl kr) rfl<|PL.takeOK 1 (fun w_ S_=>OK.ldBox S_ 3 61 107 0 (bgV (ud*vn) ad5 cd5) kr rfl kr) rfl<|PL.stBox S33 5 107 0 (bgV (un*vd) ad2 cd2) (bgC (un*vd) ad2 cd2) [bgR (ud*vn) ad5 cd5,bgR (un*vd) ad2 cd2,box bd6 (bgC (un*vd) ad2 cd2) 107,box bd7 (bgC (ud*vn) ad5 cd5) 107,box b6 [.bool false,.slice none 0 0] 107,box b5 (bgC (un*vd) ad2 cd2) 107,box b4 [.bool (decide (vd<0)),.slice ls ns cs] 107,box b3 [.bool (decide (vn<0)),.slice lr nr cr] 107,box b2 [.bool (decide (ud<0)),.slice lq nq cq] 107,box b1 [.bool (decide (un<0)),.slice lp np cp] 107] kr rfl kr kr rfl ?_
  intro w34 S34
  refine PB.mk ((S34.erase 5).erase 4)<|PL.stBox S34 4 107 0 (bgV (ud*vn) ad5 cd5) (bgC (ud*vn) ad5 cd5) [bgR (ud*vn) ad5 cd5,bgR (un*vd) ad2 cd2,box bd6 (bgC (un*vd) ad2 cd2) 107,box bd7 (bgC (ud*vn) ad5 cd5) 107,box b6 (bgC (ud*vn) ad5 cd5) 107,box b5 (bgC (un*vd) ad2 cd2) 107,box b4 [.bool (decide (vd<0)),.slice ls ns cs] 107,box b3 [.bool (decide (vn<0)),.slice lr nr cr] 107,box b2 [.bool (decide (ud<0)),.slice lq nq cq] 107,box b1 [.bool (decide (un<0)),.slice lp np cp] 107] kr rfl kr kr rfl ?_
  intro w35 S35
  refine PB.mk ((S35.erase 5).erase 4)<|PL.done<|J.ez 0 [bgV (un*vd) ad2 cd2,bgV (ud*vn) ad5 cd5] func145 (bk (S35.nth 5 rfl) (bk (S35.nth 4 rfl) bn)) (hR _ _ ?_)
  have:=aC (S35.nth 1 rfl)
  have:=aC (S35.nth 0 rfl)
  have e1:cmN op un ud vn vd=un*vd:=by unfold cmN;(repeat first | rw[if_pos om] | rw[if_neg om])<;>omega
  have e2:cmD op ud vn vd=ud*vn:=by unfold cmD;(repeat first | rw[if_pos om] | rw[if_neg om])<;>omega
  exact⟨_,_,_,_,by rw[e1,e2];first | rfl | (simp only[bgV,cY];rfl),by rw[e1,e2];first | exact S35.two 0 1 rfl rfl dE | (simp only[bgR,cY];exact S35.two 0 1 rfl rfl dE)⟩
 have W2:∀ (bd7:Nat) (bd6:Nat) (ad2:Option Addr) (cd2:Nat) (ad5:Option Addr) (cd5:Nat) (w36:World),Sep w (bgR (ud*vn) ad5 cd5::bgR (un*vd) ad2 cd2::box bd6 (bgC (un*vd) ad2 cd2) 107::box bd7 [.bool false,.slice none 0 0] 107::(bp b6 b5 b4 vd ls ns cs b3 vn lr nr cr b2 ud lq nq cq b1 un lp np cp)) w36→WA prog 145 62 R K145_0 (fun w_=>Sep w (bp b6 b5 b4 vd ls ns cs b3 vn lr nr cr b2 ud lq nq cq b1 un lp np cp) w_) 1 (bA 10 511) [(10,pv b5),(11,pv b6),(12,pv bd6),(13,pv bd7),(53,bgV (ud*vn) ad5 cd5)] w36:=by
  intro bd7 bd6 ad2 cd2 ad5 cd5 w36 S36
  refine WA.all [9] kr rfl ⟨?_,trivial⟩
  refine WO.set (bA 10 1023) kr<|WO.stBox S36 3 107 0 (bgV (ud*vn) ad5 cd5) (bgC (ud*vn) ad5 cd5) (bgR (ud*vn) ad5 cd5::bgR (un*vd) ad2 cd2::box bd6 (bgC (un*vd) ad2 cd2) 107::box bd7 (bgC (ud*vn) ad5 cd5) 107::(bp b6 b5 b4 vd ls ns cs b3 vn lr nr cr b2 ud lq nq cq b1 un lp np cp)) kr rfl kr kr rfl ?_
  intro w37 S37
  exact WB.mk ((((S37.erase 3).erase 2).erase 1).erase 0)<|WA.weaken kr (W1 bd7 bd6 ad2 cd2 ad5 cd5 w37 S37)
 have W3:∀ (bd7:Nat) (bd6:Nat) (ad2:Option Addr) (cd2:Nat) (ad5:Option Addr) (cd5:Nat) (w38:World),Sep w (bgR (ud*vn) ad5 cd5::bgR (un*vd) ad2 cd2::box bd6 [.bool false,.slice none 0 0] 107::box bd7 [.bool false,.slice none 0 0] 107::(bp b6 b5 b4 vd ls ns cs b3 vn lr nr cr b2 ud lq nq cq b1 un lp np cp)) w38→WA prog 145 62 R K145_0 (fun w_=>Sep w (bp b6 b5 b4 vd ls ns cs b3 vn lr nr cr b2 ud lq nq cq b1 un lp np cp) w_) 2 (bA 10 255) [(10,pv b5),(11,pv b6),(12,pv bd6),(13,pv bd7),(50,bgV (un*vd) ad2 cd2),(53,bgV (ud*vn) ad5 cd5)] w38:=by
  intro bd7 bd6 ad2 cd2 ad5 cd5 w38 S38
  refine WA.all [8] kr rfl ⟨?_,trivial⟩
  refine WO.set (bA 10 511) kr<|WO.stBox S38 2 107 0 (bgV (un*vd) ad2 cd2) (bgC (un*vd) ad2 cd2) (bgR (ud*vn) ad5 cd5::bgR (un*vd) ad2 cd2::box bd6 (bgC (un*vd) ad2 cd2) 107::box bd7 [.bool false,.slice none 0 0] 107::(bp b6 b5 b4 vd ls ns cs b3 vn lr nr cr b2 ud lq nq cq b1 un lp np cp)) kr rfl kr kr rfl ?_
  intro w39 S39
  exact WB.mk ((((S39.erase 3).erase 2).erase 1).erase 0)<|WA.weaken kr (W2 bd7 bd6 ad2 cd2 ad5 cd5 w39 S39)
 have W4:∀ (bd7:Nat) (bd6:Nat) (ad2:Option Addr) (cd2:Nat) (w40:World),Sep w (bgR (un*vd) ad2 cd2::box bd6 [.bool false,.slice none 0 0] 107::box bd7 [.bool false,.slice none 0 0] 107::(bp b6 b5 b4 vd ls ns cs b3 vn lr nr cr b2 ud lq nq cq b1 un lp np cp)) w40→WA prog 145 62 R K145_0 (fun w_=>Sep w (bp b6 b5 b4 vd ls ns cs b3 vn lr nr cr b2 ud lq nq cq b1 un lp np cp) w_) 3 (bA 10 223) [(10,pv b5),(11,pv b6),(12,pv bd6),(13,pv bd7),(50,bgV (un*vd) ad2 cd2),(51,.agg #[.bool (decide (ud<0)),.slice lq nq cq]),(52,.agg #[.bool (decide (vn<0)),.slice lr nr cr])] w40:=by
  intro bd7 bd6 ad2 cd2 w40 S40
  refine WA.all [5] kr rfl ⟨?_,trivial⟩
  refine WO.set (bA 10 255) kr<|WO.callF 53 115 #[.agg #[.bool (decide (ud<0)),.slice lq nq cq],.agg #[.bool (decide (vn<0)),.slice lr nr cr]] dC kr (bH ud vn lq nq cq lr nr cr _ (hq.sep S40) cO (hr.sep S40) cO) ?_
  rintro _ w41 ⟨ad5,cd5,rfl,T14⟩
  exact WB.mk (((((S40.trans T14).erase 3).erase 2).erase 1).erase 0)<|WA.weaken kr (W3 bd7 bd6 ad2 cd2 ad5 cd5 w41 (S40.trans T14))
 have W5:∀ (bd7:Nat) (ad2:Option Addr) (cd2:Nat) (ad5:Option Addr) (cd5:Nat) (w42:World),Sep w (bgR (ud*vn) ad5 cd5::bgR (un*vd) ad2 cd2::box bd7 [.bool false,.slice none 0 0] 107::(bp b6 b5 b4 vd ls ns cs b3 vn lr nr cr b2 ud lq nq cq b1 un lp np cp)) w42→WA prog 145 62 R K145_0 (fun w_=>Sep w (bp b6 b5 b4 vd ls ns cs b3 vn lr nr cr b2 ud lq nq cq b1 un lp np cp) w_) 3 (bA 10 191) [(10,pv b5),(11,pv b6),(13,pv bd7),(50,bgV (un*vd) ad2 cd2),(53,bgV (ud*vn) ad5 cd5)] w42:=by
  intro bd7 ad2 cd2 ad5 cd5 w42 S42
  refine WA.all [6] kr rfl ⟨?_,trivial⟩
  refine WO.set (bA 10 255) kr<|WO.new S42 12 [.bool false,.slice none 0 0] 107 kr ?_
  intro bd6 w43 S43
  refine WB.mk ((((S43.erase 3).erase 2).erase 1).erase 0) ?_
  have S44:Sep w (box bd6 [.bool false,.slice none 0 0] 107::bgR (ud*vn) ad5 cd5::bgR (un*vd) ad2 cd2::box bd7 [.bool false,.slice none 0 0] 107::(bp b6 b5 b4 vd ls ns cs b3 vn lr nr cr b2 ud lq nq cq b1 un lp np cp)) w43:=S43.front 0 rfl
  have S45:Sep w (bgR (un*vd) ad2 cd2::box bd6 [.bool false,.slice none 0 0] 107::bgR (ud*vn) ad5 cd5::box bd7 [.bool false,.slice none 0 0] 107::(bp b6 b5 b4 vd ls ns cs b3 vn lr nr cr b2 ud lq nq cq b1 un lp np cp)) w43:=S44.front 2 rfl
  have S46:Sep w (bgR (ud*vn) ad5 cd5::bgR (un*vd) ad2 cd2::box bd6 [.bool false,.slice none 0 0] 107::box bd7 [.bool false,.slice none 0 0] 107::(bp b6 b5 b4 vd ls ns cs b3 vn lr nr cr b2 ud lq nq cq b1 un lp np cp)) w43:=S45.front 2 rfl
  exact WA.weaken kr (W3 bd7 bd6 ad2 cd2 ad5 cd5 w43 S46)
 have W6:∀ (bd6:Nat) (ad2:Option Addr) (cd2:Nat) (ad5:Option Addr) (cd5:Nat) (w44:World),Sep w (bgR (ud*vn) ad5 cd5::bgR (un*vd) ad2 cd2::box bd6 [.bool false,.slice none 0 0] 107::(bp b6 b5 b4 vd ls ns cs b3 vn lr nr cr b2 ud lq nq cq b1 un lp np cp)) w44→WA prog 145 62 R K145_0 (fun w_=>Sep w (bp b6 b5 b4 vd ls ns cs b3 vn lr nr cr b2 ud lq nq cq b1 un lp np cp) w_) 3 (bA 10 127) [(10,pv b5),(11,pv b6),(12,pv bd6),(50,bgV (un*vd) ad2 cd2),(53,bgV (ud*vn) ad5 cd5)] w44:=by
  intro bd6 ad2 cd2 ad5 cd5 w44 S47
  refine WA.all [7] kr rfl ⟨?_,trivial⟩
  refine WO.set (bA 10 255) kr<|WO.new S47 13 [.bool false,.slice none 0 0] 107 kr ?_
  intro bd7 w45 S48
  refine WB.mk ((((S48.erase 3).erase 2).erase 1).erase 0) ?_
  have S49:Sep w (box bd7 [.bool false,.slice none 0 0] 107::bgR (ud*vn) ad5 cd5::bgR (un*vd) ad2 cd2::box bd6 [.bool false,.slice none 0 0] 107::(bp b6 b5 b4 vd ls ns cs b3 vn lr nr cr b2 ud lq nq cq b1 un lp np cp)) w45:=S48.front 0 rfl
  have S50:Sep w (box bd6 [.bool false,.slice none 0 0] 107::box bd7 [.bool false,.slice none 0 0] 107::bgR (ud*vn) ad5 cd5::bgR (un*vd) ad2 cd2::(bp b6 b5 b4 vd ls ns cs b3 vn lr nr cr b2 ud lq nq cq b1 un lp np cp)) w45:=S49.front 3 rfl
  have S51:Sep w (bgR (un*vd) ad2 cd2::box bd6 [.bool false,.slice none 0 0] 107::box bd7 [.bool false,.slice none 0 0] 107::bgR (ud*vn) ad5 cd5::(bp b6 b5 b4 vd ls ns cs b3 vn lr nr cr b2 ud lq nq cq b1 un lp np cp)) w45:=S50.front 3 rfl
  have S52:Sep w (bgR (ud*vn) ad5 cd5::bgR (un*vd) ad2 cd2::box bd6 [.bool false,.slice none 0 0] 107::box bd7 [.bool false,.slice none 0 0] 107::(bp b6 b5 b4 vd ls ns cs b3 vn lr nr cr b2 ud lq nq cq b1 un lp np cp)) w45:=S51.front 3 rfl
  exact WA.weaken kr (W3 bd7 bd6 ad2 cd2 ad5 cd5 w45 S52)
 have W7:∀ (bd7:Nat) (ad2:Option Addr) (cd2:Nat) (w46:World),Sep w (bgR (un*vd) ad2 cd2::box bd7 [.bool false,.slice none 0 0] 107::(bp b6 b5 b4 vd ls ns cs b3 vn lr nr cr b2 ud lq nq cq b1 un lp np cp)) w46→WA prog 145 62 R K145_0 (fun w_=>Sep w (bp b6 b5 b4 vd ls ns cs b3 vn lr nr cr b2 ud lq nq cq b1 un lp np cp) w_) 4 (bA 10 159) [(10,pv b5),(11,pv b6),(13,pv bd7),(50,bgV (un*vd) ad2 cd2),(51,.agg #[.bool (decide (ud<0)),.slice lq nq cq]),(52,.agg #[.bool (decide (vn<0)),.slice lr nr cr])] w46:=by
  intro bd7 ad2 cd2 w46 S53
  refine WA.all [5,6] kr rfl ⟨?_,?_,trivial⟩
  refine WO.set (bA 10 191) kr<|WO.callF 53 115 #[.agg #[.bool (decide (ud<0)),.slice lq nq cq],.agg #[.bool (decide (vn<0)),.slice lr nr cr]] dC kr (bH ud vn lq nq cq lr nr cr _ (hq.sep S53) cO (hr.sep S53) cO) ?_
  rintro _ w47 ⟨ad5,cd5,rfl,T15⟩
  exact WB.mk ((((S53.trans T15).erase 2).erase 1).erase 0)<|WA.weaken kr (W5 bd7 ad2 cd2 ad5 cd5 w47 (S53.trans T15))
  refine WO.set (bA 10 223) kr<|WO.new S53 12 [.bool false,.slice none 0 0] 107 kr ?_
  intro bd6 w48 S55
  refine WB.mk (((S55.erase 2).erase 1).erase 0) ?_
  have S56:Sep w (box bd6 [.bool false,.slice none 0 0] 107::bgR (un*vd) ad2 cd2::box bd7 [.bool false,.slice none 0 0] 107::(bp b6 b5 b4 vd ls ns cs b3 vn lr nr cr b2 ud lq nq cq b1 un lp np cp)) w48:=S55.front 0 rfl
  have S57:Sep w (bgR (un*vd) ad2 cd2::box bd6 [.bool false,.slice none 0 0] 107::box bd7 [.bool false,.slice none 0 0] 107::(bp b6 b5 b4 vd ls ns cs b3 vn lr nr cr b2 ud lq nq cq b1 un lp np cp)) w48:=S56.front 1 rfl
  exact WA.weaken kr (W4 bd7 bd6 ad2 cd2 w48 S57)
 have W8:∀ (bd7:Nat) (bd6:Nat) (w49:World),Sep w (box bd6 [.bool false,.slice none 0 0] 107::box bd7 [.bool false,.slice none 0 0] 107::(bp b6 b5 b4 vd ls ns cs b3 vn lr nr cr b2 ud lq nq cq b1 un lp np cp)) w49→WA prog 145 62 R K145_0 (fun w_=>Sep w (bp b6 b5 b4 vd ls ns cs b3 vn lr nr cr b2 ud lq nq cq b1 un lp np cp) w_) 4 (bA 10 219) [(10,pv b5),(11,pv b6),(12,pv bd6),(13,pv bd7),(48,.agg #[.bool (decide (un<0)),.slice lp np cp]),(49,.agg #[.bool (decide (vd<0)),.slice ls ns cs]),(51,.agg #[.bool (decide (ud<0)),.slice lq nq cq]),(52,.agg #[.bool (decide (vn<0)),.slice lr nr cr])] w49:=by
  intro bd7 bd6 w49 S58
  refine WA.all [2] kr rfl ⟨?_,trivial⟩
  refine WO.set (bA 10 223) kr<|WO.callF 50 115 #[.agg #[.bool (decide (un<0)),.slice lp np cp],.agg #[.bool (decide (vd<0)),.slice ls ns cs]] dC kr (bH un vd lp np cp ls ns cs _ (hp.sep S58) cO (hs.sep S58) cO) ?_
  rintro _ w50 ⟨ad2,cd2,rfl,T16⟩
  exact WB.mk ((((S58.trans T16).erase 2).erase 1).erase 0)<|WA.weaken kr (W4 bd7 bd6 ad2 cd2 w50 (S58.trans T16))
 have W9:∀ (bd6:Nat) (ad2:Option Addr) (cd2:Nat) (w51:World),Sep w (bgR (un*vd) ad2 cd2::box bd6 [.bool false,.slice none 0 0] 107::(bp b6 b5 b4 vd ls ns cs b3 vn lr nr cr b2 ud lq nq cq b1 un lp np cp)) w51→WA prog 145 62 R K145_0 (fun w_=>Sep w (bp b6 b5 b4 vd ls ns cs b3 vn lr nr cr b2 ud lq nq cq b1 un lp np cp) w_) 4 (bA 10 95) [(10,pv b5),(11,pv b6),(12,pv bd6),(50,bgV (un*vd) ad2 cd2),(51,.agg #[.bool (decide (ud<0)),.slice lq nq cq]),(52,.agg #[.bool (decide (vn<0)),.slice lr nr cr])] w51:=by
  intro bd6 ad2 cd2 w51 S60
  refine WA.all [5,7] kr rfl ⟨?_,?_,trivial⟩
  refine WO.set (bA 10 127) kr<|WO.callF 53 115 #[.agg #[.bool (decide (ud<0)),.slice lq nq cq],.agg #[.bool (decide (vn<0)),.slice lr nr cr]] dC kr (bH ud vn lq nq cq lr nr cr _ (hq.sep S60) cO (hr.sep S60) cO) ?_
  rintro _ w52 ⟨ad5,cd5,rfl,T17⟩
  exact WB.mk ((((S60.trans T17).erase 2).erase 1).erase 0)<|WA.weaken kr (W6 bd6 ad2 cd2 ad5 cd5 w52 (S60.trans T17))
  refine WO.set (bA 10 223) kr<|WO.new S60 13 [.bool false,.slice none 0 0] 107 kr ?_
  intro bd7 w53 S62
  refine WB.mk (((S62.erase 2).erase 1).erase 0) ?_
  have S63:Sep w (box bd7 [.bool false,.slice none 0 0] 107::bgR (un*vd) ad2 cd2::box bd6 [.bool false,.slice none 0 0] 107::(bp b6 b5 b4 vd ls ns cs b3 vn lr nr cr b2 ud lq nq cq b1 un lp np cp)) w53:=S62.front 0 rfl
  have S64:Sep w (box bd6 [.bool false,.slice none 0 0] 107::box bd7 [.bool false,.slice none 0 0] 107::bgR (un*vd) ad2 cd2::(bp b6 b5 b4 vd ls ns cs b3 vn lr nr cr b2 ud lq nq cq b1 un lp np cp)) w53:=S63.front 2 rfl
  have S65:Sep w (bgR (un*vd) ad2 cd2::box bd6 [.bool false,.slice none 0 0] 107::box bd7 [.bool false,.slice none 0 0] 107::(bp b6 b5 b4 vd ls ns cs b3 vn lr nr cr b2 ud lq nq cq b1 un lp np cp)) w53:=S64.front 2 rfl
  exact WA.weaken kr (W4 bd7 bd6 ad2 cd2 w53 S65)
 have W10:∀ (ad2:Option Addr) (cd2:Nat) (ad5:Option Addr) (cd5:Nat) (w54:World),Sep w (bgR (ud*vn) ad5 cd5::bgR (un*vd) ad2 cd2::(bp b6 b5 b4 vd ls ns cs b3 vn lr nr cr b2 ud lq nq cq b1 un lp np cp)) w54→WA prog 145 62 R K145_0 (fun w_=>Sep w (bp b6 b5 b4 vd ls ns cs b3 vn lr nr cr b2 ud lq nq cq b1 un lp np cp) w_) 4 (bA 10 63) [(10,pv b5),(11,pv b6),(50,bgV (un*vd) ad2 cd2),(53,bgV (ud*vn) ad5 cd5)] w54:=by
  intro ad2 cd2 ad5 cd5 w54 S66
  refine WA.all [6,7] kr rfl ⟨?_,?_,trivial⟩
  refine WO.set (bA 10 127) kr<|WO.new S66 12 [.bool false,.slice none 0 0] 107 kr ?_
  intro bd6 w55 S67
  refine WB.mk (((S67.erase 2).erase 1).erase 0) ?_
  have S68:Sep w (box bd6 [.bool false,.slice none 0 0] 107::bgR (ud*vn) ad5 cd5::bgR (un*vd) ad2 cd2::(bp b6 b5 b4 vd ls ns cs b3 vn lr nr cr b2 ud lq nq cq b1 un lp np cp)) w55:=S67.front 0 rfl
  have S69:Sep w (bgR (un*vd) ad2 cd2::box bd6 [.bool false,.slice none 0 0] 107::bgR (ud*vn) ad5 cd5::(bp b6 b5 b4 vd ls ns cs b3 vn lr nr cr b2 ud lq nq cq b1 un lp np cp)) w55:=S68.front 2 rfl
  have S70:Sep w (bgR (ud*vn) ad5 cd5::bgR (un*vd) ad2 cd2::box bd6 [.bool false,.slice none 0 0] 107::(bp b6 b5 b4 vd ls ns cs b3 vn lr nr cr b2 ud lq nq cq b1 un lp np cp)) w55:=S69.front 2 rfl
  exact WA.weaken kr (W6 bd6 ad2 cd2 ad5 cd5 w55 S70)
  refine WO.set (bA 10 191) kr<|WO.new S66 13 [.bool false,.slice none 0 0] 107 kr ?_
  intro bd7 w56 S71
  refine WB.mk (((S71.erase 2).erase 1).erase 0) ?_
  have S72:Sep w (box bd7 [.bool false,.slice none 0 0] 107::bgR (ud*vn) ad5 cd5::bgR (un*vd) ad2 cd2::(bp b6 b5 b4 vd ls ns cs b3 vn lr nr cr b2 ud lq nq cq b1 un lp np cp)) w56:=S71.front 0 rfl
  have S73:Sep w (bgR (un*vd) ad2 cd2::box bd7 [.bool false,.slice none 0 0] 107::bgR (ud*vn) ad5 cd5::(bp b6 b5 b4 vd ls ns cs b3 vn lr nr cr b2 ud lq nq cq b1 un lp np cp)) w56:=S72.front 2 rfl
  have S74:Sep w (bgR (ud*vn) ad5 cd5::bgR (un*vd) ad2 cd2::box bd7 [.bool false,.slice none 0 0] 107::(bp b6 b5 b4 vd ls ns cs b3 vn lr nr cr b2 ud lq nq cq b1 un lp np cp)) w56:=S73.front 2 rfl
  exact WA.weaken kr (W5 bd7 ad2 cd2 ad5 cd5 w56 S74)
 have W11:∀ (ad2:Option Addr) (cd2:Nat) (w57:World),Sep w (bgR (un*vd) ad2 cd2::(bp b6 b5 b4 vd ls ns cs b3 vn lr nr cr b2 ud lq nq cq b1 un lp np cp)) w57→WA prog 145 62 R K145_0 (fun w_=>Sep w (bp b6 b5 b4 vd ls ns cs b3 vn lr nr cr b2 ud lq nq cq b1 un lp np cp) w_) 5 (bA 10 31) [(10,pv b5),(11,pv b6),(50,bgV (un*vd) ad2 cd2),(51,.agg #[.bool (decide (ud<0)),.slice lq nq cq]),(52,.agg #[.bool (decide (vn<0)),.slice lr nr cr])] w57:=by
  intro ad2 cd2 w57 S75
  refine WA.all [5,6,7] kr rfl ⟨?_,?_,?_,trivial⟩
  refine WO.set (bA 10 63) kr<|WO.callF 53 115 #[.agg #[.bool (decide (ud<0)),.slice lq nq cq],.agg #[.bool (decide (vn<0)),.slice lr nr cr]] dC kr (bH ud vn lq nq cq lr nr cr _ (hq.sep S75) cO (hr.sep S75) cO) ?_
  rintro _ w58 ⟨ad5,cd5,rfl,T18⟩
  exact WB.mk (((S75.trans T18).erase 1).erase 0)<|WA.weaken kr (W10 ad2 cd2 ad5 cd5 w58 (S75.trans T18))
  refine WO.set (bA 10 95) kr<|WO.new S75 12 [.bool false,.slice none 0 0] 107 kr ?_
  intro bd6 w59 S77
  refine WB.mk ((S77.erase 1).erase 0) ?_
  have S78:Sep w (box bd6 [.bool false,.slice none 0 0] 107::bgR (un*vd) ad2 cd2::(bp b6 b5 b4 vd ls ns cs b3 vn lr nr cr b2 ud lq nq cq b1 un lp np cp)) w59:=S77.front 0 rfl
  have S79:Sep w (bgR (un*vd) ad2 cd2::box bd6 [.bool false,.slice none 0 0] 107::(bp b6 b5 b4 vd ls ns cs b3 vn lr nr cr b2 ud lq nq cq b1 un lp np cp)) w59:=S78.front 1 rfl
  exact WA.weaken kr (W9 bd6 ad2 cd2 w59 S79)
  refine WO.set (bA 10 159) kr<|WO.new S75 13 [.bool false,.slice none 0 0] 107 kr ?_
  intro bd7 w60 S80
  refine WB.mk ((S80.erase 1).erase 0) ?_
  have S81:Sep w (box bd7 [.bool false,.slice none 0 0] 107::bgR (un*vd) ad2 cd2::(bp b6 b5 b4 vd ls ns cs b3 vn lr nr cr b2 ud lq nq cq b1 un lp np cp)) w60:=S80.front 0 rfl
  have S82:Sep w (bgR (un*vd) ad2 cd2::box bd7 [.bool false,.slice none 0 0] 107::(bp b6 b5 b4 vd ls ns cs b3 vn lr nr cr b2 ud lq nq cq b1 un lp np cp)) w60:=S81.front 1 rfl
  exact WA.weaken kr (W7 bd7 ad2 cd2 w60 S82)
 have W12:∀ (bd6:Nat) (w61:World),Sep w (box bd6 [.bool false,.slice none 0 0] 107::(bp b6 b5 b4 vd ls ns cs b3 vn lr nr cr b2 ud lq nq cq b1 un lp np cp)) w61→WA prog 145 62 R K145_0 (fun w_=>Sep w (bp b6 b5 b4 vd ls ns cs b3 vn lr nr cr b2 ud lq nq cq b1 un lp np cp) w_) 5 (bA 10 91) [(10,pv b5),(11,pv b6),(12,pv bd6),(48,.agg #[.bool (decide (un<0)),.slice lp np cp]),(49,.agg #[.bool (decide (vd<0)),.slice ls ns cs]),(51,.agg #[.bool (decide (ud<0)),.slice lq nq cq]),(52,.agg #[.bool (decide (vn<0)),.slice lr nr cr])] w61:=by
  intro bd6 w61 S83
  refine WA.all [2,7] kr rfl ⟨?_,?_,trivial⟩
  refine WO.set (bA 10 95) kr<|WO.callF 50 115 #[.agg #[.bool (decide (un<0)),.slice lp np cp],.agg #[.bool (decide (vd<0)),.slice ls ns cs]] dC kr (bH un vd lp np cp ls ns cs _ (hp.sep S83) cO (hs.sep S83) cO) ?_
  rintro _ w62 ⟨ad2,cd2,rfl,T19⟩
  exact WB.mk (((S83.trans T19).erase 1).erase 0)<|WA.weaken kr (W9 bd6 ad2 cd2 w62 (S83.trans T19))
  refine WO.set (bA 10 219) kr<|WO.new S83 13 [.bool false,.slice none 0 0] 107 kr ?_
  intro bd7 w63 S85
  refine WB.mk ((S85.erase 1).erase 0) ?_
  have S86:Sep w (box bd7 [.bool false,.slice none 0 0] 107::box bd6 [.bool false,.slice none 0 0] 107::(bp b6 b5 b4 vd ls ns cs b3 vn lr nr cr b2 ud lq nq cq b1 un lp np cp)) w63:=S85.front 0 rfl
  have S87:Sep w (box bd6 [.bool false,.slice none 0 0] 107::box bd7 [.bool false,.slice none 0 0] 107::(bp b6 b5 b4 vd ls ns cs b3 vn lr nr cr b2 ud lq nq cq b1 un lp np cp)) w63:=S86.front 1 rfl
  exact WA.weaken kr (W8 bd7 bd6 w63 S87)
 have W13:∀ (bd7:Nat) (w64:World),Sep w (box bd7 [.bool false,.slice none 0 0] 107::(bp b6 b5 b4 vd ls ns cs b3 vn lr nr cr b2 ud lq nq cq b1 un lp np cp)) w64→WA prog 145 62 R K145_0 (fun w_=>Sep w (bp b6 b5 b4 vd ls ns cs b3 vn lr nr cr b2 ud lq nq cq b1 un lp np cp) w_) 5 (bA 10 155) [(10,pv b5),(11,pv b6),(13,pv bd7),(48,.agg #[.bool (decide (un<0)),.slice lp np cp]),(49,.agg #[.bool (decide (vd<0)),.slice ls ns cs]),(51,.agg #[.bool (decide (ud<0)),.slice lq nq cq]),(52,.agg #[.bool (decide (vn<0)),.slice lr nr cr])] w64:=by
  intro bd7 w64 S88
  refine WA.all [2,6] kr rfl ⟨?_,?_,trivial⟩
  refine WO.set (bA 10 159) kr<|WO.callF 50 115 #[.agg #[.bool (decide (un<0)),.slice lp np cp],.agg #[.bool (decide (vd<0)),.slice ls ns cs]] dC kr (bH un vd lp np cp ls ns cs _ (hp.sep S88) cO (hs.sep S88) cO) ?_
  rintro _ w65 ⟨ad2,cd2,rfl,T20⟩
  exact WB.mk (((S88.trans T20).erase 1).erase 0)<|WA.weaken kr (W7 bd7 ad2 cd2 w65 (S88.trans T20))
  refine WO.set (bA 10 219) kr<|WO.new S88 12 [.bool false,.slice none 0 0] 107 kr ?_
  intro bd6 w66 S90
  exact WB.mk ((S90.erase 1).erase 0)<|WA.weaken kr (W8 bd7 bd6 w66 S90)
 have W14:∀ (w67:World),Sep w (bp b6 b5 b4 vd ls ns cs b3 vn lr nr cr b2 ud lq nq cq b1 un lp np cp) w67→WA prog 145 62 R K145_0 (fun w_=>Sep w (bp b6 b5 b4 vd ls ns cs b3 vn lr nr cr b2 ud lq nq cq b1 un lp np cp) w_) 6 (bA 10 27) [(10,pv b5),(11,pv b6),(48,.agg #[.bool (decide (un<0)),.slice lp np cp]),(49,.agg #[.bool (decide (vd<0)),.slice ls ns cs]),(51,.agg #[.bool (decide (ud<0)),.slice lq nq cq]),(52,.agg #[.bool (decide (vn<0)),.slice lr nr cr])] w67:=by
  intro w67 S91
  refine WA.all [2,6,7] kr rfl ⟨?_,?_,?_,trivial⟩
  refine WO.set (bA 10 31) kr<|WO.callF 50 115 #[.agg #[.bool (decide (un<0)),.slice lp np cp],.agg #[.bool (decide (vd<0)),.slice ls ns cs]] dC kr (bH un vd lp np cp ls ns cs _ (hp.sep S91) cO (hs.sep S91) cO) ?_
  rintro _ w68 ⟨ad2,cd2,rfl,T21⟩
  exact WB.mk ((S91.trans T21).erase 0)<|WA.weaken kr (W11 ad2 cd2 w68 (S91.trans T21))
  refine WO.set (bA 10 91) kr<|WO.new S91 12 [.bool false,.slice none 0 0] 107 kr ?_
  intro bd6 w69 S93
  exact WB.mk (S93.erase 0)<|WA.weaken kr (W12 bd6 w69 S93)
  refine WO.set (bA 10 155) kr<|WO.new S91 13 [.bool false,.slice none 0 0] 107 kr ?_
  intro bd7 w70 S94
  exact WB.mk (S94.erase 0)<|WA.weaken kr (W13 bd7 w70 S94)
 refine J.drawAny (fun w_=>Sep w (bp b6 b5 b4 vd ls ns cs b3 vn lr nr cr b2 ud lq nq cq b1 un lp np cp) w_) S6 10 (bA 10 0) Tryz.mixed kr kr kr ?_
 intro w71 S95
 exact WB.mk S95<|WA.takeOK 0 (bA 10 1) kr kr kr kr (fun w_ S_=>OK.ldBox S_ 5 48 107 0 (.agg #[.bool (decide (un<0)),.slice lp np cp]) kr rfl kr) rfl<|WA.takeOK 1 (bA 10 3) kr kr kr kr (fun w_ S_=>OK.ldBox S_ 2 49 107 0 (.agg #[.bool (decide (vd<0)),.slice ls ns cs]) kr rfl kr) rfl<|WA.takeOK 3 (bA 10 11) kr kr kr kr (fun w_ S_=>OK.ldBox S_ 4 51 107 0 (.agg #[.bool (decide (ud<0)),.slice lq nq cq]) kr rfl kr) rfl<|WA.takeOK 4 (bA 10 27) kr kr kr kr (fun w_ S_=>OK.ldBox S_ 3 52 107 0 (.agg #[.bool (decide (vn<0)),.slice lr nr cr]) kr rfl kr) rfl<|WA.weaken (env':=[(10,pv b5),(11,pv b6),(48,.agg #[.bool (decide (un<0)),.slice lp np cp]),(49,.agg #[.bool (decide (vd<0)),.slice ls ns cs]),(51,.agg #[.bool (decide (ud<0)),.slice lq nq cq]),(52,.agg #[.bool (decide (vn<0)),.slice lr nr cr])]) kr<|W14 w71 S95

end
end Go.Proofs.YtaoolgcddapegaaGreat

