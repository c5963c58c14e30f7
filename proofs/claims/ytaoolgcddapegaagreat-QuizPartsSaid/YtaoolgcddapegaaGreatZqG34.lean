/- Walks of functions of this seat, printed by a program over the engine. Conditions: as each theorem says. -/
import Derived.Test.YtaoolgcddapegaaGreatZqG33
set_option linter.unusedSimpArgs false
set_option linter.unusedVariables false
namespace Go.Proofs.YtaoolgcddapegaaGreat
open Go.Eng Go.RowKit Go.Proofs.Tryz
set_option maxRecDepth 20000
set_option maxHeartbeats 20000000
theorem hb111:af prog 111:=fun _ _=>by kernel_rfl

theorem rraw_any (op:Int) (ta:Fxd) (ra:Int) (tb:Fxd) (rb:Int) (t:Fxd) (w:World) (qa:cA w ta) (fa:bF ta=true) (ha:inT ta ra) (qb:cA w tb) (fb:bF tb=true) (hb:inT tb rb) (ht:cA w t) (ft:bF t=true) (ho:1≤op∧op≤4) (hz:op=4→ac tb rb≠0):Ret prog 111 #[iv op,iv ra,iv rb,.agg (aI ta),.agg (aI tb),.agg (aI t)] w (fun v w'=>v=iv (opV op ta ra tb rb t)∧Sep w [] w'):=by
 refine Ret.st (N:=44) func111 fun R hR S0=>?_
 obtain ⟨q1,q2,q3,q4,q5,q6,q7,q8,q9,_⟩:=id qa
 obtain ⟨q10,q11,q12,q13,q14,q15,q16,q17,q18,_⟩:=id qb
 obtain ⟨q19,q20,q21,q22,q23,q24,q25,q26,q27,_⟩:=id ht
 refine J.nw 2 [] [] [] S0 9 (aN ta) 54 fun b1 w1 S1=>J.nw 0 [] [] [] S1 10 (aN tb) 54 fun b2 w2 S2=>J.nw 0 [] [] [] S2 11 (aN t) 54 fun b3 w3 S3=>J.lb 4 [] [] [] S3 2 rfl 20 (.agg (aI ta))<|J.r 1 [] [(21,iv ra)] []<|J.cf 0 [] [] [] 22 hb70 (dU ta ra _ (aw qa S3) fa ha) ?_
 rintro _ w4 ⟨ra1,rc1,ra2,rc2,rfl,T1⟩
 have S4:Sep w [bgR (ac ta ra) ra1 rc1,bgR ((ta).aa) ra2 rc2,box b3 (aN t) 54,box b2 (aN tb) 54,box b1 (aN ta) 54] w4:=S3.trans T1
 refine J.nw 3 [] [(24,bgV ((ta).aa) ra2 rc2),(23,bgV (ac ta ra) ra1 rc1)] [] S4 13 [.bool false,.slice none 0 0] 107 fun b4 w5 S5=>J.nw 0 [] [] [] S5 14 [.bool false,.slice none 0 0] 107 fun b5 w6 S6=>J.sb 0 [] [] [] S6 1 rfl (bgC (ac ta ra) ra1 rc1) rfl fun w7 S7=>J.sb 0 [] [] [] S7 0 rfl (bgC ((ta).aa) ra2 rc2) rfl fun w8 S8=>J.lb 3 [] [] [] S8 5 rfl 26 (.agg (aI tb))<|J.r 1 [] [(27,iv rb)] []<|J.cf 0 [] [] [] 28 hb70 (dU tb rb _ (aw qb S8) fb hb) ?_
 rintro _ w9 ⟨ra3,rc3,ra4,rc4,rfl,T2⟩
 have S9:Sep w [bgR (ac tb rb) ra3 rc3,bgR ((tb).aa) ra4 rc4,box b5 (bgC ((ta).aa) ra2 rc2) 107,box b4 (bgC (ac ta ra) ra1 rc1) 107,bgR (ac ta ra) ra1 rc1,bgR ((ta).aa) ra2 rc2,box b3 (aN t) 54,box b2 (aN tb) 54,box b1 (aN ta) 54] w9:=S8.trans T2
 refine J.nw 3 [] [(30,bgV ((tb).aa) ra4 rc4),(29,bgV (ac tb rb) ra3 rc3)] [] S9 15 [.bool false,.slice none 0 0] 107 fun b6 w10 S10=>J.nw 0 [] [] [] S10 16 [.bool false,.slice none 0 0] 107 fun b7 w11 S11=>J.sb 0 [] [] [] S11 1 rfl (bgC (ac tb rb) ra3 rc3) rfl fun w12 S12=>J.sb 0 [] [] [] S12 0 rfl (bgC ((tb).aa) ra4 rc4) rfl fun w13 S13=>J.lb 4 [] [(32,iv op)] [] S13 5 rfl 33 (bgV (ac ta ra) ra1 rc1)<|J.lb 0 [] [] [] S13 4 rfl 34 (bgV ((ta).aa) ra2 rc2)<|J.lb 0 [] [] [] S13 1 rfl 35 (bgV (ac tb rb) ra3 rc3)<|J.lb 0 [] [] [] S13 0 rfl 36 (bgV ((tb).aa) ra4 rc4) ?_
 have:=aC (S13.nth 6 rfl)
 have:=aC (S13.nth 7 rfl)
 have:=aC (S13.nth 2 rfl)
 have:=aC (S13.nth 3 rfl)
 refine J.cf 0 [] [] [] 37 hb145 (rexact_any op (ac ta ra) ra1 ((al (ac ta ra)).length) rc1 ((ta).aa) ra2 ((al ((ta).aa)).length) rc2 (ac tb rb) ra3 ((al (ac tb rb)).length) rc3 ((tb).aa) ra4 ((al ((tb).aa)).length) rc4 _ ((aD (S13.nth 6 rfl) ((al (ac ta ra)).length) rO)) ((aD (S13.nth 7 rfl) ((al ((ta).aa)).length) rO)) ((aD (S13.nth 2 rfl) ((al (ac tb rb)).length) rO)) ((aD (S13.nth 3 rfl) ((al ((tb).aa)).length) rO)) (ef fa ha) (ef fb hb) om) ?_
 rintro _ w14 ⟨ra5,rc5,ra6,rc6,rfl,T3⟩
 have S14:Sep w [bgR (cmN op (ac ta ra) ((ta).aa) (ac tb rb) ((tb).aa)) ra5 rc5,bgR (cmD op ((ta).aa) (ac tb rb) ((tb).aa)) ra6 rc6,box b7 (bgC ((tb).aa) ra4 rc4) 107,box b6 (bgC (ac tb rb) ra3 rc3) 107,bgR (ac tb rb) ra3 rc3,bgR ((tb).aa) ra4 rc4,box b5 (bgC ((ta).aa) ra2 rc2) 107,box b4 (bgC (ac ta ra) ra1 rc1) 107,bgR (ac ta ra) ra1 rc1,bgR ((ta).aa) ra2 rc2,box b3 (aN t) 54,box b2 (aN tb) 54,box b1 (aN ta) 54] w14:=S13.trans T3
 refine J.nw 3 [] [(39,bgV (cmD op ((ta).aa) (ac tb rb) ((tb).aa)) ra6 rc6),(38,bgV (cmN op (ac ta ra) ((ta).aa) (ac tb rb) ((tb).aa)) ra5 rc5)] [] S14 17 [.bool false,.slice none 0 0] 107 fun b8 w15 S15=>J.nw 0 [] [] [] S15 18 [.bool false,.slice none 0 0] 107 fun b9 w16 S16=>J.sb 0 [] [] [] S16 1 rfl (bgC (cmN op (ac ta ra) ((ta).aa) (ac tb rb) ((tb).aa)) ra5 rc5) rfl fun w17 S17=>J.sb 0 [] [] [] S17 0 rfl (bgC (cmD op ((ta).aa) (ac tb rb) ((tb).aa)) ra6 rc6) rfl fun w18 S18=>J.lb 3 [] [] [] S18 12 rfl 40 (.agg (aI t))<|J.lb 0 [] [] [] S18 1 rfl 41 (bgV (cmN op (ac ta ra) ((ta).aa) (ac tb rb) ((tb).aa)) ra5 rc5)<|J.lb 0 [] [] [] S18 0 rfl 42 (bgV (cmD op ((ta).aa) (ac tb rb) ((tb).aa)) ra6 rc6) ?_
 have:=aC (S18.nth 2 rfl)
 have:=aC (S18.nth 3 rfl)
 refine J.c0 0 [] [] [] S18 43 hb71 (rnear_any t (cmN op (ac ta ra) ((ta).aa) (ac tb rb) ((tb).aa)) ra5 ((al (cmN op (ac ta ra) ((ta).aa) (ac tb rb) ((tb).aa))).length) rc5 (cmD op ((ta).aa) (ac tb rb) ((tb).aa)) ra6 ((al (cmD op ((ta).aa) (ac tb rb) ((tb).aa))).length) rc6 _ (aw ht S18) ft (cm_ok (ef fa ha) (ef fb hb) ho hz) ((aD (S18.nth 2 rfl) ((al (cmN op (ac ta ra) ((ta).aa) (ac tb rb) ((tb).aa))).length) rO)) ((aD (S18.nth 3 rfl) ((al (cmD op ((ta).aa) (ac tb rb) ((tb).aa))).length) rO))) fun w19 S19=>J.e 2 [iv (dk (cmN op (ac ta ra) ((ta).aa) (ac tb rb) ((tb).aa)) (cmD op ((ta).aa) (ac tb rb) ((tb).aa)) t)] func111 (hR _ _ ?_)
 exact⟨rfl,S19.nil⟩

theorem hb144:af prog 144:=fun _ _=>by kernel_rfl

theorem rwithin_any (t:Fxd) (r:Int) (w:World) (ht:cA w t) (ft:bF t=true) (rt:inT t r):Ret prog 144 #[.agg (aI t),iv r] w (fun v w'=>v=.bool true∧Sep w [] w'):=by
 refine Ret.st (N:=20) func144 fun R hR S0=>?_
 obtain ⟨q1,q2,q3,q4,q5,q6,q7,q8,q9,_⟩:=id ht
 refine J.nw 2 [] [] [] S0 2 (aN t) 54 fun b1 w1 S1=>J.lb 4 [] [] [] S1 0 rfl 8 (.agg (aI t))<|J.c0 0 [] [] [] S1 9 hb112 (rlim_any t _ (aw ht S1) ft) fun w2 S2=>?_
 have hlim:=lim_bd (t)
 have fk2:r≥(bN t):=by omega
 refine J.h 12 [] [(6,iv (bR t))] [] 15 (.bool (decide (r≥(bN t)))) (.bool true) (congrArg Value.bool (decide_eq_true fk2))<|J.e 6 [.bool (decide (r≤(bR t)))] func144 (hR _ _ ?_)
 exact⟨congrArg Value.bool (decide_eq_true om),S2.nil⟩

theorem hb110:af prog 110:=fun _ _=>by kernel_rfl

theorem rvalid4_any (t:Fxd) (r:Int) (w:World) (ht:cA w t) (ft:bF t=true) (rt:inT t r):Ret prog 110 #[.agg (vlA t r)] w (fun v w'=>v=.bool true∧Sep w [] w'):=by
 refine Ret.st (N:=13) func110 fun R hR S0=>?_
 obtain ⟨q1,q2,q3,q4,q5,q6,q7,q8,q9,_⟩:=id ht
 refine J.nw 2 [] [] [] S0 1 (vlL t r) 102 fun b1 w1 S1=>J.lb 5 [] [] [] S1 0 rfl 4 (.agg (aI t))<|J.c0 0 [] [] [] S1 5 hb16 (rfxvalid_any t _ (aw ht S1)) fun w2 S2=>?_
 have fk2:(bF t)=true:=ft
 refine J.h 1 [] [] [] 6 (.bool (bF t)) (.bool true) (congrArg Value.bool fk2)<|J.lb 1 [] [] [] S2 0 rfl 8 (.agg (aI t))<|J.lb 1 [] [] [] S2 0 rfl 10 (iv r)<|J.c0 0 [] [] [] S2 11 hb144 (rwithin_any t r _ (aw ht S2) ft rt) fun w3 S3=>J.e 3 [.bool true] func110 (hR _ _ ?_)
 exact⟨rfl,S3.nil⟩

theorem hb68:af prog 68:=fun _ _=>by kernel_rfl

theorem rdo_any (op:Int) (ta:Fxd) (ra:Int) (tb:Fxd) (rb:Int) (t:Fxd) (w:World) (qa:cA w ta) (fa:bF ta=true) (ha:inT ta ra) (qb:cA w tb) (fb:bF tb=true) (hb:inT tb rb) (ht:cA w t) (ft:bF t=true) (ho:1≤op∧op≤4) (hf:fitOK op (az ta) (az tb) (az t)=true):Ret prog 68 #[iv op,.agg (vlA ta ra),.agg (vlA tb rb),.agg (aI t)] w (fun v w'=>v=.tuple #[.agg (vlA (es op tb rb t) (di op ta ra tb rb t)),iv (opE op tb rb)]∧Sep w [] w'):=by
 refine Ret.st (N:=75) func68 fun R hR S0=>?_
 obtain ⟨q1,q2,q3,q4,q5,q6,q7,q8,q9,_⟩:=id qa
 obtain ⟨q10,q11,q12,q13,q14,q15,q16,q17,q18,_⟩:=id qb
 obtain ⟨q19,q20,q21,q22,q23,q24,q25,q26,q27,_⟩:=id ht
 have hfp:=ew.1 fb
 have hlb:=lim_bd tb
 have hnb:=num_bd fb hb
 have hnd:ac tb rb=rb*tb.aT+tb.aF:=rfl
 obtain ⟨hu1,hu2⟩:=fit_units hf
 refine J.nw 2 [] [] [] S0 5 (vlL ta ra) 102 fun b1 w1 S1=>J.nw 0 [] [] [] S1 6 (vlL tb rb) 102 fun b2 w2 S2=>J.nw 0 [] [] [] S2 7 (aN t) 54 fun b3 w3 S3=>J.nw 0 [] [] [] S3 8 [iv 0,.bool false,iv 0,iv 0,iv 0,iv 0,iv 0,iv 0,iv 0,iv 0,iv 0] 102 fun b4 w4 S4=>J.lb 5 [] [] [] S4 3 rfl 12 (.agg (vlA ta ra))<|J.c0 0 [] [] [] S4 13 hb110 (rvalid4_any ta ra _ (aw qa S4) fa ha) fun w5 S5=>J.lb 2 [] [(15,.bool false)] [] S5 2 rfl 16 (.agg (vlA tb rb))<|J.c0 0 [] [] [] S5 17 hb110 (rvalid4_any tb rb _ (aw qb S5) fb hb) fun w6 S6=>J.lb 3 [] [(20,.bool false)] [] S6 1 rfl 21 (.agg (aI t))<|J.c0 0 [] [] [] S6 22 hb16 (rfxvalid_any t _ (aw ht S6)) fun w7 S7=>?_
 have fk2:(bF t)=true:=ft
 refine J.h 3 [] [] [] 24 (.bool (!(bF t))) (.bool false) (congrArg Value.bool (by rw[fk2];rfl))<|J.lb 8 [false] [(27,iv op)] [] S7 3 rfl 30 (.agg #[iv ta.ah,iv ta.ae,iv ta.ag,iv ta.aj,iv ta.ai])<|J.lb 2 [] [] [] S7 2 rfl 33 (.agg #[iv tb.ah,iv tb.ae,iv tb.ag,iv tb.aj,iv tb.ai])<|J.c0 0 [] [] [] S7 34 hb38 (runits_any op (⟨ta.ah,ta.ae,ta.ag,ta.aj,ta.ai⟩:Unt) (⟨tb.ah,tb.ae,tb.ag,tb.aj,tb.ai⟩:Unt) _) fun w8 S8=>J.nw 3 [] [(36,.bool (unRB op (⟨ta.ah,ta.ae,ta.ag,ta.aj,ta.ai⟩:Unt) (⟨tb.ah,tb.ae,tb.ag,tb.aj,tb.ai⟩:Unt))),(35,.agg (bD (dp op (⟨ta.ah,ta.ae,ta.ag,ta.aj,ta.ai⟩:Unt) (⟨tb.ah,tb.ae,tb.ag,tb.aj,tb.ai⟩:Unt))))] [] S8 10 [iv 0,iv 0,iv 0,iv 0,iv 0] 52 fun b5 w9 S9=>J.sb 0 [] [] [] S9 0 rfl (bu (dp op (⟨ta.ah,ta.ae,ta.ag,ta.aj,ta.ai⟩:Unt) (⟨tb.ah,tb.ae,tb.ag,tb.aj,tb.ai⟩:Unt))) rfl fun w10 S10=>?_
 have fk4:(unRB op (⟨ta.ah,ta.ae,ta.ag,ta.aj,ta.ai⟩:Unt) (⟨tb.ah,tb.ae,tb.ag,tb.aj,tb.ai⟩:Unt))=true:=hu1
 refine J.h 7 [] [] [] 39 (.bool (!(unRB op (⟨ta.ah,ta.ae,ta.ag,ta.aj,ta.ai⟩:Unt) (⟨tb.ah,tb.ae,tb.ag,tb.aj,tb.ai⟩:Unt)))) (.bool false) (congrArg Value.bool (by rw[fk4];rfl))<|J.lb 0 [] [] [] S10 0 rfl 40 (.agg (bD (dp op (⟨ta.ah,ta.ae,ta.ag,ta.aj,ta.ai⟩:Unt) (⟨tb.ah,tb.ae,tb.ag,tb.aj,tb.ai⟩:Unt))))<|J.lb 1 [] [] [] S10 2 rfl 42 (.agg #[iv t.ah,iv t.ae,iv t.ag,iv t.aj,iv t.ai])<|J.ok (OK.neUnt 43 (dp op (⟨ta.ah,ta.ae,ta.ag,ta.aj,ta.ai⟩:Unt) (⟨tb.ah,tb.ae,tb.ag,tb.aj,tb.ai⟩:Unt)) (az t) kr) ?_
 have fk6:(cj (dp op (⟨ta.ah,ta.ae,ta.ag,ta.aj,ta.ai⟩:Unt) (⟨tb.ah,tb.ae,tb.ag,tb.aj,tb.ai⟩:Unt)) (az t))=true:=hu2
 refine J.h 2 [] [] [] 44 (.bool (!(cj (dp op (⟨ta.ah,ta.ae,ta.ag,ta.aj,ta.ai⟩:Unt) (⟨tb.ah,tb.ae,tb.ag,tb.aj,tb.ai⟩:Unt)) (az t)))) (.bool false) (congrArg Value.bool (by rw[fk6];rfl))<|J.c 8 [false] [] [] 48 (op=4) (fun fk7=>?_) fun fk7=>?_
 refine J.lb 1 [] [] [] S10 3 rfl 50 (iv rb)<|J.lb 2 [] [] [] S10 3 rfl 53 (iv tb.aT)<|J.wi 1 [] [] [] 54 (rb*tb.aT)<|J.lb 2 [] [] [] S10 3 rfl 57 (iv tb.aF)<|J.h 1 [] [] [] 58 (iv (IntKind.wrap .i64 ((rb*tb.aT)+tb.aF))) (iv (ac tb rb)) (congrArg (Value.int .i64) (IntWalk.i64_in _ om))<|J.c 3 [] [] [] 60 ((ac tb rb)=0) (fun fk8=>?_) fun fk8=>?_
 refine J.sb 4 [true] [] [] S10 1 rfl [iv 0,.bool false,iv 0,iv 0,iv 0,iv 0,iv 0,iv 0,iv 0,iv 0,iv 0] rfl fun w11 S11=>J.ez 2 [.agg #[iv 0,.bool false,iv 0,iv 0,iv 0,iv 0,iv 0,iv 0,iv 0,iv 0,iv 0],iv 10] func68 (bk (S11.nth 1 rfl) bn) (hR _ _ ?_)
 obtain ⟨e1,e2,e3⟩:=op_zero (op:=op) (ta:=ta) (tb:=tb) (t:=t) (ra:=ra) (rb:=rb) om
 exact⟨by rw[e1,e2,e3];rfl,S11.nil⟩
 refine J.r 3 [false] [] []<|J.drawPlan (fun w_=>Sep w [box b5 (bu (dp op (⟨ta.ah,ta.ae,ta.ag,ta.aj,ta.ai⟩:Unt) (⟨tb.ah,tb.ae,tb.ag,tb.aj,tb.ai⟩:Unt))) 52,box b3 (aN t) 54,box b2 (vlL tb rb) 102,box b1 (vlL ta ra) 102] w_) [(0,true),(1,true),(2,true),(3,true),(4,true),(5,true),(6,true),(7,true),(8,true),(9,true),(10,true),(11,false),(12,true),(13,false),(14,true)] S10 Tryz.mixed kr (aE (T:=[(0,some 62,128),(0,some 63,1),(0,some 64,32),(4,some 65,18446744073709551616),(0,some 66,64),(16,some 67,73786976294838206464),(0,some 68,32),(64,some 69,295147905179352825856),(0,some 70,64),(256,some 71,1180591620717411303424),(0,some 72,128),(1706,some 73,7867536347437123764224),(2049,some 74,9449344651757717815296),(8191,none,18889465931478580855040),(16383,some 9,0)]) kr kr) ?_
 intro w12 S12
 refine PB.mk (S12.erase 1)<|PL.takeOK 0 (fun w_ S_=>OK.ldBox S_ 1 62 54 0 (.agg (aI t)) kr rfl kr) rfl<|PL.take 1 63 (iv op) (fun _ _=>kr)<|PL.take 2 64 (.pointer (some ⟨b1,10,none⟩)) (fun _ _=>kr)<|PL.takeOK 3 (fun w_ S_=>OK.ldBox S_ 3 65 3 10 (iv ra) kr rfl kr) rfl<|PL.take 4 66 (.pointer (some ⟨b2,10,none⟩)) (fun _ _=>kr)<|PL.takeOK 5 (fun w_ S_=>OK.ldBox S_ 2 67 3 10 (iv rb) kr rfl kr) rfl<|PL.take 6 68 (pv b1) (fun _ _=>kr)<|PL.takeOK 7 (fun w_ S_=>OK.ldBox S_ 3 69 54 0 (.agg (aI ta)) kr rfl kr) rfl<|PL.take 8 70 (pv b2) (fun _ _=>kr)<|PL.takeOK 9 (fun w_ S_=>OK.ldBox S_ 2 71 54 0 (.agg (aI tb)) kr rfl kr) rfl ?_
 refine PL.takeOK 10 (fun w_ S_=>OK.ldBox S_ 1 72 54 0 (.agg (aI t)) kr rfl kr) rfl<|PL.callF 73 111 #[iv op,iv ra,iv rb,.agg (aI ta),.agg (aI tb),.agg (aI t)] hb111 kr (rraw_any op ta ra tb rb t _ (aw qa S12) fa ha (aw qb S12) fb hb (aw ht S12) ft om om) ?_
 rintro _ w13 ⟨rfl,T1⟩
 have S13:Sep w [box b5 (bu (dp op (⟨ta.ah,ta.ae,ta.ag,ta.aj,ta.ai⟩:Unt) (⟨tb.ah,tb.ae,tb.ag,tb.aj,tb.ai⟩:Unt))) 52,box b4 [iv 0,.bool false,iv 0,iv 0,iv 0,iv 0,iv 0,iv 0,iv 0,iv 0,iv 0] 102,box b3 (aN t) 54,box b2 (vlL tb rb) 102,box b1 (vlL ta ra) 102] w13:=S12.trans T1
 clear T1 S12
 refine PB.mk (S13.erase 1)<|PL.take 12 74 (.agg (vlA t (opV op ta ra tb rb t))) (fun _ _=>kr)<|PL.stBox S13 1 102 0 (.agg (vlA t (opV op ta ra tb rb t))) (vlL t (opV op ta ra tb rb t)) [box b5 (bu (dp op (⟨ta.ah,ta.ae,ta.ag,ta.aj,ta.ai⟩:Unt) (⟨tb.ah,tb.ae,tb.ag,tb.aj,tb.ai⟩:Unt))) 52,box b4 (vlL t (opV op ta ra tb rb t)) 102,box b3 (aN t) 54,box b2 (vlL tb rb) 102,box b1 (vlL ta ra) 102] kr rfl kr kr rfl ?_
 intro w14 S14
 refine PB.mk (S14.erase 1)<|PL.take 14 9 (iv 0) (fun _ _=>kr)<|PL.done<|J.ez 0 [.agg (vlA t (opV op ta ra tb rb t)),iv 0] func68 (bk (S14.nth 1 rfl) bn) (hR _ _ ?_)
 obtain ⟨e1,e2,e3⟩:=op_fine (op:=op) (ta:=ta) (tb:=tb) (t:=t) (ra:=ra) (rb:=rb) om
 exact⟨by rw[e1,e2,e3];rfl,S14.nil⟩
 refine J.r 16 [false] [] []<|J.drawPlan (fun w_=>Sep w [box b5 (bu (dp op (⟨ta.ah,ta.ae,ta.ag,ta.aj,ta.ai⟩:Unt) (⟨tb.ah,tb.ae,tb.ag,tb.aj,tb.ai⟩:Unt))) 52,box b3 (aN t) 54,box b2 (vlL tb rb) 102,box b1 (vlL ta ra) 102] w_) [(0,true),(1,true),(2,true),(3,true),(4,true),(5,true),(6,true),(7,true),(8,true),(9,true),(10,true),(11,false),(12,true),(13,false),(14,true)] S10 Tryz.mixed kr (aE (T:=[(0,some 62,128),(0,some 63,1),(0,some 64,32),(4,some 65,18446744073709551616),(0,some 66,64),(16,some 67,73786976294838206464),(0,some 68,32),(64,some 69,295147905179352825856),(0,some 70,64),(256,some 71,1180591620717411303424),(0,some 72,128),(1706,some 73,7867536347437123764224),(2049,some 74,9449344651757717815296),(8191,none,18889465931478580855040),(16383,some 9,0)]) kr kr) ?_
 intro w15 S15
 refine PB.mk (S15.erase 1)<|PL.takeOK 0 (fun w_ S_=>OK.ldBox S_ 1 62 54 0 (.agg (aI t)) kr rfl kr) rfl<|PL.take 1 63 (iv op) (fun _ _=>kr)<|PL.take 2 64 (.pointer (some ⟨b1,10,none⟩)) (fun _ _=>kr)<|PL.takeOK 3 (fun w_ S_=>OK.ldBox S_ 3 65 3 10 (iv ra) kr rfl kr) rfl<|PL.take 4 66 (.pointer (some ⟨b2,10,none⟩)) (fun _ _=>kr)<|PL.takeOK 5 (fun w_ S_=>OK.ldBox S_ 2 67 3 10 (iv rb) kr rfl kr) rfl<|PL.take 6 68 (pv b1) (fun _ _=>kr)<|PL.takeOK 7 (fun w_ S_=>OK.ldBox S_ 3 69 54 0 (.agg (aI ta)) kr rfl kr) rfl<|PL.take 8 70 (pv b2) (fun _ _=>kr)<|PL.takeOK 9 (fun w_ S_=>OK.ldBox S_ 2 71 54 0 (.agg (aI tb)) kr rfl kr) rfl ?_
 refine PL.takeOK 10 (fun w_ S_=>OK.ldBox S_ 1 72 54 0 (.agg (aI t)) kr rfl kr) rfl<|PL.callF 73 111 #[iv op,iv ra,iv rb,.agg (aI ta),.agg (aI tb),.agg (aI t)] hb111 kr (rraw_any op ta ra tb rb t _ (aw qa S15) fa ha (aw qb S15) fb hb (aw ht S15) ft om om) ?_
 rintro _ w16 ⟨rfl,T2⟩
 have S16:Sep w [box b5 (bu (dp op (⟨ta.ah,ta.ae,ta.ag,ta.aj,ta.ai⟩:Unt) (⟨tb.ah,tb.ae,tb.ag,tb.aj,tb.ai⟩:Unt))) 52,box b4 [iv 0,.bool false,iv 0,iv 0,iv 0,iv 0,iv 0,iv 0,iv 0,iv 0,iv 0] 102,box b3 (aN t) 54,box b2 (vlL tb rb) 102,box b1 (vlL ta ra) 102] w16:=S15.trans T2
 clear T2 S15
 refine PB.mk (S16.erase 1)<|PL.take 12 74 (.agg (vlA t (opV op ta ra tb rb t))) (fun _ _=>kr)<|PL.stBox S16 1 102 0 (.agg (vlA t (opV op ta ra tb rb t))) (vlL t (opV op ta ra tb rb t)) [box b5 (bu (dp op (⟨ta.ah,ta.ae,ta.ag,ta.aj,ta.ai⟩:Unt) (⟨tb.ah,tb.ae,tb.ag,tb.aj,tb.ai⟩:Unt))) 52,box b4 (vlL t (opV op ta ra tb rb t)) 102,box b3 (aN t) 54,box b2 (vlL tb rb) 102,box b1 (vlL ta ra) 102] kr rfl kr kr rfl ?_
 intro w17 S17
 refine PB.mk (S17.erase 1)<|PL.take 14 9 (iv 0) (fun _ _=>kr)<|PL.done<|J.ez 0 [.agg (vlA t (opV op ta ra tb rb t)),iv 0] func68 (bk (S17.nth 1 rfl) bn) (hR _ _ ?_)
 obtain ⟨e1,e2,e3⟩:=op_fine (op:=op) (ta:=ta) (tb:=tb) (t:=t) (ra:=ra) (rb:=rb) om
 exact⟨by rw[e1,e2,e3];rfl,S17.nil⟩

theorem hb74:af prog 74:=fun _ _=>by kernel_rfl

theorem rcmp_any (ta:Fxd) (ra:Int) (tb:Fxd) (rb:Int) (w:World) (qa:cA w ta) (fa:bF ta=true) (ha:inT ta ra) (qb:cA w tb) (fb:bF tb=true) (hb:inT tb rb):Ret prog 74 #[.agg (vlA ta ra),.agg (vlA tb rb)] w (fun v w'=>v=iv (sgnI (ac ta ra*tb.aa+ -(ac tb rb*ta.aa)))∧Sep w [] w'):=by
 refine Ret.st (N:=34) func74 fun R hR S0=>?_
 obtain ⟨q1,q2,q3,q4,q5,q6,q7,q8,q9,_⟩:=id qa
 obtain ⟨q10,q11,q12,q13,q14,q15,q16,q17,q18,_⟩:=id qb
 have hoa:=ef fa ha
 have hob:=ef fb hb
 have hp0:=cL (x:=ac ta ra) (y:=tb.aa) 4503600701112320 1048576 om om
 have hp1:=cL (x:=ac tb rb) (y:=ta.aa) 4503600701112320 1048576 om om
 refine J.nw 2 [] [] [] S0 2 (vlL ta ra) 102 fun b1 w1 S1=>J.nw 0 [] [] [] S1 3 (vlL tb rb) 102 fun b2 w2 S2=>J.lb 5 [] [] [] S2 1 rfl 11 (.agg (aI ta))<|J.lb 1 [] [] [] S2 1 rfl 13 (iv ra)<|J.cf 0 [] [] [] 14 hb70 (dU ta ra _ (aw qa S2) fa ha) ?_
 rintro _ w3 ⟨ra1,rc1,ra2,rc2,rfl,T1⟩
 have S3:Sep w [bgR (ac ta ra) ra1 rc1,bgR ((ta).aa) ra2 rc2,box b2 (vlL tb rb) 102,box b1 (vlL ta ra) 102] w3:=S2.trans T1
 refine J.nw 3 [] [(16,bgV ((ta).aa) ra2 rc2),(15,bgV (ac ta ra) ra1 rc1)] [] S3 5 [.bool false,.slice none 0 0] 107 fun b3 w4 S4=>J.nw 0 [] [] [] S4 6 [.bool false,.slice none 0 0] 107 fun b4 w5 S5=>J.sb 0 [] [] [] S5 1 rfl (bgC (ac ta ra) ra1 rc1) rfl fun w6 S6=>J.sb 0 [] [] [] S6 0 rfl (bgC ((ta).aa) ra2 rc2) rfl fun w7 S7=>J.lb 4 [] [] [] S7 4 rfl 19 (.agg (aI tb))<|J.lb 1 [] [] [] S7 4 rfl 21 (iv rb)<|J.cf 0 [] [] [] 22 hb70 (dU tb rb _ (aw qb S7) fb hb) ?_
 rintro _ w8 ⟨ra3,rc3,ra4,rc4,rfl,T2⟩
 have S8:Sep w [bgR (ac tb rb) ra3 rc3,bgR ((tb).aa) ra4 rc4,box b4 (bgC ((ta).aa) ra2 rc2) 107,box b3 (bgC (ac ta ra) ra1 rc1) 107,bgR (ac ta ra) ra1 rc1,bgR ((ta).aa) ra2 rc2,box b2 (vlL tb rb) 102,box b1 (vlL ta ra) 102] w8:=S7.trans T2
 refine J.nw 3 [] [(24,bgV ((tb).aa) ra4 rc4),(23,bgV (ac tb rb) ra3 rc3)] [] S8 7 [.bool false,.slice none 0 0] 107 fun b5 w9 S9=>J.nw 0 [] [] [] S9 8 [.bool false,.slice none 0 0] 107 fun b6 w10 S10=>J.sb 0 [] [] [] S10 1 rfl (bgC (ac tb rb) ra3 rc3) rfl fun w11 S11=>J.sb 0 [] [] [] S11 0 rfl (bgC ((tb).aa) ra4 rc4) rfl fun w12 S12=>J.r 2 [] [] []<|J.drawPlan (fun w_=>Sep w [box b6 (bgC ((tb).aa) ra4 rc4) 107,box b5 (bgC (ac tb rb) ra3 rc3) 107,bgR (ac tb rb) ra3 rc3,bgR ((tb).aa) ra4 rc4,box b4 (bgC ((ta).aa) ra2 rc2) 107,box b3 (bgC (ac ta ra) ra1 rc1) 107,bgR (ac ta ra) ra1 rc1,bgR ((ta).aa) ra2 rc2,box b2 (vlL tb rb) 102,box b1 (vlL ta ra) 102] w_) [(0,true),(1,true),(3,true),(4,true),(2,false),(5,false),(6,false),(7,false),(8,false),(9,true)] S12 Tryz.mixed kr (aE (T:=[(0,some 25,32),(0,some 26,256),(3,some 27,100663296),(0,some 28,128),(0,some 29,64),(28,some 30,805306368),(32,some 31,1073741824),(68,some 32,2281701376),(128,some 33,4294967296),(511,some 4,8589934592)]) kr kr) ?_
 intro w13 S13
 refine PB.mk S13<|PL.takeOK 0 (fun w_ S_=>OK.ldBox S_ 5 25 107 0 (bgV (ac ta ra) ra1 rc1) kr rfl kr) rfl<|PL.takeOK 1 (fun w_ S_=>OK.ldBox S_ 0 26 107 0 (bgV ((tb).aa) ra4 rc4) kr rfl kr) rfl<|PL.takeOK 3 (fun w_ S_=>OK.ldBox S_ 1 28 107 0 (bgV (ac tb rb) ra3 rc3) kr rfl kr) rfl<|PL.takeOK 4 (fun w_ S_=>OK.ldBox S_ 4 29 107 0 (bgV ((ta).aa) ra2 rc2) kr rfl kr) rfl ?_
 have:=aC (S13.nth 6 rfl)
 have:=aC (S13.nth 3 rfl)
 refine PL.callF 27 115 #[bgV (ac ta ra) ra1 rc1,bgV ((tb).aa) ra4 rc4] dC kr (bH (ac ta ra) ((tb).aa) ra1 ((al (ac ta ra)).length) rc1 ra4 ((al ((tb).aa)).length) rc4 _ ((aD (S13.nth 6 rfl) ((al (ac ta ra)).length) rO)) cO ((aD (S13.nth 3 rfl) ((al ((tb).aa)).length) rO)) cO) ?_
 rintro _ w14 ⟨ra5,rc5,rfl,T3⟩
 have S14:Sep w [bgR ((ac ta ra)*((tb).aa)) ra5 rc5,box b6 (bgC ((tb).aa) ra4 rc4) 107,box b5 (bgC (ac tb rb) ra3 rc3) 107,bgR (ac tb rb) ra3 rc3,bgR ((tb).aa) ra4 rc4,box b4 (bgC ((ta).aa) ra2 rc2) 107,box b3 (bgC (ac ta ra) ra1 rc1) 107,bgR (ac ta ra) ra1 rc1,bgR ((ta).aa) ra2 rc2,box b2 (vlL tb rb) 102,box b1 (vlL ta ra) 102] w14:=S13.trans T3
 clear T3 S13
 refine PB.mk (S14.erase 0) ?_
 have:=aC (S14.nth 3 rfl)
 have:=aC (S14.nth 8 rfl)
 refine PL.callF 30 115 #[bgV (ac tb rb) ra3 rc3,bgV ((ta).aa) ra2 rc2] dC kr (bH (ac tb rb) ((ta).aa) ra3 ((al (ac tb rb)).length) rc3 ra2 ((al ((ta).aa)).length) rc2 _ ((aD (S14.nth 3 rfl) ((al (ac tb rb)).length) rO)) cO ((aD (S14.nth 8 rfl) ((al ((ta).aa)).length) rO)) cO) ?_
 rintro _ w15 ⟨ra6,rc6,rfl,T4⟩
 have S15:Sep w [bgR ((ac tb rb)*((ta).aa)) ra6 rc6,bgR ((ac ta ra)*((tb).aa)) ra5 rc5,box b6 (bgC ((tb).aa) ra4 rc4) 107,box b5 (bgC (ac tb rb) ra3 rc3) 107,bgR (ac tb rb) ra3 rc3,bgR ((tb).aa) ra4 rc4,box b4 (bgC ((ta).aa) ra2 rc2) 107,box b3 (bgC (ac ta ra) ra1 rc1) 107,bgR (ac ta ra) ra1 rc1,bgR ((ta).aa) ra2 rc2,box b2 (vlL tb rb) 102,box b1 (vlL ta ra) 102] w15:=S14.trans T4
 clear T4 S14
 refine PB.mk ((S15.erase 1).erase 0) ?_
 have:=aC (S15.nth 0 rfl)
 refine PL.callF 31 72 #[bgV ((ac tb rb)*((ta).aa)) ra6 rc6] hb72 kr (ee ((ac tb rb)*((ta).aa)) ra6 ((al ((ac tb rb)*((ta).aa))).length) rc6 _ ((aD (S15.nth 0 rfl) ((al ((ac tb rb)*((ta).aa))).length) rO))) ?_
 rintro _ w16 ⟨rfl,T5⟩
 have S16:Sep w [bgR ((ac tb rb)*((ta).aa)) ra6 rc6,bgR ((ac ta ra)*((tb).aa)) ra5 rc5,box b6 (bgC ((tb).aa) ra4 rc4) 107,box b5 (bgC (ac tb rb) ra3 rc3) 107,bgR (ac tb rb) ra3 rc3,bgR ((tb).aa) ra4 rc4,box b4 (bgC ((ta).aa) ra2 rc2) 107,box b3 (bgC (ac ta ra) ra1 rc1) 107,bgR (ac ta ra) ra1 rc1,bgR ((ta).aa) ra2 rc2,box b2 (vlL tb rb) 102,box b1 (vlL ta ra) 102] w16:=S15.trans T5
 clear T5 S15
 refine PB.mk ((S16.erase 1).erase 0) ?_
 have:=aC (S16.nth 1 rfl)
 have:=aC (S16.nth 0 rfl)
 refine PL.callF 32 114 #[bgV ((ac ta ra)*((tb).aa)) ra5 rc5,.agg #[.bool (decide ((-((ac tb rb)*((ta).aa)))<0)),.slice ra6 ((al ((ac tb rb)*((ta).aa))).length) rc6]] hb114 kr (radd_any ((ac ta ra)*((tb).aa)) (-((ac tb rb)*((ta).aa))) ra5 ((al ((ac ta ra)*((tb).aa))).length) rc5 ra6 ((al ((ac tb rb)*((ta).aa))).length) rc6 _ ((aD (S16.nth 1 rfl) ((al ((ac ta ra)*((tb).aa))).length) rO)) cO (by rw[cY];exact(aD (S16.nth 0 rfl) ((al ((ac tb rb)*((ta).aa))).length) rO)) cO) ?_
 rintro _ w17 ⟨ra7,rc7,rfl,T6⟩
 have S17:Sep w [bgR (((ac ta ra)*((tb).aa))+(-((ac tb rb)*((ta).aa)))) ra7 rc7,bgR ((ac tb rb)*((ta).aa)) ra6 rc6,bgR ((ac ta ra)*((tb).aa)) ra5 rc5,box b6 (bgC ((tb).aa) ra4 rc4) 107,box b5 (bgC (ac tb rb) ra3 rc3) 107,bgR (ac tb rb) ra3 rc3,bgR ((tb).aa) ra4 rc4,box b4 (bgC ((ta).aa) ra2 rc2) 107,box b3 (bgC (ac ta ra) ra1 rc1) 107,bgR (ac ta ra) ra1 rc1,bgR ((ta).aa) ra2 rc2,box b2 (vlL tb rb) 102,box b1 (vlL ta ra) 102] w17:=S16.trans T6
 clear T6 S16
 refine PB.mk (((S17.erase 2).erase 1).erase 0) ?_
 have:=aC (S17.nth 0 rfl)
 refine PL.callF 33 116 #[bgV (((ac ta ra)*((tb).aa))+(-((ac tb rb)*((ta).aa)))) ra7 rc7] hb116 kr (rsign_any (((ac ta ra)*((tb).aa))+(-((ac tb rb)*((ta).aa)))) ra7 ((al (((ac ta ra)*((tb).aa))+(-((ac tb rb)*((ta).aa))))).length) rc7 _ ((aD (S17.nth 0 rfl) ((al (((ac ta ra)*((tb).aa))+(-((ac tb rb)*((ta).aa))))).length) rO))) ?_
 rintro _ w18 ⟨rfl,T7⟩
 have S18:Sep w [bgR (((ac ta ra)*((tb).aa))+(-((ac tb rb)*((ta).aa)))) ra7 rc7,bgR ((ac tb rb)*((ta).aa)) ra6 rc6,bgR ((ac ta ra)*((tb).aa)) ra5 rc5,box b6 (bgC ((tb).aa) ra4 rc4) 107,box b5 (bgC (ac tb rb) ra3 rc3) 107,bgR (ac tb rb) ra3 rc3,bgR ((tb).aa) ra4 rc4,box b4 (bgC ((ta).aa) ra2 rc2) 107,box b3 (bgC (ac ta ra) ra1 rc1) 107,bgR (ac ta ra) ra1 rc1,bgR ((ta).aa) ra2 rc2,box b2 (vlL tb rb) 102,box b1 (vlL ta ra) 102] w18:=S17.trans T7
 clear T7 S17
 refine PB.mk (((S18.erase 2).erase 1).erase 0)<|PL.take 9 4 (iv (sgnI (((ac ta ra)*((tb).aa))+(-((ac tb rb)*((ta).aa)))))) (fun _ _=>kr)<|PL.done<|J.e 0 [iv (sgnI (((ac ta ra)*((tb).aa))+(-((ac tb rb)*((ta).aa)))))] func74 (hR _ _ ?_)
 exact⟨rfl,(((S18.erase 2).erase 1).erase 0).nil⟩

end Go.Proofs.YtaoolgcddapegaaGreat

namespace Go.Proofs.YtaoolgcddapegaaGreat
open Go.Eng Go.RowKit Go.Proofs.Tryz
set_option maxRecDepth 20000
set_option maxHeartbeats 20000000
abbrev eA (p:Prg) (i:Ins):Fxd:=List.getD p.av (i.gK/16384).toNat fx0
abbrev eB (p:Prg) (i:Ins):Fxd:=List.getD p.av (i.gK/128%128).toNat fx0
abbrev eC (p:Prg) (i:Ins):Fxd:=List.getD p.av (i.gK%128).toNat fx0
abbrev gX (rs:List Int) (i:Ins):Int:=List.getD rs i.gB.toNat 0
abbrev gY (rs:List Int) (i:Ins):Int:=List.getD rs i.gC.toNat 0
theorem lagB_facts {y r sh:Int} (h:lagB y r sh=true):(-1099511627776≤y∧y≤1099511627776)∧0≤r∧r<2^sh.toNat:=by
  unfold lagB at h;simp only[Bool.and_eq_true,decide_eq_true_eq] at h;exact⟨h.1.1,h.1.2,h.2⟩
theorem ar_less2 {ta tb t:Fxd} {x y:Int}:arV 13 ta tb t x y=dH (decide (sgnI (ac ta (ab ta x)*tb.aa+ -(ac tb (ab tb y)*ta.aa))<0)):=by
  unfold arV dH arN
  rw[if_neg om,if_neg om,if_pos rfl]
  by_cases h:ac ta (ab ta x)*tb.aa<ac tb (ab tb y)*ta.aa
  · rw[if_pos h,decide_eq_true (sgn_lt.2 om)];rfl
  · rw[if_neg h,decide_eq_false (mt sgn_lt.1 om)];rfl
theorem ar_eq2 {ta tb t:Fxd} {x y:Int}:arV 14 ta tb t x y=dH (sgnI (ac ta (ab ta x)*tb.aa+ -(ac tb (ab tb y)*ta.aa))==0):=by
  unfold arV dH arN
  rw[if_neg om,if_neg om,if_neg om,if_pos rfl]
  by_cases h:ac ta (ab ta x)*tb.aa=ac tb (ab tb y)*ta.aa
  · rw[if_pos h,beq_iff_eq.2 (sgn_zero.2 om)];rfl
  · rw[if_neg h,beq_eq_false_iff_ne.2 (mt sgn_zero.1 om)];rfl
theorem ty_el {p:Prg} {i:Ins} (hv:bX p=true) (hl:p.av.length=p.am) (hf:cN p i=true) (ht:ec i.gOp) (hk:0≤i.gK) :
    (tyA p i.gOp i.gK=eA p i∧bF (eA p i)=true∧i.gK/16384<(p.am:Int)) ∧
    (i.gOp≠9∧i.gOp≠10→tyB p i.gOp i.gK=eB p i∧bF (eB p i)=true∧i.gK/128%128<(p.am:Int)) ∧
    (i.gOp≠13∧i.gOp≠14→tyC p i.gOp i.gK=eC p i∧bF (eC p i)=true∧i.gK%128<(p.am:Int)) ∧
    cQ i.gOp (az (tyA p i.gOp i.gK)) (az (tyB p i.gOp i.gK)) (az (tyC p i.gOp i.gK))=true:=by
  obtain ⟨hok,hu⟩:=fits_typed hf ht
  obtain ⟨e1,e2,e3⟩:=ty_yes hok
  have h:=dD.1 hok
  have ha:=(ci hv).2.1
  refine⟨⟨e1,tyN_fix ha hl om om,om⟩,fun h2=>?_,fun h3=>?_,hu⟩
  · rw[if_pos h2] at e2;exact⟨e2,tyN_fix ha hl om om,om⟩
  · rw[if_pos h3] at e3;exact⟨e3,tyN_fix ha hl om om,om⟩
theorem ok_pos {t:Fxd} {x:Int} (h:bF t=true):okC (ac t (ab t x)) t.aa:=by have:=ef h (bw t x);constructor<;>omega
theorem ok_neg {t:Fxd} {x:Int} (h:bF t=true):okC (-(ac t (ab t x))) t.aa:=by have:=ef h (bw t x);constructor<;>omega

theorem hb69:af prog 69:=fun _ _=>by kernel_rfl

theorem bT (t:Fxd) (r:Int) (w:World) (ht:cA w t) (ft:bF t=true):Ret prog 69 #[.agg (aI t),iv r] w (fun v w'=>v=.agg (vlA t (ab t r))∧Sep w [] w'):=by
 refine Ret.st (N:=18) func69 fun R hR S0=>?_
 obtain ⟨q1,q2,q3,q4,q5,q6,q7,q8,q9,_⟩:=id ht
 refine J.nw 2 [] [] [] S0 2 (aN t) 54 fun b1 w1 S1=>J.nw 0 [] [] [] S1 4 [iv 0,.bool false,iv 0,iv 0,iv 0,iv 0,iv 0,iv 0,iv 0,iv 0,iv 0] 102 fun b2 w2 S2=>J.lb 3 [] [] [] S2 1 rfl 8 (.agg (aI t))<|J.c0 0 [] [] [] S2 9 hb112 (rlim_any t _ (aw ht S2) ft) fun w3 S3=>?_
 have hlim:=lim_bd (t)
 refine J.r 7 [] [(6,iv (bR t)),(5,iv (bN t))] []<|J.drawPlan (fun w_=>Sep w [box b1 (aN t) 54] w_) [(0,true),(1,true),(2,true),(3,true),(4,false),(5,true),(6,false)] S3 Tryz.mixed kr (aE (T:=[(0,some 12,4),(0,some 13,2),(0,some 14,32),(0,some 15,64),(14,some 16,57344),(17,some 17,69632),(63,none,131088)]) kr kr) ?_
 intro w4 S4
 refine PB.mk (S4.erase 0)<|PL.takeOK 0 (fun w_ S_=>OK.ldBox S_ 0 12 54 0 (.agg (aI t)) kr rfl kr) rfl<|PL.take 1 13 (iv r) (fun _ _=>kr)<|PL.take 2 14 (iv (bN t)) (fun _ _=>kr)<|PL.take 3 15 (iv (bR t)) (fun _ _=>kr)<|PL.callF 16 79 #[iv r,iv (bN t),iv (bR t)] hb79 kr (rclamp_any r (bN t) (bR t) _) ?_
 rintro _ w5 ⟨rfl,T1⟩
 have S5:Sep w [box b2 [iv 0,.bool false,iv 0,iv 0,iv 0,iv 0,iv 0,iv 0,iv 0,iv 0,iv 0] 102,box b1 (aN t) 54] w5:=S4.trans T1
 clear T1 S4
 refine PB.mk (S5.erase 0)<|PL.take 5 17 (.agg (vlA t (min (max r (bN t)) (bR t)))) (fun _ _=>kr)<|PL.stBox S5 0 102 0 (.agg (vlA t (min (max r (bN t)) (bR t)))) (vlL t (min (max r (bN t)) (bR t))) [box b2 (vlL t (min (max r (bN t)) (bR t))) 102,box b1 (aN t) 54] kr rfl kr kr rfl ?_
 intro w6 S6
 refine PB.mk (S6.erase 0)<|PL.done<|J.ez 0 [.agg (vlA t (min (max r (bN t)) (bR t)))] func69 (bk (S6.nth 0 rfl) bn) (hR _ _ ?_)
 exact⟨rfl,S6.nil⟩

theorem hb73:af prog 73:=fun _ _=>by kernel_rfl

theorem eL (b:Bool) (w:World):Ret prog 73 #[.bool b] w (fun v w'=>v=iv (dH b)∧Sep w [] w'):=by
 refine Ret.st (N:=4) func73 fun R hR S0=>J.b 9 [] [] [] 3 b (fun fk1=>?_) fun fk1=>?_
 refine J.e 5 [iv 1] func73 (hR _ _ ?_)
 exact⟨congrArg (Value.int .i64) (by unfold dH;rw[fk1];rfl),S0.nil⟩
 refine J.e 6 [iv 0] func73 (hR _ _ ?_)
 exact⟨congrArg (Value.int .i64) (by unfold dH;rw[fk1];rfl),S0.nil⟩

theorem hb119:af prog 119:=fun _ _=>by kernel_rfl

theorem rvalue7_any (x:Int) (w:World):Ret prog 119 #[iv x] w (fun v w'=>v=.bool (decide (-1099511627776≤x∧x≤1099511627776))∧Sep w [] w'):=by
 refine Ret.st (N:=9) func119 fun R hR S0=>J.c 9 [] [] [] 5 (x≥(-1099511627776)) (fun fk1=>?_) fun fk1=>?_
 refine J.e 5 [.bool (decide (x≤1099511627776))] func119 (hR _ _ ?_)
 exact⟨congrArg Value.bool (by rw[Bool.eq_iff_iff];simp;omega),S0.nil⟩
 refine J.e 5 [.bool false] func119 (hR _ _ ?_)
 exact⟨congrArg Value.bool (by rw[Bool.eq_iff_iff];simp;omega),S0.nil⟩

theorem hb77:af prog 77:=fun _ _=>by kernel_rfl

theorem rvallag_any (y r sh:Int) (w:World) (hs:0≤sh∧sh≤20):Ret prog 77 #[.agg #[iv y,iv r],iv sh] w (fun v w'=>v=.bool (lagB y r sh)∧Sep w [] w'):=by
 refine Ret.st (N:=20) func77 fun R hR S0=>?_
 have hp20:=pow_20 sh hs
 refine J.nw 2 [] [] [] S0 2 [iv y,iv r] 114 fun b1 w1 S1=>J.r 3 [] [] [] ?_
 rcases Bool.eq_false_or_eq_true (decide (-1099511627776≤y∧y≤1099511627776)) with fk1 | fk1
 have fb1:=of_decide_eq_true fk1
 by_cases fk2:r≥0
 refine J.drawPlan (fun w_=>Sep w [box b1 [iv y,iv r] 114] w_) [(0,true),(1,true),(2,false),(3,true),(4,true),(5,true),(6,true),(7,true),(8,true),(9,true),(10,true),(11,true),(12,true),(13,true),(14,true),(15,true)] S1 Tryz.mixed kr (aE (T:=[(0,some 5,4),(1,some 6,32),(2,some 7,64),(4,some 8,128),(8,some 9,260),(24,some 10,768),(40,some 11,1280),(72,some 12,2304),(136,some 13,4096),(256,some 14,8196),(768,some 15,24576),(256,some 16,8194),(2304,some 17,73728),(5376,some 18,172032),(8448,some 19,270336),(32767,some 4,524288)]) kr kr) ?_
 intro w2 S2
 refine PB.mk S2<|PL.take 0 5 (pv b1) (fun _ _=>kr)<|PL.takeOK 1 (fun w_ S_=>OK.ldBox S_ 0 6 3 0 (iv y) kr rfl kr) rfl<|PL.callF 7 119 #[iv y] hb119 kr (rvalue7_any y _) ?_
 rintro _ w3 ⟨rfl,T1⟩
 have S3:Sep w [box b1 [iv y,iv r] 114] w3:=S2.trans T1
 clear T1 S2
 refine PB.head (.bool true) (congrArg Value.bool fk1)<|PB.mk S3<|PL.take 3 8 (.bool true) (fun _ _=>kr)<|PL.take 4 9 (.pointer (some ⟨b1,1,none⟩)) (fun _ _=>kr)<|PL.takeOK 5 (fun w_ S_=>OK.ldBox S_ 0 10 3 1 (iv r) kr rfl kr) rfl<|PL.take 6 11 (.bool (decide (r≥0))) (fun _ _=>kr)<|PL.head (.bool true) (congrArg Value.bool (decide_eq_true fk2))<|PL.take 7 12 (.bool true) (fun _ _=>kr)<|PL.take 8 13 (.bool true) (fun _ _=>kr)<|PL.take 9 14 (.pointer (some ⟨b1,1,none⟩)) (fun _ _=>kr)<|PL.takeOK 10 (fun w_ S_=>OK.ldBox S_ 0 15 3 1 (iv r) kr rfl kr) rfl ?_
 refine PL.take 11 16 (iv sh) (fun _ _=>kr)<|PL.takeOK 12 (fun w_ S_=>OK.shl 17 .i64 1 sh (2^(sh).toNat) kr om ((by rw[lim_shl om om,Int.one_mul]))) rfl<|PL.take 13 18 (.bool (decide (r<(2^(sh).toNat)))) (fun _ _=>kr)<|PL.take 14 19 (.bool (decide (r<(2^(sh).toNat)))) (fun _ _=>kr)<|PL.take 15 4 (.bool (decide (r<(2^(sh).toNat)))) (fun _ _=>kr)<|PL.done<|J.e 0 [.bool (decide (r<(2^(sh).toNat)))] func77 (hR _ _ ?_)
 exact⟨congrArg Value.bool (by unfold lagB;rw[decide_eq_true (show -1099511627776≤y∧y≤1099511627776 by omega),decide_eq_true (show 0≤r by omega)];rfl),S3.nil⟩
 refine J.drawPlan (fun w_=>Sep w [box b1 [iv y,iv r] 114] w_) [(0,true),(1,true),(2,false),(3,true),(4,true),(5,true),(6,true),(7,true),(8,true),(9,true),(10,true),(11,true),(12,true),(13,true),(14,true),(15,true)] S1 Tryz.mixed kr (aE (T:=[(0,some 5,4),(1,some 6,32),(2,some 7,64),(4,some 8,128),(8,some 9,260),(24,some 10,768),(40,some 11,1280),(72,some 12,2304),(136,some 13,4096),(256,some 14,8196),(768,some 15,24576),(256,some 16,8194),(2304,some 17,73728),(5376,some 18,172032),(8448,some 19,270336),(32767,some 4,524288)]) kr kr) ?_
 intro w4 S4
 refine PB.mk S4<|PL.take 0 5 (pv b1) (fun _ _=>kr)<|PL.takeOK 1 (fun w_ S_=>OK.ldBox S_ 0 6 3 0 (iv y) kr rfl kr) rfl<|PL.callF 7 119 #[iv y] hb119 kr (rvalue7_any y _) ?_
 rintro _ w5 ⟨rfl,T2⟩
 have S5:Sep w [box b1 [iv y,iv r] 114] w5:=S4.trans T2
 clear T2 S4
 refine PB.head (.bool true) (congrArg Value.bool fk1)<|PB.mk S5<|PL.take 3 8 (.bool true) (fun _ _=>kr)<|PL.take 4 9 (.pointer (some ⟨b1,1,none⟩)) (fun _ _=>kr)<|PL.takeOK 5 (fun w_ S_=>OK.ldBox S_ 0 10 3 1 (iv r) kr rfl kr) rfl<|PL.take 6 11 (.bool (decide (r≥0))) (fun _ _=>kr)<|PL.head (.bool false) (congrArg Value.bool (decide_eq_false fk2))<|PL.take 7 12 (.bool false) (fun _ _=>kr)<|PL.take 8 13 (.bool false) (fun _ _=>kr)<|PL.takePass 9 (some 14) kr<|PL.takePass 10 (some 15) kr ?_
 refine PL.takePass 11 (some 16) kr<|PL.takePass 12 (some 17) kr<|PL.takePass 13 (some 18) kr<|PL.take 14 19 (.bool false) (fun _ _=>kr)<|PL.take 15 4 (.bool false) (fun _ _=>kr)<|PL.done<|J.e 0 [.bool false] func77 (hR _ _ ?_)
 exact⟨congrArg Value.bool (lagB_no om).symm,S5.nil⟩
 have fb2:=of_decide_eq_false fk1
 refine J.drawPlan (fun w_=>Sep w [box b1 [iv y,iv r] 114] w_) [(0,true),(1,true),(2,false),(3,true),(4,true),(5,true),(6,true),(7,true),(8,true),(9,true),(10,true),(11,true),(12,true),(13,true),(14,true),(15,true)] S1 Tryz.mixed kr (aE (T:=[(0,some 5,4),(1,some 6,32),(2,some 7,64),(4,some 8,128),(8,some 9,260),(24,some 10,768),(40,some 11,1280),(72,some 12,2304),(136,some 13,4096),(256,some 14,8196),(768,some 15,24576),(256,some 16,8194),(2304,some 17,73728),(5376,some 18,172032),(8448,some 19,270336),(32767,some 4,524288)]) kr kr) ?_
 intro w6 S6
 refine PB.mk S6<|PL.take 0 5 (pv b1) (fun _ _=>kr)<|PL.takeOK 1 (fun w_ S_=>OK.ldBox S_ 0 6 3 0 (iv y) kr rfl kr) rfl<|PL.callF 7 119 #[iv y] hb119 kr (rvalue7_any y _) ?_
 rintro _ w7 ⟨rfl,T3⟩
 have S7:Sep w [box b1 [iv y,iv r] 114] w7:=S6.trans T3
 clear T3 S6
 refine PB.head (.bool false) (congrArg Value.bool fk1)<|PB.mk S7<|PL.take 3 8 (.bool false) (fun _ _=>kr)<|PL.takePass 4 (some 9) kr<|PL.takePass 5 (some 10) kr<|PL.takePass 6 (some 11) kr<|PL.take 7 12 (.bool false) (fun _ _=>kr)<|PL.take 8 13 (.bool false) (fun _ _=>kr)<|PL.takePass 9 (some 14) kr<|PL.takePass 10 (some 15) kr<|PL.takePass 11 (some 16) kr ?_
 refine PL.takePass 12 (some 17) kr<|PL.takePass 13 (some 18) kr<|PL.take 14 19 (.bool false) (fun _ _=>kr)<|PL.take 15 4 (.bool false) (fun _ _=>kr)<|PL.done<|J.e 0 [.bool false] func77 (hR _ _ ?_)
 exact⟨congrArg Value.bool (lagB_no om).symm,S7.nil⟩

theorem hb78:af prog 78:=fun _ _=>by kernel_rfl

theorem rlag_any (y r x sh:Int) (w:World) (hs:0≤sh∧sh≤20) (hx: -1099511627776≤x∧x≤1099511627776) (hy: -1099511627776≤y∧y≤1099511627776) (hr:0≤r∧r<2^sh.toNat):Ret prog 78 #[.agg #[iv y,iv r],iv x,iv sh] w (fun v w'=>v=.agg #[iv (eg y r x sh),iv (lagR y r x sh)]∧Sep w [] w'):=by
 refine Ret.st (N:=31) func78 fun R hR S0=>?_
 have hp20:=pow_20 sh hs
 have hlb:=lag_bd (n:=x-y+r) (k:=sh.toNat) om
 refine J.nw 2 [] [] [] S0 3 [iv y,iv r] 114 fun b1 w1 S1=>J.nw 0 [] [] [] S1 6 [iv 0,iv 0] 114 fun b2 w2 S2=>J.lb 5 [] [(9,iv x)] [] S2 1 rfl 11 (iv y)<|J.wi 1 [] [] [] 12 (x-y)<|J.lb 1 [] [] [] S2 1 rfl 14 (iv r)<|J.wi 1 [] [] [] 15 ((x-y)+r)<|J.r 6 [] [(17,iv sh),(16,iv ((x-y)+r)),(7,iv ((x-y)+r))] []<|J.ok (OK.shl 18 .i64 1 sh (2^(sh).toNat) kr om ((by rw[lim_shl om om,Int.one_mul])))<|J.c0 0 [] [] [] S2 19 hb117 (rfloor_any ((x-y)+r) (2^(sh).toNat) _ om om) fun w3 S3=>J.head (iv (((x-y)+r)/(2^(sh).toNat))) (congrArg (Value.int .i64) (floor_pos om om))<|J.r 3 [] [(8,iv (((x-y)+r)/(2^(sh).toNat)))] [] ?_
 refine J.drawTail S3 11 Tryz.mixed kr kr ?_
 intro w4 S4
 refine SL.r 20 (pv b1)<|SL.lb S4 1 rfl 21 (iv y)<|SL.r 22 (iv (((x-y)+r)/(2^(sh).toNat)))<|SL.r 23 (iv (IntKind.wrap .i64 (y+(((x-y)+r)/(2^(sh).toNat)))))<|SL.head (iv (y+(((x-y)+r)/(2^(sh).toNat)))) (congrArg (Value.int .i64) (IntWalk.i64_in _ om))<|SL.r 24 (iv ((x-y)+r))<|SL.r 25 (iv (((x-y)+r)/(2^(sh).toNat)))<|SL.r 26 (iv sh)<|SL.ok dE (OK.shl 27 .i64 1 sh (2^(sh).toNat) kr om ((by rw[lim_shl om om,Int.one_mul])))<|SL.r 28 (iv (IntKind.wrap .i64 ((((x-y)+r)/(2^(sh).toNat))*(2^(sh).toNat))))<|SL.head (iv ((((x-y)+r)/(2^(sh).toNat))*(2^(sh).toNat))) (congrArg (Value.int .i64) (IntWalk.i64_in _ om)) ?_
 refine SL.r 29 (iv (IntKind.wrap .i64 (((x-y)+r)-((((x-y)+r)/(2^(sh).toNat))*(2^(sh).toNat)))))<|SL.head (iv (((x-y)+r)-((((x-y)+r)/(2^(sh).toNat))*(2^(sh).toNat)))) (congrArg (Value.int .i64) (IntWalk.i64_in _ om))<|SL.r 30 (.agg #[iv (y+(((x-y)+r)/(2^(sh).toNat))),iv (((x-y)+r)-((((x-y)+r)/(2^(sh).toNat))*(2^(sh).toNat)))])<|SL.done<|TL.stBox S4 0 114 0 (.agg #[iv (y+(((x-y)+r)/(2^(sh).toNat))),iv (((x-y)+r)-((((x-y)+r)/(2^(sh).toNat))*(2^(sh).toNat)))]) [iv (y+(((x-y)+r)/(2^(sh).toNat))),iv (((x-y)+r)-((((x-y)+r)/(2^(sh).toNat))*(2^(sh).toNat)))] [box b2 [iv (y+(((x-y)+r)/(2^(sh).toNat))),iv (((x-y)+r)-((((x-y)+r)/(2^(sh).toNat))*(2^(sh).toNat)))] 114,box b1 [iv y,iv r] 114] kr rfl kr kr rfl ?_
 intro w5 S5
 refine TL.done kr<|J.ez 0 [.agg #[iv (y+(((x-y)+r)/(2^(sh).toNat))),iv (((x-y)+r)-((((x-y)+r)/(2^(sh).toNat))*(2^(sh).toNat)))]] func78 (bk (S5.nth 0 rfl) bn) (hR _ _ ?_)
 exact⟨rfl,S5.nil⟩
end Go.Proofs.YtaoolgcddapegaaGreat
