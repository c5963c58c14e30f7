/- Walks of functions of this seat, printed by a program over the engine. Conditions: as each theorem says. -/
import Derived.Test.YtdneanhkcnfgdaaGreatDoorZtR23
set_option linter.unusedSimpArgs false
set_option linter.unusedVariables false
namespace Go.Proofs.YtdneanhkcnfgdaaGreatDoor
open Go.Eng Go.RowKit Go.Proofs.Tryz
set_option maxRecDepth 20000
set_option maxHeartbeats 20000000
theorem lawtexts_any (c:Cht) (s:ByteArray) (w:World) (hc:chtQ w c) (hs:s.size≤9223372036854775807) (hW0:TabW w):Ret prog 3 #[.agg #[.slice c.al c.aj c.ao,.slice c.ak c.af c.am,.int .i64 c.av,.slice c.aq c.ai c.au],.string s] w (fun v w'=>v=.bool true∧Sep w [] w'):=by
 refine Ret.st (N:=79) func3 fun R hR S0=>?_
 obtain ⟨q1,q2,q3,q4,q5,q6,q7,q8,q9,q10,_⟩:=id hc
 have ql1:=q2.len_eq
 have ql2:=q5.len_eq
 have ql3:=q9.len_eq
 refine J.nw 2 [] [] [] S0 2 [.slice c.al c.aj c.ao,.slice c.ak c.af c.am,.int .i64 c.av,.slice c.aq c.ai c.au] 25 fun b1 w1 S1=>J.c0 5 [] [] [] S1 13 hb4 (awake_any  _) fun w2 S2=>J.lb 2 [] [(15,.bool false)] [] S2 0 rfl 16 (.agg #[.slice c.al c.aj c.ao,.slice c.ak c.af c.am,.int .i64 c.av,.slice c.aq c.ai c.au])<|J.c0 0 [] [] [] S2 17 hb5 (small_any c _ (bX hc S2)) fun w3 S3=>J.bn 3 [] [] [] 20 (cm c) (fun fk1=>?_) fun fk1=>?_
 refine J.c 4 [] [] [] 24 ((s.size:Int)>3000) (fun fk2=>?_) fun fk2=>?_
 refine J.c 6 [] [] [] 29 ((s.size:Int)≤16384) (fun fk3=>?_) fun fk3=>?_
 refine J.c0 3 [true] [] [] S3 30 hb4 (awake_any  _) fun w4 S4=>J.e 2 [.bool true] func3 (hR _ _ ?_)
 exact⟨rfl,S4.nil⟩
 refine J.lb 4 [false] [] [] S3 0 rfl 32 (.agg #[.slice c.al c.aj c.ao,.slice c.ak c.af c.am,.int .i64 c.av,.slice c.aq c.ai c.au])<|J.c0 0 [] [] [] S3 33 hb6 (text_any c _ (bX hc S3) (cv hW0 S3)) fun w5 S5=>J.r 9 [] [(37,.string s),(6,.int .i64 (txE c)),(5,.string (txC c))] []<|J.cf 0 [] [] [] 38 hb7 (parse_any s _ om (cv hW0 S5)) ?_
 rintro _ w6 ⟨psa1,psc1,pia1,pic1,pma1,pmc1,rfl,T1⟩
 have S6:Sep w [aa (ah Value.string) psa1 psc1 9 1 ((paF s).sts),aa (ah Value.string) pia1 pic1 9 1 ((paF s).ins),aa mvE pma1 pmc1 57 5 ((paF s).mvs),box b1 [.slice c.al c.aj c.ao,.slice c.ak c.af c.am,.int .i64 c.av,.slice c.aq c.ai c.au] 25] w6:=S5.trans T1
 refine J.nw 4 [] [(41,.int .i64 ((paF s).e)),(40,.agg #[.int .i64 ((paF s).pl),.int .i64 ((paF s).pc)]),(39,.agg #[.slice psa1 ((paF s).sts.length) psc1,.slice pia1 ((paF s).ins.length) pic1,.int .i64 ((paF s).st),.slice pma1 ((paF s).mvs.length) pmc1])] [] S6 7 [.slice none 0 0,.slice none 0 0,.int .i64 0,.slice none 0 0] 25 fun b2 w7 S7=>J.nw 0 [] [] [] S7 8 [.int .i64 0,.int .i64 0] 32 fun b3 w8 S8=>J.sb 0 [] [] [] S8 1 rfl [.slice psa1 ((paF s).sts.length) psc1,.slice pia1 ((paF s).ins.length) pic1,.int .i64 ((paF s).st),.slice pma1 ((paF s).mvs.length) pmc1] rfl fun w9 S9=>J.sb 0 [] [] [] S9 0 rfl [.int .i64 ((paF s).pl),.int .i64 ((paF s).pc)] rfl fun w10 S10=>J.r 5 [] [(43,.string s),(9,.int .i64 ((paF s).e))] []<|J.cf 0 [] [] [] 44 hb8 (rparse_any s _ om) ?_
 rintro _ w11 ⟨psa2,psc2,pia2,pic2,pma2,pmc2,rfl,T2⟩
 have S11:Sep w [aa (ah Value.string) psa2 psc2 9 1 ((paF s).sts),aa (ah Value.string) pia2 pic2 9 1 ((paF s).ins),aa mvE pma2 pmc2 57 5 ((paF s).mvs),box b3 [.int .i64 ((paF s).pl),.int .i64 ((paF s).pc)] 32,box b2 [.slice psa1 ((paF s).sts.length) psc1,.slice pia1 ((paF s).ins.length) pic1,.int .i64 ((paF s).st),.slice pma1 ((paF s).mvs.length) pmc1] 25,aa (ah Value.string) psa1 psc1 9 1 ((paF s).sts),aa (ah Value.string) pia1 pic1 9 1 ((paF s).ins),aa mvE pma1 pmc1 57 5 ((paF s).mvs),box b1 [.slice c.al c.aj c.ao,.slice c.ak c.af c.am,.int .i64 c.av,.slice c.aq c.ai c.au] 25] w11:=S10.trans T2
 refine J.nw 4 [] [(47,.int .i64 ((paF s).e)),(46,.agg #[.int .i64 ((paF s).pl),.int .i64 ((paF s).pc)]),(45,.agg #[.slice psa2 ((paF s).sts.length) psc2,.slice pia2 ((paF s).ins.length) pic2,.int .i64 ((paF s).st),.slice pma2 ((paF s).mvs.length) pmc2])] [] S11 10 [.slice none 0 0,.slice none 0 0,.int .i64 0,.slice none 0 0] 25 fun b4 w12 S12=>J.nw 0 [] [] [] S12 11 [.int .i64 0,.int .i64 0] 32 fun b5 w13 S13=>J.sb 0 [] [] [] S13 1 rfl [.slice psa2 ((paF s).sts.length) psc2,.slice pia2 ((paF s).ins.length) pic2,.int .i64 ((paF s).st),.slice pma2 ((paF s).mvs.length) pmc2] rfl fun w14 S14=>J.sb 0 [] [] [] S14 0 rfl [.int .i64 ((paF s).pl),.int .i64 ((paF s).pc)] rfl fun w15 S15=>J.lb 5 [] [(12,.int .i64 ((paF s).e))] [] S15 6 rfl 48 (.agg #[.slice psa1 ((paF s).sts.length) psc1,.slice pia1 ((paF s).ins.length) pic1,.int .i64 ((paF s).st),.slice pma1 ((paF s).mvs.length) pmc1])<|J.lb 0 [] [] [] S15 1 rfl 49 (.agg #[.slice psa2 ((paF s).sts.length) psc2,.slice pia2 ((paF s).ins.length) pic2,.int .i64 ((paF s).st),.slice pma2 ((paF s).mvs.length) pmc2]) ?_
 have:=aQ (S15.nth 7 rfl)
 have:=aQ (S15.nth 8 rfl)
 have:=aQ (S15.nth 2 rfl)
 have:=aQ (S15.nth 3 rfl)
 have:=((aR (S15.nth 7 rfl) ((paF s).sts.length) rO)).len_eq
 have:=((aR (S15.nth 8 rfl) ((paF s).ins.length) rO)).len_eq
 have:=((aX (S15.nth 9 rfl) _ rfl (fun _=>rfl) dE)).len_eq
 refine J.c0 0 [] [] [] S15 50 hb9 (same_any psa1 psc1 pia1 pic1 pma1 pmc1 psa2 psc2 pia2 pic2 pma2 pmc2 ((paF s).sts) ((paF s).ins) ((paF s).st) ((paF s).mvs) _ ((aR (S15.nth 7 rfl) ((paF s).sts.length) rO)) ((aR (S15.nth 8 rfl) ((paF s).ins.length) rO)) ((aX (S15.nth 9 rfl) _ rfl (fun _=>rfl) dE)) ((aR (S15.nth 2 rfl) ((paF s).sts.length) rO)) ((aR (S15.nth 3 rfl) ((paF s).ins.length) rO)) ((aX (S15.nth 4 rfl) _ rfl (fun _=>rfl) dE)) ⟨aQ (S15.nth 7 rfl),aQ (S15.nth 8 rfl),aQ (S15.nth 9 rfl)⟩) fun w16 S16=>J.lb 2 [] [(52,.bool false)] [] S16 5 rfl 53 (.agg #[.int .i64 ((paF s).pl),.int .i64 ((paF s).pc)])<|J.lb 0 [] [] [] S16 0 rfl 54 (.agg #[.int .i64 ((paF s).pl),.int .i64 ((paF s).pc)])<|J.ok (OK.eqS 55 false 32 #[.int .i64 ((paF s).pl),.int .i64 ((paF s).pc)] #[.int .i64 ((paF s).pl),.int .i64 ((paF s).pc)] ((((paF s).pl)==((paF s).pl))&&((((paF s).pc)==((paF s).pc))&&true)) kr kr kr false (by simp))<|J.h 5 [] [(57,.bool false)] [] 60 (.bool (((paF s).e) != ((paF s).e))) (.bool false) (congrArg Value.bool (by simp))<|J.lb 7 [false] [] [] S16 10 rfl 62 (.agg #[.slice c.al c.aj c.ao,.slice c.ak c.af c.am,.int .i64 c.av,.slice c.aq c.ai c.au])<|J.c0 0 [] [] [] S16 63 hb10 (rvalid_any c _ (bX hc S16)) fun w17 S17=>J.bn 2 [] [] [] 64 (aM c) (fun fk4=>?_) fun fk4=>?_
 refine J.lb 5 [false] [(71,.string (txC c))] [] S17 10 rfl 72 (.agg #[.slice c.al c.aj c.ao,.slice c.ak c.af c.am,.int .i64 c.av,.slice c.aq c.ai c.au])<|J.c0 0 [] [] [] S17 73 hb11 (rtext_any c _ (bX hc S17) fk4) fun w18 S18=>?_
 have fk6:((txC c).toList==(mvsT c (c).ab.length).toList)=true:=by rw[(tx_yes fk4).1];exact beq_self_eq_true _
 refine J.h 2 [] [] [] 75 (.bool ((txC c).toList==(mvsT c (c).ab.length).toList)) (.bool true) (congrArg Value.bool fk6)<|J.e 5 [.bool ((txE c)==0)] func3 (hR _ _ ?_)
 have fk7:(txE c)=0:=(tx_yes fk4).2
 exact⟨congrArg Value.bool (beq_iff_eq.2 fk7),S18.nil⟩
 refine J.h 5 [true] [] [] 66 (.bool ((txC c).toList==(⟨#[]⟩:ByteArray).toList)) (.bool (((txC c).size:Int)==0)) (congrArg Value.bool (beq_nil_eql _)) ?_
 have fk9:((txC c).size:Int)=0:=by rw[(tx_no fk4).1];rfl
 refine J.h 1 [] [] [] 67 (.bool (((txC c).size:Int)==0)) (.bool true) (congrArg Value.bool (beq_iff_eq.2 fk9))<|J.e 5 [.bool ((txE c)==1)] func3 (hR _ _ ?_)
 have fk10:(txE c)=1:=(tx_no fk4).2
 exact⟨congrArg Value.bool (beq_iff_eq.2 fk10),S17.nil⟩
 refine J.lb 10 [false] [] [] S3 0 rfl 32 (.agg #[.slice c.al c.aj c.ao,.slice c.ak c.af c.am,.int .i64 c.av,.slice c.aq c.ai c.au])<|J.c0 0 [] [] [] S3 33 hb6 (text_any c _ (bX hc S3) (cv hW0 S3)) fun w19 S19=>J.r 9 [] [(37,.string s),(6,.int .i64 (txE c)),(5,.string (txC c))] []<|J.cf 0 [] [] [] 38 hb7 (parse_any s _ om (cv hW0 S19)) ?_
 rintro _ w20 ⟨psa3,psc3,pia3,pic3,pma3,pmc3,rfl,T3⟩
 have S20:Sep w [aa (ah Value.string) psa3 psc3 9 1 ((paF s).sts),aa (ah Value.string) pia3 pic3 9 1 ((paF s).ins),aa mvE pma3 pmc3 57 5 ((paF s).mvs),box b1 [.slice c.al c.aj c.ao,.slice c.ak c.af c.am,.int .i64 c.av,.slice c.aq c.ai c.au] 25] w20:=S19.trans T3
 refine J.nw 4 [] [(41,.int .i64 ((paF s).e)),(40,.agg #[.int .i64 ((paF s).pl),.int .i64 ((paF s).pc)]),(39,.agg #[.slice psa3 ((paF s).sts.length) psc3,.slice pia3 ((paF s).ins.length) pic3,.int .i64 ((paF s).st),.slice pma3 ((paF s).mvs.length) pmc3])] [] S20 7 [.slice none 0 0,.slice none 0 0,.int .i64 0,.slice none 0 0] 25 fun b6 w21 S21=>J.nw 0 [] [] [] S21 8 [.int .i64 0,.int .i64 0] 32 fun b7 w22 S22=>J.sb 0 [] [] [] S22 1 rfl [.slice psa3 ((paF s).sts.length) psc3,.slice pia3 ((paF s).ins.length) pic3,.int .i64 ((paF s).st),.slice pma3 ((paF s).mvs.length) pmc3] rfl fun w23 S23=>J.sb 0 [] [] [] S23 0 rfl [.int .i64 ((paF s).pl),.int .i64 ((paF s).pc)] rfl fun w24 S24=>J.r 5 [] [(43,.string s),(9,.int .i64 ((paF s).e))] []<|J.cf 0 [] [] [] 44 hb8 (rparse_any s _ om) ?_
 rintro _ w25 ⟨psa4,psc4,pia4,pic4,pma4,pmc4,rfl,T4⟩
 have S25:Sep w [aa (ah Value.string) psa4 psc4 9 1 ((paF s).sts),aa (ah Value.string) pia4 pic4 9 1 ((paF s).ins),aa mvE pma4 pmc4 57 5 ((paF s).mvs),box b7 [.int .i64 ((paF s).pl),.int .i64 ((paF s).pc)] 32,box b6 [.slice psa3 ((paF s).sts.length) psc3,.slice pia3 ((paF s).ins.length) pic3,.int .i64 ((paF s).st),.slice pma3 ((paF s).mvs.length) pmc3] 25,aa (ah Value.string) psa3 psc3 9 1 ((paF s).sts),aa (ah Value.string) pia3 pic3 9 1 ((paF s).ins),aa mvE pma3 pmc3 57 5 ((paF s).mvs),box b1 [.slice c.al c.aj c.ao,.slice c.ak c.af c.am,.int .i64 c.av,.slice c.aq c.ai c.au] 25] w25:=S24.trans T4
 refine J.nw 4 [] [(47,.int .i64 ((paF s).e)),(46,.agg #[.int .i64 ((paF s).pl),.int .i64 ((paF s).pc)]),(45,.agg #[.slice psa4 ((paF s).sts.length) psc4,.slice pia4 ((paF s).ins.length) pic4,.int .i64 ((paF s).st),.slice pma4 ((paF s).mvs.length) pmc4])] [] S25 10 [.slice none 0 0,.slice none 0 0,.int .i64 0,.slice none 0 0] 25 fun b8 w26 S26=>J.nw 0 [] [] [] S26 11 [.int .i64 0,.int .i64 0] 32 fun b9 w27 S27=>J.sb 0 [] [] [] S27 1 rfl [.slice psa4 ((paF s).sts.length) psc4,.slice pia4 ((paF s).ins.length) pic4,.int .i64 ((paF s).st),.slice pma4 ((paF s).mvs.length) pmc4] rfl fun w28 S28=>J.sb 0 [] [] [] S28 0 rfl [.int .i64 ((paF s).pl),.int .i64 ((paF s).pc)] rfl fun w29 S29=>J.lb 5 [] [(12,.int .i64 ((paF s).e))] [] S29 6 rfl 48 (.agg #[.slice psa3 ((paF s).sts.length) psc3,.slice pia3 ((paF s).ins.length) pic3,.int .i64 ((paF s).st),.slice pma3 ((paF s).mvs.length) pmc3])<|J.lb 0 [] [] [] S29 1 rfl 49 (.agg #[.slice psa4 ((paF s).sts.length) psc4,.slice pia4 ((paF s).ins.length) pic4,.int .i64 ((paF s).st),.slice pma4 ((paF s).mvs.length) pmc4]) ?_
 have:=aQ (S29.nth 7 rfl)
 have:=aQ (S29.nth 8 rfl)
 have:=aQ (S29.nth 2 rfl)
 have:=aQ (S29.nth 3 rfl)
 have:=((aR (S29.nth 7 rfl) ((paF s).sts.length) rO)).len_eq
 have:=((aR (S29.nth 8 rfl) ((paF s).ins.length) rO)).len_eq
 have:=((aX (S29.nth 9 rfl) _ rfl (fun _=>rfl) dE)).len_eq
 refine J.c0 0 [] [] [] S29 50 hb9 (same_any psa3 psc3 pia3 pic3 pma3 pmc3 psa4 psc4 pia4 pic4 pma4 pmc4 ((paF s).sts) ((paF s).ins) ((paF s).st) ((paF s).mvs) _ ((aR (S29.nth 7 rfl) ((paF s).sts.length) rO)) ((aR (S29.nth 8 rfl) ((paF s).ins.length) rO)) ((aX (S29.nth 9 rfl) _ rfl (fun _=>rfl) dE)) ((aR (S29.nth 2 rfl) ((paF s).sts.length) rO)) ((aR (S29.nth 3 rfl) ((paF s).ins.length) rO)) ((aX (S29.nth 4 rfl) _ rfl (fun _=>rfl) dE)) ⟨aQ (S29.nth 7 rfl),aQ (S29.nth 8 rfl),aQ (S29.nth 9 rfl)⟩) fun w30 S30=>J.lb 2 [] [(52,.bool false)] [] S30 5 rfl 53 (.agg #[.int .i64 ((paF s).pl),.int .i64 ((paF s).pc)])<|J.lb 0 [] [] [] S30 0 rfl 54 (.agg #[.int .i64 ((paF s).pl),.int .i64 ((paF s).pc)])<|J.ok (OK.eqS 55 false 32 #[.int .i64 ((paF s).pl),.int .i64 ((paF s).pc)] #[.int .i64 ((paF s).pl),.int .i64 ((paF s).pc)] ((((paF s).pl)==((paF s).pl))&&((((paF s).pc)==((paF s).pc))&&true)) kr kr kr false (by simp))<|J.h 5 [] [(57,.bool false)] [] 60 (.bool (((paF s).e) != ((paF s).e))) (.bool false) (congrArg Value.bool (by simp))<|J.lb 7 [false] [] [] S30 10 rfl 62 (.agg #[.slice c.al c.aj c.ao,.slice c.ak c.af c.am,.int .i64 c.av,.slice c.aq c.ai c.au])<|J.c0 0 [] [] [] S30 63 hb10 (rvalid_any c _ (bX hc S30)) fun w31 S31=>J.bn 2 [] [] [] 64 (aM c) (fun fk11=>?_) fun fk11=>?_
 refine J.lb 5 [false] [(71,.string (txC c))] [] S31 10 rfl 72 (.agg #[.slice c.al c.aj c.ao,.slice c.ak c.af c.am,.int .i64 c.av,.slice c.aq c.ai c.au])<|J.c0 0 [] [] [] S31 73 hb11 (rtext_any c _ (bX hc S31) fk11) fun w32 S32=>?_
 have fk13:((txC c).toList==(mvsT c (c).ab.length).toList)=true:=by rw[(tx_yes fk11).1];exact beq_self_eq_true _
 refine J.h 2 [] [] [] 75 (.bool ((txC c).toList==(mvsT c (c).ab.length).toList)) (.bool true) (congrArg Value.bool fk13)<|J.e 5 [.bool ((txE c)==0)] func3 (hR _ _ ?_)
 have fk14:(txE c)=0:=(tx_yes fk11).2
 exact⟨congrArg Value.bool (beq_iff_eq.2 fk14),S32.nil⟩
 refine J.h 5 [true] [] [] 66 (.bool ((txC c).toList==(⟨#[]⟩:ByteArray).toList)) (.bool (((txC c).size:Int)==0)) (congrArg Value.bool (beq_nil_eql _)) ?_
 have fk16:((txC c).size:Int)=0:=by rw[(tx_no fk11).1];rfl
 refine J.h 1 [] [] [] 67 (.bool (((txC c).size:Int)==0)) (.bool true) (congrArg Value.bool (beq_iff_eq.2 fk16))<|J.e 5 [.bool ((txE c)==1)] func3 (hR _ _ ?_)
 have fk17:(txE c)=1:=(tx_no fk11).2
 exact⟨congrArg Value.bool (beq_iff_eq.2 fk17),S31.nil⟩
 refine J.c0 13 [true] [] [] S3 30 hb4 (awake_any  _) fun w33 S33=>J.e 2 [.bool true] func3 (hR _ _ ?_)
 exact⟨rfl,S33.nil⟩

end Go.Proofs.YtdneanhkcnfgdaaGreatDoor

