/- Walks of functions of this seat, printed by a program over the engine. Conditions: as each theorem says. -/
import Derived.Test.YtaoolgcddapegaaGreatDoorZrX16
set_option linter.unusedSimpArgs false
set_option linter.unusedVariables false
namespace Go.Proofs.YtaoolgcddapegaaGreatDoor
noncomputable section
open Go.Eng Go.RowKit Go.Proofs.Tryz
set_option maxRecDepth 20000
set_option maxHeartbeats 20000000
theorem hb153:af prog 153:=fun _ _=>by kernel_rfl

theorem grow_any (n:Int) (w:World) (hn:0≤n∧n≤1099511627776):Ret prog 153 #[.slice none 0 0,iv n] w (fun v w'=>∃ a cap,v=.slice a 0 cap∧Sep w [am aM a cap 3 1 []] w'):=by
 refine Ret.st (N:=27) func153 fun R hR S0=>?_
 have fk2:¬ (n<0):=by omega
 refine J.h 10 [] [] [] 6 (.bool (decide (n<0))) (.bool false) (congrArg Value.bool (decide_eq_false fk2))<|J.wi 12 [false] [] [] 14 (n-0)<|J.c 7 [] [(1,iv (n-0))] [] 16 ((n-0)>0) (fun fk3=>?_) fun fk3=>?_
 refine J.r 5 [true] [(19,iv 0),(17,.slice none 0 0)] []<|J.ok (OK.slice 20 26 1 none 0 0 none (some (iv 0)) 0 0 kr kr (.inl ⟨rfl,rfl⟩) (.inr ⟨_,_,rfl,rfl⟩) oz oz)<|J.head (.slice none 0 0) (by rw[subA_zero];try rfl)<|J.r 1 [] [(21,iv (n-0))] []<|J.appz aM (0:Int) S0 22 26 3 3 1 .i64 .i64 (n-0) (n-0).toNat (iv 0) 8 kr om om kr kr kr kr dE rF (⟨om,om⟩) ?_
 intro b1 rc1 w1 S1
 refine J.r 2 [] [(24,iv 0)] [] ?_
 have:=(en (S1.nth 0 rfl)).2.2
 refine J.ok (OK.slice 25 26 1 (some ⟨b1,0,none⟩) ((List.replicate (n-0).toNat (0:Int)).length) rc1 none (some (iv 0)) 0 0 kr kr (.inl ⟨rfl,rfl⟩) (.inr ⟨_,_,rfl,rfl⟩) oz oz)<|J.head (.slice (some ⟨b1,0,none⟩) 0 rc1) (by rw[subA_zero];try rfl)<|J.e 7 [.slice (some ⟨b1,0,none⟩) 0 rc1] func153 (hR _ _ ?_)
 exact⟨_,_,rfl,(S1.cut 0 rfl (fun _=>rfl) 0 (Nat.zero_le _)).pick 0 rfl⟩
 refine J.e 7 [.slice none 0 0] func153 (hR _ _ ?_)
 exact⟨none,0,rfl,S0.nil.nilRow 3 1⟩

theorem hb105:af prog 105:=fun _ _=>by kernel_rfl

theorem concat2_any (bx:Nat) (la:Option Addr) (na ca:Nat) (xa:List Int) (lb:Option Addr) (nb cb:Nat) (xb:List Int) (w:World) (ha:dk w la na xa) (hb:dk w lb nb xb) (hbx:(box bx [.slice la na ca,.slice lb nb cb] 26).holds w) (hsm:na≤1048576∧nb≤1048576):Ret prog 105 #[.slice (some ⟨bx,0,none⟩) 2 2] w (fun v w'=>∃ a cap,v=.slice a (xa++xb).length cap∧Sep w [am aM a cap 3 1 (xa++xb)] w'):=by
 refine Ret.st (N:=36) func105 fun R hR S0=>?_
 have hla_:=ha.len_eq
 have hlb_:=hb.len_eq
 refine J.r 28 [true] [(11,iv 0),(10,iv 2),(9,.slice (some ⟨bx,0,none⟩) 2 2),(3,iv 0)] []<|J.ok (OK.index 13 60 1 (some ⟨bx,0,none⟩) ⟨bx,0,none⟩ 2 0 0 ⟨bx,0,none⟩ kr kr rfl om om rF)<|J.ok (OK.ldRo S0 hbx 14 26 0 (.slice la na ca) kr kr)<|J.wi 8 [] [] [] 18 (0+(na:Int)) ?_
 have fk2:¬ ((0+(na:Int))<0):=by omega
 refine J.h 7 [] [(3,iv (0+(na:Int)))] [] 20 (.bool (decide ((0+(na:Int))<0))) (.bool false) (congrArg Value.bool (decide_eq_false fk2))<|J.r 19 [false,true] [(11,iv 1)] []<|J.ok (OK.index 13 60 1 (some ⟨bx,0,none⟩) ⟨bx,0,none⟩ 2 1 1 ⟨bx,1,none⟩ kr kr rfl om om rF)<|J.ok (OK.ldRo S0 hbx 14 26 1 (.slice lb nb cb) kr kr)<|J.wi 8 [] [] [18] 18 ((0+(na:Int))+(nb:Int)) ?_
 have fk4:¬ (((0+(na:Int))+(nb:Int))<0):=by omega
 refine J.h 7 [] [(3,iv ((0+(na:Int))+(nb:Int)))] [20] 20 (.bool (decide (((0+(na:Int))+(nb:Int))<0))) (.bool false) (congrArg Value.bool (decide_eq_false fk4))<|J.cf 18 [false,false] [] [11] 24 hb153 (grow_any ((0+(na:Int))+(nb:Int)) _ om) ?_
 rintro _ w1 ⟨ra1,rc1,rfl,T1⟩
 have S1:Sep w [am aM ra1 rc1 3 1 ([])] w1:=S0.trans T1
 refine J.r 22 [true] [(27,iv 0),(26,iv 2),(25,.slice (some ⟨bx,0,none⟩) 2 2),(6,.slice ra1 0 rc1)] []<|J.ok (OK.index 29 60 1 (some ⟨bx,0,none⟩) ⟨bx,0,none⟩ 2 0 0 ⟨bx,0,none⟩ kr kr rfl om om rF)<|J.ok (OK.ldRo S1 hbx 30 26 0 (.slice la na ca) kr kr)<|J.r 5 [] [(32,.slice la na ca),(31,.slice ra1 0 rc1)] [] ?_
 have hz1:=ha.sep S1
 have:=hz1.len_eq
 refine J.appendN aM S1 0 ([]) xa na oz 33 26 (iv 0) 8 la ca rfl kr kr kr kr dE (ha.sep S1).enc (fun h_=>Ones.nil (h_▸hz1)) (fun _=>rfl) (fun _=>rfl) (⟨by first | omega | (simp;omega),by first | omega | (simp;omega)⟩) ?_
 intro ra2 rc2 w2 S2
 replace S2:Sep w [am aM ra2 rc2 3 1 xa] w2:=S2
 refine J.r 19 [true] [(27,iv 1),(6,.slice ra2 xa.length rc2)] []<|J.ok (OK.index 29 60 1 (some ⟨bx,0,none⟩) ⟨bx,0,none⟩ 2 1 1 ⟨bx,1,none⟩ kr kr rfl om om rF)<|J.ok (OK.ldRo S2 hbx 30 26 1 (.slice lb nb cb) kr kr)<|J.r 5 [] [(32,.slice lb nb cb),(31,.slice ra2 xa.length rc2)] [] ?_
 have hz2:=hb.sep S2
 have:=hz2.len_eq
 refine J.appendN aM S2 0 xa xb nb oz 33 26 (iv 0) 8 lb cb rfl kr kr kr kr dE (hb.sep S2).enc (fun h_=>Ones.nil (h_▸hz2)) (fun _=>rfl) (fun _=>rfl) (⟨by first | omega | (simp;omega),by first | omega | (simp;omega)⟩) ?_
 intro ra3 rc3 w3 S3
 replace S3:Sep w [am aM ra3 rc3 3 1 (xa++xb)] w3:=S3
 refine J.e 20 [.slice ra3 ((xa++xb).length) rc3] func105 (hR _ _ ?_)
 exact⟨_,_,rfl,S3.pick 0 rfl⟩

theorem hb60:af prog 60:=fun _ _=>by kernel_rfl
def K60_0:=adv 234 [false,false,false,true,false,true,false,true,false,false] (bo Tryz.f60)
theorem pvalid_any (p:Prg) (w:World) (hp:prgQ w p):Ret prog 60 #[.agg (eb p)] w (fun v w'=>v=.bool (dz p)∧Sep w [] w'):=by
 refine Ret.st (N:=117) func60 fun R hR S0=>?_
 obtain ⟨q1,q2,q3,q4,q5,q6,q7,q8,q9,q10,q11,q12,q13,q14,q15,q16,q17,q18,q19,q20,q21,q22,q23,q24,q25,_⟩:=id hp
 have ql1:=q2.len_eq
 have ql2:=q5.len_eq
 have ql3:=q8.len_eq
 have ql4:=q11.len_eq
 have ql5:=q15.len_eq
 have ql6:=q18.len_eq
 have ql7:=q21.len_eq
 have ql8:=q24.len_eq
 have hrep:(List.replicate (p.aA).toNat false).length=p.aA.toNat:=List.length_replicate
 have hcat:(p.ao++p.av).length=p.ao.length+p.av.length:=List.length_append
 refine J.nw 2 [] [] [] S0 1 (ba p) 28 fun b1 w1 S1=>J.lb 6 [] [] [] S1 0 rfl 10 (.slice p.cJ p.bu p.dn)<|J.c 3 [] [] [] 13 ((p.bu:Int)>4000) (fun fk1=>?_) fun fk1=>?_
 refine J.e 42 [.bool false] func60 (hR _ _ ?_)
 exact⟨congrArg Value.bool (bh (.inl om)).symm,S1.nil⟩
 refine J.lb 1 [] [] [] S1 0 rfl 15 (.slice p.aK p.al p.br)<|J.c 4 [] [] [] 19 ((p.al:Int)>100) (fun fk2=>?_) fun fk2=>?_
 refine J.e 36 [.bool false] func60 (hR _ _ ?_)
 exact⟨congrArg Value.bool (bh (.inl om)).symm,S1.nil⟩
 refine J.lb 1 [] [] [] S1 0 rfl 21 (.slice p.bO p.bg p.bX)<|J.c 4 [] [] [] 25 ((p.bg:Int)>100) (fun fk3=>?_) fun fk3=>?_
 refine J.e 30 [.bool false] func60 (hR _ _ ?_)
 exact⟨congrArg Value.bool (bh (.inl om)).symm,S1.nil⟩
 refine J.lb 1 [] [] [] S1 0 rfl 27 (.slice p.cu p.bI p.cI)<|J.c 4 [] [] [] 31 ((p.bI:Int)>100) (fun fk4=>?_) fun fk4=>?_
 refine J.e 24 [.bool false] func60 (hR _ _ ?_)
 exact⟨congrArg Value.bool (bh (.inl om)).symm,S1.nil⟩
 refine J.lb 1 [] [] [] S1 0 rfl 33 (iv p.aA)<|J.c 3 [] [] [] 36 (p.aA<0) (fun fk5=>?_) fun fk5=>?_
 refine J.e 19 [.bool false] func60 (hR _ _ ?_)
 exact⟨congrArg Value.bool (bh (.inl om)).symm,S1.nil⟩
 refine J.lb 1 [] [] [] S1 0 rfl 38 (iv p.aA)<|J.c 3 [] [] [] 41 (p.aA>1000) (fun fk6=>?_) fun fk6=>?_
 refine J.e 14 [.bool false] func60 (hR _ _ ?_)
 exact⟨congrArg Value.bool (bh (.inl om)).symm,S1.nil⟩
 refine J.lb 1 [] [] [] S1 0 rfl 43 (.slice p.cj p.bj p.cw)<|J.lb 2 [] [(44,iv (p.bj:Int))] [] S1 0 rfl 46 (.slice p.bw p.aV p.bt)<|J.cn 4 [] [] [] 49 ((p.bj:Int)=(p.aV:Int)) (fun fk7=>?_) fun fk7=>?_
 refine J.nw 4 [false] [] [] S1 3 [.nilFunc] 141 fun b2 w2 S2=>J.sb 0 [] [] [] S2 0 rfl [.func (.func 92) #[] #[]] rfl fun w3 S3=>J.lb 5 [] [] [] S3 1 rfl 51 (.slice p.aK p.al p.br)<|J.r 1 [] [(52,.func (.func 94) #[] #[pv b2])] []<|J.callF 53 93 #[.slice p.aK p.al p.br,.func (.func 94) #[] #[pv b2]] hb93 kr (containsFX1 p.aK p.al p.br p.ap 94 (pv b2) (fun x=> !bP x) _ (q5.sep S3) oz hb94 (fun i_ w_ hi_ S_=>val2_any _ b2 w_ (aq (aq (aX q6 fx0 (n:=i_) hi_) S3) S_) (dI (S3.nth 0 rfl) S_))) ?_
 rintro _ w4 ⟨rfl,T1⟩
 have S4:Sep w [box b2 [.func (.func 92) #[] #[]] 141,box b1 (ba p) 28] w4:=S3.trans T1
 refine J.b 1 [] [] [] 54 (List.any p.ap (fun x=> !bP x)) (fun fk8=>?_) fun fk8=>?_
 refine J.e 17 [.bool false] func60 (hR _ _ ?_)
 exact⟨congrArg Value.bool (bh (.inr (.inl (any_true_all fk8)))).symm,S4.nil⟩
 refine J.lb 1 [] [] [] S4 1 rfl 56 (.slice p.bO p.bg p.bX)<|J.r 1 [] [(57,.func (.func 96) #[] #[pv b2])] []<|J.callF 58 24 #[.slice p.bO p.bg p.bX,.func (.func 96) #[] #[pv b2]] hb24 kr (containsCV1 p.bO p.bg p.bX p.bN 96 (pv b2) (fun x=> !cF x) _ (q8.sep S4) oz hb96 (fun i_ w_ hi_ S_=>val3_any _ b2 w_ (ec (ec (aX q9 (⟨none,0,0,[],none,0,0,[]⟩:Crv) (n:=i_) hi_) S4) S_) (dI (S4.nth 0 rfl) S_))) ?_
 rintro _ w5 ⟨rfl,T2⟩
 have S5:Sep w [box b2 [.func (.func 92) #[] #[]] 141,box b1 (ba p) 28] w5:=S4.trans T2
 refine J.b 2 [] [] [] 60 (List.any p.bN (fun x=> !cF x)) (fun fk9=>?_) fun fk9=>?_
 refine J.e 11 [.bool false] func60 (hR _ _ ?_)
 exact⟨congrArg Value.bool (bh (.inr (.inr (.inl (any_true_all fk9))))).symm,S5.nil⟩
 refine J.lb 1 [] [] [] S5 1 rfl 62 (.slice p.cu p.bI p.cI)<|J.r 1 [] [(63,.func (.func 98) #[] #[pv b2])] []<|J.callF 64 22 #[.slice p.cu p.bI p.cI,.func (.func 98) #[] #[pv b2]] hb22 kr (containsMP1 p.cu p.bI p.cI p.cB 98 (pv b2) (fun x=> !co x) _ (q11.sep S5) oz hb98 (fun i_ w_ hi_ S_=>val4_any _ b2 w_ (eh (eh (aX q12 (⟨none,0,0,[],none,0,0,[],none,0,0,[]⟩:Mp) (n:=i_) hi_) S5) S_) (dI (S5.nth 0 rfl) S_))) ?_
 rintro _ w6 ⟨rfl,T3⟩
 have S6:Sep w [box b2 [.func (.func 92) #[] #[]] 141,box b1 (ba p) 28] w6:=S5.trans T3
 refine J.b 2 [] [] [] 65 (List.any p.cB (fun x=> !co x)) (fun fk10=>?_) fun fk10=>?_
 refine J.e 5 [.bool false] func60 (hR _ _ ?_)
 exact⟨congrArg Value.bool (bh (.inr (.inr (.inr (.inl (any_true_all fk10)))))).symm,S6.nil⟩
 refine J.lb 6 [false] [] [] S6 1 rfl 67 (.slice p.cJ p.bu p.dn)<|J.r 1 [] [(68,.func (.func 101) #[] #[pv b2,pv b1])] []<|J.callF 69 100 #[.slice p.cJ p.bu p.dn,.func (.func 101) #[] #[pv b2,pv b1]] hb100 kr (containsIN2 p.cJ p.bu p.dn p.aC 101 (pv b2) (pv b1) (fun x=> !cT p x) _ (q2.sep S6) oz hb101 (fun i_ w_ hi_ S_=>val5_any p _ b2 b1 w_ (dN (dN hp S6) S_) (df (df (aX q3 bq (n:=i_) hi_) S6) S_) (dI (S6.nth 0 rfl) S_) (dI (S6.nth 1 rfl) S_))) ?_
 rintro _ w7 ⟨rfl,T4⟩
 have S7:Sep w [box b2 [.func (.func 92) #[] #[]] 141,box b1 (ba p) 28] w7:=S6.trans T4
 refine J.b 1 [] [] [] 69 (List.any p.aC (fun x=> !cT p x)) (fun fk11=>?_) fun fk11=>?_
 refine J.e 5 [.bool false] func60 (hR _ _ ?_)
 exact⟨congrArg Value.bool (bh (.inr (.inr (.inr (.inr (.inl (any_true_all fk11))))))).symm,S7.nil⟩
 refine J.lb 6 [false] [] [] S7 1 rfl 71 (.slice p.bf p.aE p.bi)<|J.lb 1 [] [] [] S7 1 rfl 73 (.slice p.bB p.aI p.bC)<|J.lb 1 [] [] [] S7 1 rfl 75 (.slice p.bw p.aV p.bt)<|J.newSlice S7 76 3 [.slice p.bf p.aE p.bi,.slice p.bB p.aI p.bC,.slice p.bw p.aV p.bt] 26 kr ?_
 intro b3 w8 S8
 refine J.r 16 [true] [(78,iv 0),(77,iv 3)] []<|J.ok (OK.index 80 60 1 (some ⟨b3,0,none⟩) ⟨b3,0,none⟩ 3 0 0 ⟨b3,0,none⟩ kr kr rfl om om rF)<|J.lb 0 [] [] [] S8 0 rfl 81 (.slice p.bf p.aE p.bi)<|J.c 8 [] [(5,.slice p.bf p.aE p.bi)] [] 85 ((p.aE:Int)>1000) (fun fk12=>?_) fun fk12=>?_
 refine J.e 10 [.bool false] func60 (hR _ _ ?_)
 exact⟨congrArg Value.bool (bh (.inr (.inr (.inr (.inr (.inr (.inl (cellsL_long om)))))))).symm,S8.nil⟩
 refine J.r 2 [] [(87,.func (.func 104) #[] #[pv b1]),(86,.slice p.bf p.aE p.bi)] []<|J.callF 88 103 #[.slice p.bf p.aE p.bi,.func (.func 104) #[] #[pv b1]] hb103 kr (containsI1 p.bf p.aE p.bi p.ao 104 (pv b1) (fun c=> !(decide (0≤c)&&decide (c<p.aA))) _ (q15.sep S8) oz hb104 (fun i_ w_ hi_ S_=>val6_any p _ b1 w_ (dI (S8.nth 2 rfl) S_))) ?_
 rintro _ w9 ⟨rfl,T5⟩
 have S9:Sep w [box b3 [.slice p.bf p.aE p.bi,.slice p.bB p.aI p.bC,.slice p.bw p.aV p.bt] 26,box b2 [.func (.func 92) #[] #[]] 141,box b1 (ba p) 28] w9:=S8.trans T5
 refine J.b 2 [] [] [] 89 (List.any p.ao (fun c=> !(decide (0≤c)&&decide (c<p.aA)))) (fun fk13=>?_) fun fk13=>?_
 refine J.e 5 [.bool false] func60 (hR _ _ ?_)
 exact⟨congrArg Value.bool (bh (.inr (.inr (.inr (.inr (.inr (.inl (cellsL_any fk13)))))))).symm,S9.nil⟩
 refine J.r 19 [false,true] [(78,iv 1)] []<|J.ok (OK.index 80 60 1 (some ⟨b3,0,none⟩) ⟨b3,0,none⟩ 3 1 1 ⟨b3,1,none⟩ kr kr rfl om om rF)<|J.lb 0 [] [] [] S9 0 rfl 81 (.slice p.bB p.aI p.bC)<|J.c 8 [] [(5,.slice p.bB p.aI p.bC)] [85] 85 ((p.aI:Int)>1000) (fun fk14=>?_) fun fk14=>?_
 refine J.e 10 [.bool false] func60 (hR _ _ ?_)
 exact⟨congrArg Value.bool (bh (.inr (.inr (.inr (.inr (.inr (.inr (.inl (cellsL_long om))))))))).symm,S9.nil⟩
 refine J.r 2 [] [(87,.func (.func 104) #[] #[pv b1]),(86,.slice p.bB p.aI p.bC)] []<|J.callF 88 103 #[.slice p.bB p.aI p.bC,.func (.func 104) #[] #[pv b1]] hb103 kr (containsI1 p.bB p.aI p.bC p.aN 104 (pv b1) (fun c=> !(decide (0≤c)&&decide (c<p.aA))) _ (q21.sep S9) oz hb104 (fun i_ w_ hi_ S_=>val6_any p _ b1 w_ (dI (S9.nth 2 rfl) S_))) ?_
 rintro _ w10 ⟨rfl,T6⟩
 have S10:Sep w [box b3 [.slice p.bf p.aE p.bi,.slice p.bB p.aI p.bC,.slice p.bw p.aV p.bt] 26,box b2 [.func (.func 92) #[] #[]] 141,box b1 (ba p) 28] w10:=S9.trans T6
 refine J.b 2 [] [] [89] 89 (List.any p.aN (fun c=> !(decide (0≤c)&&decide (c<p.aA)))) (fun fk15=>?_) fun fk15=>?_
 refine J.e 5 [.bool false] func60 (hR _ _ ?_)
 exact⟨congrArg Value.bool (bh (.inr (.inr (.inr (.inr (.inr (.inr (.inl (cellsL_any fk15))))))))).symm,S10.nil⟩
 refine J.r 19 [false,true] [(78,iv 2)] []<|J.ok (OK.index 80 60 1 (some ⟨b3,0,none⟩) ⟨b3,0,none⟩ 3 2 2 ⟨b3,2,none⟩ kr kr rfl om om rF)<|J.lb 0 [] [] [] S10 0 rfl 81 (.slice p.bw p.aV p.bt)<|J.c 8 [] [(5,.slice p.bw p.aV p.bt)] [85] 85 ((p.aV:Int)>1000) (fun fk16=>?_) fun fk16=>?_
 refine J.e 10 [.bool false] func60 (hR _ _ ?_)
 exact⟨congrArg Value.bool (bh (.inr (.inr (.inr (.inr (.inr (.inr (.inr (.inl (cellsL_long om)))))))))).symm,S10.nil⟩
 refine J.r 2 [] [(87,.func (.func 104) #[] #[pv b1]),(86,.slice p.bw p.aV p.bt)] []<|J.callF 88 103 #[.slice p.bw p.aV p.bt,.func (.func 104) #[] #[pv b1]] hb103 kr (containsI1 p.bw p.aV p.bt p.av 104 (pv b1) (fun c=> !(decide (0≤c)&&decide (c<p.aA))) _ (q18.sep S10) oz hb104 (fun i_ w_ hi_ S_=>val6_any p _ b1 w_ (dI (S10.nth 2 rfl) S_))) ?_
 rintro _ w11 ⟨rfl,T7⟩
 have S11:Sep w [box b3 [.slice p.bf p.aE p.bi,.slice p.bB p.aI p.bC,.slice p.bw p.aV p.bt] 26,box b2 [.func (.func 92) #[] #[]] 141,box b1 (ba p) 28] w11:=S10.trans T7
 refine J.b 2 [] [] [89] 89 (List.any p.av (fun c=> !(decide (0≤c)&&decide (c<p.aA)))) (fun fk17=>?_) fun fk17=>?_
 refine J.e 5 [.bool false] func60 (hR _ _ ?_)
 exact⟨congrArg Value.bool (bh (.inr (.inr (.inr (.inr (.inr (.inr (.inr (.inl (cellsL_any fk17)))))))))).symm,S11.nil⟩
 refine J.lb 18 [false,false] [] [78] S11 2 rfl 92 (iv p.aA)<|J.make (di Value.bool) false S11 93 78 4 1 p.aA p.aA ((p.aA).toNat) (.bool false) 1 kr om om kr kr kr rF om ?_
 intro b4 w12 S12
 refine J.lb 6 [] [(6,.slice (some ⟨b4,0,none⟩) ((List.replicate ((p.aA).toNat) false).length) ((p.aA).toNat))] [] S12 3 rfl 95 (.slice p.bf p.aE p.bi)<|J.lb 1 [] [] [] S12 3 rfl 97 (.slice p.bw p.aV p.bt)<|J.newSlice S12 98 2 [.slice p.bf p.aE p.bi,.slice p.bw p.aV p.bt] 26 kr ?_
 intro b5 w13 S13
 refine J.cf 0 [] [] [] 99 hb105 (concat2_any b5 p.bf p.aE p.bi p.ao p.bw p.aV p.bt p.av _ (q15.sep S13) (q18.sep S13) (S13.nth 0 rfl) om) ?_
 rintro _ w14 ⟨ra1,rc1,rfl,T8⟩
 have S14:Sep w [am aM ra1 rc1 3 1 (p.ao++p.av),box b5 [.slice p.bf p.aE p.bi,.slice p.bw p.aV p.bt] 26,am (di Value.bool) (some ⟨b4,0,none⟩) ((p.aA).toNat) 4 1 (List.replicate ((p.aA).toNat) false),box b3 [.slice p.bf p.aE p.bi,.slice p.bB p.aI p.bC,.slice p.bw p.aV p.bt] 26,box b2 [.func (.func 92) #[] #[]] 141,box b1 (ba p) 28] w14:=S13.trans T8
 have L60_1:∀ (mm_:Nat) (tk:List Bool) (k:Int) (w15:World),(0≤k)→(k≤((p.ao++p.av).length:Int))→(markP (p.ao++p.av) p.aA (k).toNat tk)→Sep w [am aM ra1 rc1 3 1 (p.ao++p.av),box b5 [.slice p.bf p.aE p.bi,.slice p.bw p.aV p.bt] 26,am (di Value.bool) (some ⟨b4,0,none⟩) ((p.aA).toNat) 4 1 tk,box b3 [.slice p.bf p.aE p.bi,.slice p.bB p.aI p.bC,.slice p.bw p.aV p.bt] 26,box b2 [.func (.func 92) #[] #[]] 141,box b1 (ba p) 28] w15→(((p.ao++p.av).length:Int)-k).toNat=mm_→J prog 60 117 R K60_0 [(101,iv k),(100,iv ((p.ao++p.av).length:Int)),(99,.slice ra1 ((p.ao++p.av).length) rc1),(6,.slice (some ⟨b4,0,none⟩) ((List.replicate ((p.aA).toNat) false).length) ((p.aA).toNat)),(1,pv b1)] w15:=by
  intro mm1
  induction mm1 using Nat.strongRecOn with
  | _ mm1 ih1 =>
  intro tk k w15 k0 k1 hM S15 hm1
  have hck0:=fun (j:Nat) (hj:j<(p.ao++p.av).length)=>getD_two (j:=j) ((cS (cellsL_none om fk13)).2) ((cS (cellsL_none om fk17)).2) hj
  have hck1:k<((p.ao++p.av).length:Int)→_:=fun h_=>hck0 k.toNat om
  have htk:=hM.1
  refine J.c 5 [] [] [] 102 (k<((p.ao++p.av).length:Int)) (fun fk18=>?_) fun fk18=>?_
  have hck:=hck1 om
  refine J.r 6 [true] [] [] ?_
  obtain ⟨p1,hp1⟩:=ck (S15.nth 0 rfl) (show 0<(p.ao++p.av).length by first | omega | (simp;omega))
  refine J.ok (OK.index 103 26 1 ra1 p1 ((p.ao++p.av).length) (k).toNat k (p1.add (k).toNat) kr kr hp1 om oz nO)<|J.ok (OK.ldCell 104 3 (p1.add (k).toNat) (iv ((p.ao++p.av).getD (k).toNat 0)) kr kr (cQ (g:=(Value.int .i64)) S15 0 rfl hp1 0 (k).toNat oz))<|J.r 7 [] [(106,iv ((p.ao++p.av).getD (k).toNat 0)),(105,.slice (some ⟨b4,0,none⟩) ((List.replicate ((p.aA).toNat) false).length) ((p.aA).toNat)),(8,iv ((p.ao++p.av).getD (k).toNat 0))] [] ?_
  obtain ⟨p2,hp2⟩:=ck (S15.nth 2 rfl) (show 0<(tk).length by first | omega | (simp;omega))
  refine J.ok (OK.index 107 78 1 (some ⟨b4,0,none⟩) p2 ((List.replicate ((p.aA).toNat) false).length) ((p.ao++p.av).getD (k).toNat 0).toNat ((p.ao++p.av).getD (k).toNat 0) (p2.add ((p.ao++p.av).getD (k).toNat 0).toNat) kr kr hp2 om oz nO)<|J.ok (OK.ldCell 108 4 (p2.add ((p.ao++p.av).getD (k).toNat 0).toNat) (.bool (tk.getD ((p.ao++p.av).getD (k).toNat 0).toNat false)) kr kr (cQ (g:=Value.bool) S15 2 rfl hp2 false ((p.ao++p.av).getD (k).toNat 0).toNat oz))<|J.b 1 [] [] [] 108 (tk.getD ((p.ao++p.av).getD (k).toNat 0).toNat false) (fun fk19=>?_) fun fk19=>?_
  refine J.e 5 [.bool false] func60 (hR _ _ ?_)
  exact⟨congrArg Value.bool (bh (.inr (.inr (.inr (.inr (.inr (.inr (.inr (.inr (.inr (.inl (mark_twice hM om hck fk19)))))))))))).symm,S15.nil⟩
  refine J.r 5 [false] [(110,iv ((p.ao++p.av).getD (k).toNat 0)),(109,.slice (some ⟨b4,0,none⟩) ((List.replicate ((p.aA).toNat) false).length) ((p.aA).toNat))] []<|J.ok (OK.index 111 78 1 (some ⟨b4,0,none⟩) p2 ((List.replicate ((p.aA).toNat) false).length) ((p.ao++p.av).getD (k).toNat 0).toNat ((p.ao++p.av).getD (k).toNat 0) (p2.add ((p.ao++p.av).getD (k).toNat 0).toNat) kr kr hp2 om oz nO)<|J.stRow1 Value.bool bool_one S15 2 tk 4 p2 ((p.ao++p.av).getD (k).toNat 0).toNat true rfl kr hp2 oz kr ?_
  intro w16 S16
  replace S16:Sep w [am aM ra1 rc1 3 1 (p.ao++p.av),box b5 [.slice p.bf p.aE p.bi,.slice p.bw p.aV p.bt] 26,am (di Value.bool) (some ⟨b4,0,none⟩) ((p.aA).toNat) 4 1 (tk.set ((p.ao++p.av).getD (k).toNat 0).toNat true),box b3 [.slice p.bf p.aE p.bi,.slice p.bB p.aI p.bC,.slice p.bw p.aV p.bt] 26,box b2 [.func (.func 92) #[] #[]] 141,box b1 (ba p) 28] w16:=S16
  exact J.wi 4 [] [] [] 112 (k+1)<|J.t 3 (ih1 _ (show(((p.ao++p.av).length:Int)-(k+1)).toNat<mm1 from by omega) (tk.set ((p.ao++p.av).getD (k).toNat 0).toNat true) (k+1) w16 om om (by rw[show(k+1).toNat=k.toNat+1 by omega];exact mark_step hM om hck fk19) S16 rfl)
  refine J.lb 5 [false] [] [] S15 5 rfl 114 (.slice p.cj p.bj p.cw)<|J.callF 115 103 #[.slice p.cj p.bj p.cw,.func (.func 106) #[] #[]] hb103 kr (containsI0 p.cj p.bj p.cw p.bM 106  (fun n=> !initB n) _ (q24.sep S15) oz hb106 (fun i_ w_ hi_ S_=>val7_any _ w_)) ?_
  rintro _ w17 ⟨rfl,T9⟩
  have S17:Sep w [am aM ra1 rc1 3 1 (p.ao++p.av),box b5 [.slice p.bf p.aE p.bi,.slice p.bw p.aV p.bt] 26,am (di Value.bool) (some ⟨b4,0,none⟩) ((p.aA).toNat) 4 1 tk,box b3 [.slice p.bf p.aE p.bi,.slice p.bB p.aI p.bC,.slice p.bw p.aV p.bt] 26,box b2 [.func (.func 92) #[] #[]] 141,box b1 (ba p) 28] w17:=S15.trans T9
  refine J.e 3 [.bool (!(List.any p.bM (fun n=> !initB n)))] func60 (hR _ _ ?_)
  exact⟨congrArg Value.bool (by show(!(p.bM.any (fun n=> !initB n)))=dz p;cases hz_:p.bM.any (fun n=> !initB n) with | true=>exact(bh (.inr (.inr (.inr (.inr (.inr (.inr (.inr (.inr (.inr (.inr (any_true_all hz_)))))))))))).symm | false=>exact(validP_yes om (eR fk8) (eR fk9) (eR fk10) (eR fk11) (cellsL_none om fk13) (cellsL_none om fk15) (cellsL_none om fk17) om (mark_end hM om) (eR hz_)).symm),S17.nil⟩
 exact J.t 5 (L60_1 _ (List.replicate ((p.aA).toNat) false) 0 w14 om om (mark_zero om) S14 rfl)
 refine J.e 5 [.bool false] func60 (hR _ _ ?_)
 exact⟨congrArg Value.bool (bh (.inr (.inr (.inr (.inr (.inr (.inr (.inr (.inr (.inl om)))))))))).symm,S1.nil⟩

end
end Go.Proofs.YtaoolgcddapegaaGreatDoor

namespace Go.Proofs.YtaoolgcddapegaaGreatDoor
noncomputable section
open Go.Eng Go.RowKit Go.Proofs.Tryz
set_option maxRecDepth 20000
set_option maxHeartbeats 20000000

theorem list_ext_getD {l m:List Int} (h:l.length=m.length) (h2:∀ k,k<l.length→l.getD k 0=m.getD k 0):l=m:=by
  apply List.ext_getElem h
  intro k h3 h4
  have:=h2 k h3
  simpa [List.getD,h3,h4] using this
theorem beq_no {l m:List Int} {n k:Nat} (h:l.length=n) (h2:m.length=k) (hne:(n:Int)≠k):(l==m)=false:=by
  rw[beq_eq_false_iff_ne];intro e;rw[e] at h;omega
theorem beq_at {l m:List Int} {i:Nat} (h:l.getD i 0≠m.getD i 0):(l==m)=false:=by
  rw[beq_eq_false_iff_ne];intro e;rw[e] at h;exact h rfl
theorem beq_all {l m:List Int} (h:l.length=m.length) (h2:∀ j,j<l.length→l.getD j 0=m.getD j 0):(l==m)=true:=by rw[beq_iff_eq];exact list_ext_getD h h2

theorem hb11:af prog 11:=fun _ _=>by kernel_rfl
def K11_0:=adv 33 [false] (bo Tryz.f11)
theorem same_any (x0 x1 x2 x3 x4 x5 x6 x7 x8 x9 x10 x11 x12 x13 x14 x15:Int) (y0 y1 y2 y3 y4 y5 y6 y7 y8 y9 y10 y11 y12 y13 y14 y15:Int) (la:Option Addr) (na ca:Nat) (xl:List Int) (lb:Option Addr) (nb cb:Nat) (yl:List Int) (w:World) (ha:dk w la na xl) (hb:dk w lb nb yl) (hla:na≤9223372036854775807):Ret prog 11 #[.agg #[iv x0,iv x1,iv x2,iv x3,iv x4,iv x5,iv x6,iv x7,iv x8,iv x9,iv x10,iv x11,iv x12,iv x13,iv x14,iv x15,.slice la na ca],.agg #[iv y0,iv y1,iv y2,iv y3,iv y4,iv y5,iv y6,iv y7,iv y8,iv y9,iv y10,iv y11,iv y12,iv y13,iv y14,iv y15,.slice lb nb cb]] w (fun v w'=>v=.bool (sameR [x0,x1,x2,x3,x4,x5,x6,x7,x8,x9,x10,x11,x12,x13,x14,x15] [y0,y1,y2,y3,y4,y5,y6,y7,y8,y9,y10,y11,y12,y13,y14,y15] xl yl)∧Sep w [] w'):=by
 refine Ret.st (N:=38) func11 fun R hR S0=>?_
 have hla_:=ha.len_eq
 have hlb_:=hb.len_eq
 refine J.nw 2 [] [] [] S0 2 [iv x0,iv x1,iv x2,iv x3,iv x4,iv x5,iv x6,iv x7,iv x8,iv x9,iv x10,iv x11,iv x12,iv x13,iv x14,iv x15,.slice la na ca] 31 fun b1 w1 S1=>J.nw 0 [] [] [] S1 3 [iv y0,iv y1,iv y2,iv y3,iv y4,iv y5,iv y6,iv y7,iv y8,iv y9,iv y10,iv y11,iv y12,iv y13,iv y14,iv y15,.slice lb nb cb] 31 fun b2 w2 S2=>J.lb 6 [] [] [] S2 1 rfl 7 (.agg #[iv x0,iv x1,iv x2,iv x3,iv x4,iv x5,iv x6,iv x7,iv x8,iv x9,iv x10,iv x11,iv x12,iv x13,iv x14,iv x15])<|J.lb 1 [] [] [] S2 0 rfl 9 (.agg #[iv y0,iv y1,iv y2,iv y3,iv y4,iv y5,iv y6,iv y7,iv y8,iv y9,iv y10,iv y11,iv y12,iv y13,iv y14,iv y15])<|J.ok (OK.eqS 10 false 29 #[iv x0,iv x1,iv x2,iv x3,iv x4,iv x5,iv x6,iv x7,iv x8,iv x9,iv x10,iv x11,iv x12,iv x13,iv x14,iv x15] #[iv y0,iv y1,iv y2,iv y3,iv y4,iv y5,iv y6,iv y7,iv y8,iv y9,iv y10,iv y11,iv y12,iv y13,iv y14,iv y15] ((x0==y0)&&((x1==y1)&&((x2==y2)&&((x3==y3)&&((x4==y4)&&((x5==y5)&&((x6==y6)&&((x7==y7)&&((x8==y8)&&((x9==y9)&&((x10==y10)&&((x11==y11)&&((x12==y12)&&((x13==y13)&&((x14==y14)&&((x15==y15)&&true)))))))))))))))) kr kr kr (!((x0==y0)&&((x1==y1)&&((x2==y2)&&((x3==y3)&&((x4==y4)&&((x5==y5)&&((x6==y6)&&((x7==y7)&&((x8==y8)&&((x9==y9)&&((x10==y10)&&((x11==y11)&&((x12==y12)&&((x13==y13)&&((x14==y14)&&(x15==y15))))))))))))))))) (by simp))<|J.bn 1 [] [] [] 11 ((x0==y0)&&((x1==y1)&&((x2==y2)&&((x3==y3)&&((x4==y4)&&((x5==y5)&&((x6==y6)&&((x7==y7)&&((x8==y8)&&((x9==y9)&&((x10==y10)&&((x11==y11)&&((x12==y12)&&((x13==y13)&&((x14==y14)&&(x15==y15)))))))))))))))) (fun fk1=>?_) fun fk1=>?_
 refine J.lb 1 [] [] [] S2 1 rfl 13 (.slice la na ca)<|J.lb 2 [] [(14,iv (na:Int))] [] S2 0 rfl 16 (.slice lb nb cb)<|J.cn 4 [] [] [] 19 ((na:Int)=(nb:Int)) (fun fk2=>?_) fun fk2=>?_
 have L11_1:∀ (mm_:Nat) (i:Int) (w3:World),(0≤i)→(i≤(na:Int))→(∀ j,j<(i).toNat→xl.getD j 0=yl.getD j 0)→Sep w [box b2 [iv y0,iv y1,iv y2,iv y3,iv y4,iv y5,iv y6,iv y7,iv y8,iv y9,iv y10,iv y11,iv y12,iv y13,iv y14,iv y15,.slice lb nb cb] 31,box b1 [iv x0,iv x1,iv x2,iv x3,iv x4,iv x5,iv x6,iv x7,iv x8,iv x9,iv x10,iv x11,iv x12,iv x13,iv x14,iv x15,.slice la na ca] 31] w3→((na:Int)-i).toNat=mm_→J prog 11 38 R K11_0 [(5,iv i),(3,pv b2),(2,pv b1)] w3:=by
  intro mm1
  induction mm1 using Nat.strongRecOn with
  | _ mm1 ih1 =>
  intro i w3 h0 h1 hq S3 hm1
  refine J.lb 5 [] [(20,iv i)] [] S3 1 rfl 22 (.slice la na ca)<|J.c 3 [] [] [] 24 (i<(na:Int)) (fun fk3=>?_) fun fk3=>?_
  refine J.r 5 [true] [] [] ?_
  obtain ⟨p1,hp1,hc1⟩:=ha.at 0 (i).toNat om
  obtain ⟨p2,hp2,hc2⟩:=hb.at 0 (i).toNat om
  refine J.drawStill S3 11 Tryz.mixed kr kr kr ?_
  intro w4 S4
  refine SL.r 27 (.pointer (some ⟨b1,16,none⟩))<|SL.lb S4 1 rfl 28 (.slice la na ca)<|SL.r 29 (iv i)<|SL.ok dE (OK.index 30 26 1 la p1 na (i).toNat i (p1.add (i).toNat) kr kr hp1 om om nO)<|SL.ok dE (OK.ldCell 31 3 (p1.add (i).toNat) (iv (xl.getD (i).toNat 0)) kr kr (S4.cell hc1))<|SL.r 32 (.pointer (some ⟨b2,16,none⟩))<|SL.lb S4 0 rfl 33 (.slice lb nb cb)<|SL.r 34 (iv i)<|SL.ok dE (OK.index 35 26 1 lb p2 nb (i).toNat i (p2.add (i).toNat) kr kr hp2 om om nO)<|SL.ok dE (OK.ldCell 36 3 (p2.add (i).toNat) (iv (yl.getD (i).toNat 0)) kr kr (S4.cell hc2))<|SL.r 37 (.bool ((xl.getD (i).toNat 0) != (yl.getD (i).toNat 0))) ?_
  refine SL.done<|TL.done kr<|J.cn 0 [] [] [] 37 ((xl.getD (i).toNat 0)=(yl.getD (i).toNat 0)) (fun fk4=>?_) fun fk4=>?_
  exact J.wi 6 [false] [] [] 26 (i+1)<|J.t 3 (ih1 _ (show((na:Int)-(i+1)).toNat<mm1 from by omega) (i+1) w4 om om (by intro j hj;by_cases e:j=i.toNat;(subst e;exact fk4);exact hq j om) S4 rfl)
  refine J.e 5 [.bool false] func11 (hR _ _ ?_)
  exact⟨congrArg Value.bool (sameR_no (.inr (.inr ⟨i.toNat,fk4⟩))).symm,S4.nil⟩
  refine J.e 6 [.bool true] func11 (hR _ _ ?_)
  have hre:([x0,x1,x2,x3,x4,x5,x6,x7,x8,x9,x10,x11,x12,x13,x14,x15]==[y0,y1,y2,y3,y4,y5,y6,y7,y8,y9,y10,y11,y12,y13,y14,y15])=true:=by simp only[List.cons_beq_cons];simpa using fk1
  have hle:xl=yl:=list_ext_getD om (fun j hj=>hq j om)
  exact⟨congrArg Value.bool (by unfold sameR;rw[hre,hle,beq_self_eq_true];rfl),S3.nil⟩
 exact J.t 9 (L11_1 _ 0 w2 om om (by intro j hj;simp at hj) S2 rfl)
 refine J.e 5 [.bool false] func11 (hR _ _ ?_)
 exact⟨congrArg Value.bool (sameR_no (.inr (.inl om))).symm,S2.nil⟩
 refine J.e 14 [.bool false] func11 (hR _ _ ?_)
 have hre:([x0,x1,x2,x3,x4,x5,x6,x7,x8,x9,x10,x11,x12,x13,x14,x15]==[y0,y1,y2,y3,y4,y5,y6,y7,y8,y9,y10,y11,y12,y13,y14,y15])=false:=by simp only[List.cons_beq_cons];simpa using fk1
 exact⟨congrArg Value.bool (sameR_no (.inl hre)).symm,S2.nil⟩
theorem hb23:af prog 23:=fun _ _=>by kernel_rfl

theorem great1_any (m:Mp) (w:World):Ret prog 23 #[.agg (mpA m)] w (fun v w'=>v=.bool (bigM m)∧Sep w [] w'):=by
 refine Ret.st (N:=19) func23 fun R hR S0=>J.nw 2 [] [] [] S0 1 (mpC m) 62 fun b1 w1 S1=>J.lb 5 [] [] [] S1 0 rfl 4 (.slice m.cD m.aS m.dr)<|J.c 3 [] [] [] 7 ((m.aS:Int)>40) (fun fk1=>?_) fun fk1=>?_
 refine J.e 13 [.bool true] func23 (hR _ _ ?_)
 exact⟨congrArg Value.bool (by unfold bigM;first | (simp[fk1];done) | (simp[fk1];omega)),S1.nil⟩
 refine J.lb 1 [] [] [] S1 0 rfl 9 (.slice m.cM m.bH m.dB)<|J.c 4 [] [] [] 13 ((m.bH:Int)>40) (fun fk2=>?_) fun fk2=>?_
 refine J.e 7 [.bool true] func23 (hR _ _ ?_)
 exact⟨congrArg Value.bool (by unfold bigM;first | (simp[fk1,fk2];done) | (simp[fk1,fk2];omega)),S1.nil⟩
 refine J.lb 1 [] [] [] S1 0 rfl 15 (.slice m.gZ_a m.dL m.gZ_c)<|J.e 5 [.bool (decide ((m.dL:Int)>40))] func23 (hR _ _ ?_)
 exact⟨congrArg Value.bool (by unfold bigM;first | (simp[fk1,fk2];done) | (simp[fk1,fk2];omega)),S1.nil⟩

theorem hb25:af prog 25:=fun _ _=>by kernel_rfl

theorem great2_any (c:Crv) (w:World):Ret prog 25 #[.agg (crvA c)] w (fun v w'=>v=.bool (bigC c)∧Sep w [] w'):=by
 refine Ret.st (N:=7) func25 fun R hR S0=>J.nw 2 [] [] [] S0 1 (crvC c) 66 fun b1 w1 S1=>J.lb 5 [] [] [] S1 0 rfl 4 (.slice c.cD c.aS c.dr)<|J.e 4 [.bool (decide ((c.aS:Int)>100))] func25 (hR _ _ ?_)
 exact⟨rfl,S1.nil⟩

theorem hb8:af prog 8:=fun _ _=>by kernel_rfl

theorem great_any (p:Prg) (w:World) (hp:prgQ w p):Ret prog 8 #[.agg (eb p)] w (fun v w'=>∃ b,v=.bool b∧Sep w [] w'):=by
 refine Ret.st (N:=69) func8 fun R hR S0=>?_
 obtain ⟨q1,q2,q3,q4,q5,q6,q7,q8,q9,q10,q11,q12,q13,q14,q15,q16,q17,q18,q19,q20,q21,q22,q23,q24,q25,_⟩:=id hp
 have ql1:=q2.len_eq
 have ql2:=q5.len_eq
 have ql3:=q8.len_eq
 have ql4:=q11.len_eq
 have ql5:=q15.len_eq
 have ql6:=q18.len_eq
 have ql7:=q21.len_eq
 have ql8:=q24.len_eq
 refine J.nw 2 [] [] [] S0 1 (ba p) 28 fun b1 w1 S1=>J.lb 5 [] [] [] S1 0 rfl 4 (.slice p.cJ p.bu p.dn)<|J.c 3 [] [] [] 7 ((p.bu:Int)>120) (fun fk1=>?_) fun fk1=>?_
 refine J.e 63 [.bool true] func8 (hR _ _ ?_)
 exact⟨_,rfl,S1.nil⟩
 refine J.lb 1 [] [] [] S1 0 rfl 9 (.slice p.aK p.al p.br)<|J.c 4 [] [] [] 13 ((p.al:Int)>120) (fun fk2=>?_) fun fk2=>?_
 refine J.e 57 [.bool true] func8 (hR _ _ ?_)
 exact⟨_,rfl,S1.nil⟩
 refine J.lb 1 [] [] [] S1 0 rfl 15 (.slice p.bO p.bg p.bX)<|J.c 4 [] [] [] 19 ((p.bg:Int)>120) (fun fk3=>?_) fun fk3=>?_
 refine J.e 51 [.bool true] func8 (hR _ _ ?_)
 exact⟨_,rfl,S1.nil⟩
 refine J.lb 1 [] [] [] S1 0 rfl 21 (.slice p.cu p.bI p.cI)<|J.c 4 [] [] [] 25 ((p.bI:Int)>10) (fun fk4=>?_) fun fk4=>?_
 refine J.e 45 [.bool true] func8 (hR _ _ ?_)
 exact⟨_,rfl,S1.nil⟩
 refine J.lb 1 [] [] [] S1 0 rfl 27 (iv p.aA)<|J.c 2 [] [] [] 29 (p.aA>120) (fun fk5=>?_) fun fk5=>?_
 refine J.lb 1 [] [] [] S1 0 rfl 31 (iv p.aA)<|J.c 4 [] [] [] 35 (p.aA≤1000) (fun fk6=>?_) fun fk6=>?_
 refine J.e 35 [.bool true] func8 (hR _ _ ?_)
 exact⟨_,rfl,S1.nil⟩
 refine J.lb 1 [] [] [] S1 0 rfl 37 (.slice p.bf p.aE p.bi)<|J.c 4 [] [] [] 41 ((p.aE:Int)>120) (fun fk7=>?_) fun fk7=>?_
 refine J.e 29 [.bool true] func8 (hR _ _ ?_)
 exact⟨_,rfl,S1.nil⟩
 refine J.lb 1 [] [] [] S1 0 rfl 43 (.slice p.bB p.aI p.bC)<|J.c 4 [] [] [] 47 ((p.aI:Int)>120) (fun fk8=>?_) fun fk8=>?_
 refine J.e 23 [.bool true] func8 (hR _ _ ?_)
 exact⟨_,rfl,S1.nil⟩
 refine J.lb 1 [] [] [] S1 0 rfl 49 (.slice p.bw p.aV p.bt)<|J.c 4 [] [] [] 53 ((p.aV:Int)>120) (fun fk9=>?_) fun fk9=>?_
 refine J.e 17 [.bool true] func8 (hR _ _ ?_)
 exact⟨_,rfl,S1.nil⟩
 refine J.lb 1 [] [] [] S1 0 rfl 55 (.slice p.cj p.bj p.cw)<|J.c 4 [] [] [] 59 ((p.bj:Int)>120) (fun fk10=>?_) fun fk10=>?_
 refine J.e 11 [.bool true] func8 (hR _ _ ?_)
 exact⟨_,rfl,S1.nil⟩
 refine J.lb 1 [] [] [] S1 0 rfl 61 (.slice p.cu p.bI p.cI)<|J.callF 62 22 #[.slice p.cu p.bI p.cI,.func (.func 23) #[] #[]] hb22 kr (containsMP0 p.cu p.bI p.cI p.cB 23  bigM _ (q11.sep S1) oz hb23 (fun i_ w_ hi_ S_=>great1_any _ w_)) ?_
 rintro _ w2 ⟨rfl,T1⟩
 have S2:Sep w [box b1 (ba p) 28] w2:=S1.trans T1
 refine J.b 2 [] [] [] 64 (List.any p.cB bigM) (fun fk11=>?_) fun fk11=>?_
 refine J.e 6 [.bool true] func8 (hR _ _ ?_)
 exact⟨_,rfl,S2.nil⟩
 refine J.lb 1 [] [] [] S2 0 rfl 66 (.slice p.bO p.bg p.bX)<|J.callF 67 24 #[.slice p.bO p.bg p.bX,.func (.func 25) #[] #[]] hb24 kr (containsCV0 p.bO p.bg p.bX p.bN 25  bigC _ (q8.sep S2) oz hb25 (fun i_ w_ hi_ S_=>great2_any _ w_)) ?_
 rintro _ w3 ⟨rfl,T2⟩
 have S3:Sep w [box b1 (ba p) 28] w3:=S2.trans T2
 refine J.e 3 [.bool (List.any p.bN bigC)] func8 (hR _ _ ?_)
 exact⟨_,rfl,S3.nil⟩
 refine J.lb 7 [] [(35,.bool false)] [] S1 0 rfl 37 (.slice p.bf p.aE p.bi)<|J.c 4 [] [] [] 41 ((p.aE:Int)>120) (fun fk12=>?_) fun fk12=>?_
 refine J.e 29 [.bool true] func8 (hR _ _ ?_)
 exact⟨_,rfl,S1.nil⟩
 refine J.lb 1 [] [] [] S1 0 rfl 43 (.slice p.bB p.aI p.bC)<|J.c 4 [] [] [] 47 ((p.aI:Int)>120) (fun fk13=>?_) fun fk13=>?_
 refine J.e 23 [.bool true] func8 (hR _ _ ?_)
 exact⟨_,rfl,S1.nil⟩
 refine J.lb 1 [] [] [] S1 0 rfl 49 (.slice p.bw p.aV p.bt)<|J.c 4 [] [] [] 53 ((p.aV:Int)>120) (fun fk14=>?_) fun fk14=>?_
 refine J.e 17 [.bool true] func8 (hR _ _ ?_)
 exact⟨_,rfl,S1.nil⟩
 refine J.lb 1 [] [] [] S1 0 rfl 55 (.slice p.cj p.bj p.cw)<|J.c 4 [] [] [] 59 ((p.bj:Int)>120) (fun fk15=>?_) fun fk15=>?_
 refine J.e 11 [.bool true] func8 (hR _ _ ?_)
 exact⟨_,rfl,S1.nil⟩
 refine J.lb 1 [] [] [] S1 0 rfl 61 (.slice p.cu p.bI p.cI)<|J.callF 62 22 #[.slice p.cu p.bI p.cI,.func (.func 23) #[] #[]] hb22 kr (containsMP0 p.cu p.bI p.cI p.cB 23  bigM _ (q11.sep S1) oz hb23 (fun i_ w_ hi_ S_=>great1_any _ w_)) ?_
 rintro _ w4 ⟨rfl,T3⟩
 have S4:Sep w [box b1 (ba p) 28] w4:=S1.trans T3
 refine J.b 2 [] [] [] 64 (List.any p.cB bigM) (fun fk16=>?_) fun fk16=>?_
 refine J.e 6 [.bool true] func8 (hR _ _ ?_)
 exact⟨_,rfl,S4.nil⟩
 refine J.lb 1 [] [] [] S4 0 rfl 66 (.slice p.bO p.bg p.bX)<|J.callF 67 24 #[.slice p.bO p.bg p.bX,.func (.func 25) #[] #[]] hb24 kr (containsCV0 p.bO p.bg p.bX p.bN 25  bigC _ (q8.sep S4) oz hb25 (fun i_ w_ hi_ S_=>great2_any _ w_)) ?_
 rintro _ w5 ⟨rfl,T4⟩
 have S5:Sep w [box b1 (ba p) 28] w5:=S4.trans T4
 refine J.e 3 [.bool (List.any p.bN bigC)] func8 (hR _ _ ?_)
 exact⟨_,rfl,S5.nil⟩
end
end Go.Proofs.YtaoolgcddapegaaGreatDoor
