/- Walks of functions of this seat, printed by a program over the engine. Conditions: as each theorem says. -/
import Derived.Test.YtaoolgcddapegaaGreatDoorZtX22
import Derived.Test.YtaoolgcddapegaaGreatDoorZtG47
import Derived.Test.YtaoolgcddapegaaGreatDoorZtF34
set_option linter.unusedSimpArgs false
set_option linter.unusedVariables false
namespace Go.Proofs.YtaoolgcddapegaaGreatDoor
open Go.Eng Go.RowKit Go.Proofs.Tryz
set_option maxRecDepth 20000
set_option maxHeartbeats 20000000
theorem form_q {i:Ins} (h:df i=true) (w:World):insQ w i:=by
  have hp:=dM.1 h
  exact⟨om,om,om,om,om,trivial⟩
theorem parI_q (s:ByteArray) (w:World):insQ w (dH s):=by
  have h0:insQ w br:=⟨dE,dE,dE,dE,dE,trivial⟩
  unfold dH
  split
  · exact h0
  · split
    · rename_i j hj;exact form_q (filter_some hj).2 w
    · exact h0
theorem hb20:af prog 20:=fun _ _=>by kernel_rfl

theorem bequal_any (la:Option Addr) (na ca:Nat) (xa:List Int) (lb:Option Addr) (nb cb:Nat) (xb:List Int) (w:World) (ha:Ones (Value.int .u8) w la na xa) (hb:Ones (Value.int .u8) w lb nb xb) (hpa:∀ p,la=some p→p=⟨p.block,p.off,none⟩) (hpb:∀ p,lb=some p→p=⟨p.block,p.off,none⟩):Ret prog 20 #[.slice la na ca,.slice lb nb cb] w (fun v w'=>v=.bool ((bytesB xa).toList==(bytesB xb).toList)∧Sep w [] w'):=by
 refine Ret.st (N:=10) func20 fun R hR S0=>J.r 7 [] [(5,.slice la na ca)] []<|J.ok (OK.bytes 6 52 9 la na ca xa kr kr (ha.sep S0) hpa)<|J.r 1 [] [(7,.slice lb nb cb)] []<|J.ok (OK.bytes 8 52 9 lb nb cb xb kr kr (hb.sep S0) hpb)<|J.e 3 [.bool ((bytesB xa).toList==(bytesB xb).toList)] func20 (hR _ _ ?_)
 exact⟨rfl,S0.nil⟩

theorem hb7:af prog 7:=fun _ _=>by kernel_rfl

theorem awake_any  (w:World) (hW:TabW w):Ret prog 7 #[] w (fun v w'=>v=.bool true∧Sep w [] w'):=by
 refine Ret.st (N:=35) func7 fun R hR S0=>?_
 have hpi:=parI_q (⟨#[109,117,108,32,114,50,32,114,48,32,114,49,32,49,55]⟩:ByteArray) w
 have hxs:(⟨#[109,117,108,32,114,50,32,114,48,32,114,49,32,49,55]⟩:ByteArray).size=15:=rfl
 refine J.cf 7 [] [] [] 7 hb18 (encode_any (⟨1,0,0,0,-5⟩:Ins) _ (show insQ _ (⟨1,0,0,0,-5⟩:Ins) from ⟨(show(-9223372036854775808)≤(1:Int)∧(1:Int)≤9223372036854775807 from by omega),(show(-9223372036854775808)≤(0:Int)∧(0:Int)≤9223372036854775807 from by omega),(show(-9223372036854775808)≤(0:Int)∧(0:Int)≤9223372036854775807 from by omega),(show(-9223372036854775808)≤(0:Int)∧(0:Int)≤9223372036854775807 from by omega),(show(-9223372036854775808)≤(-5:Int)∧(-5:Int)≤9223372036854775807 from by omega),trivial⟩)) ?_
 rintro _ w1 ⟨ra1,rc1,rfl,T1⟩
 have S1:Sep w [ap (dh (Value.int .u8)) ra1 rc1 5 1 (encX (⟨1,0,0,0,-5⟩:Ins))] w1:=S0.trans T1
 have:=encX_len (⟨1,0,0,0,-5⟩:Ins)
 refine J.c0 8 [] [(2,iv (encE (⟨1,0,0,0,-5⟩:Ins))),(1,.slice ra1 ((encX (⟨1,0,0,0,-5⟩:Ins)).length) rc1)] [] S1 11 hb19 (mparse_any (⟨#[109,117,108,32,114,50,32,114,48,32,114,49,32,49,55]⟩:ByteArray) _ om (tabW_sep hW S1)) fun w2 S2=>J.nw 3 [] [(13,iv (parIE (⟨#[109,117,108,32,114,50,32,114,48,32,114,49,32,49,55]⟩:ByteArray))),(12,.agg (de (dH (⟨#[109,117,108,32,114,50,32,114,48,32,114,49,32,49,55]⟩:ByteArray))))] [] S2 3 [iv 0,iv 0,iv 0,iv 0,iv 0] 48 fun b1 w3 S3=>J.sb 0 [] [] [] S3 0 rfl (aO (dH (⟨#[109,117,108,32,114,50,32,114,48,32,114,49,32,49,55]⟩:ByteArray))) rfl fun w4 S4=>?_
 have fk2:(encE (⟨1,0,0,0,-5⟩:Ins))=0:=kr
 refine J.h 7 [] [(4,iv (parIE (⟨#[109,117,108,32,114,50,32,114,48,32,114,49,32,49,55]⟩:ByteArray)))] [] 16 (.bool ((encE (⟨1,0,0,0,-5⟩:Ins))==0)) (.bool true) (congrArg Value.bool (beq_iff_eq.2 fk2))<|J.r 1 [] [(17,.slice ra1 ((encX (⟨1,0,0,0,-5⟩:Ins)).length) rc1)] []<|J.newSlice S4 18 12 [.int .u8 1,.int .u8 0,.int .u8 0,.int .u8 0,.int .u8 255,.int .u8 255,.int .u8 255,.int .u8 255,.int .u8 255,.int .u8 255,.int .u8 255,.int .u8 251] 5 kr ?_
 intro b2 w5 S5
 have:=az (S5.nth 2 rfl)
 have:=az (S5.nth 2 rfl)
 refine J.c0 0 [] [] [] S5 19 hb20 (bequal_any ra1 ((encX (⟨1,0,0,0,-5⟩:Ins)).length) rc1 (encX (⟨1,0,0,0,-5⟩:Ins)) (some ⟨b2,0,none⟩) 12 12 ([1,0,0,0,255,255,255,255,255,255,255,251]) _ ((aC (S5.nth 2 rfl) ((encX (⟨1,0,0,0,-5⟩:Ins)).length) rO)) ((show Ones (Value.int .u8) w5 (some ⟨b2,0,none⟩) 12 [1,0,0,0,255,255,255,255,255,255,255,251] from ⟨rfl,bX (S5.nth 0 rfl)⟩)) (fun p hp=>by rw[rowOf_plain (S5.nth 2 rfl) p hp]) (fun p hp=>by cases hp;rfl)) fun w6 S6=>?_
 have fk4:((bytesB (encX (⟨1,0,0,0,-5⟩:Ins))).toList==(bytesB ([1,0,0,0,255,255,255,255,255,255,255,251])).toList)=true:=kr
 refine J.h 2 [] [] [] 21 (.bool ((bytesB (encX (⟨1,0,0,0,-5⟩:Ins))).toList==(bytesB ([1,0,0,0,255,255,255,255,255,255,255,251])).toList)) (.bool true) (congrArg Value.bool fk4) ?_
 have fk6:(parIE (⟨#[109,117,108,32,114,50,32,114,48,32,114,49,32,49,55]⟩:ByteArray))=0:=kr
 refine J.h 4 [] [] [] 25 (.bool ((parIE (⟨#[109,117,108,32,114,50,32,114,48,32,114,49,32,49,55]⟩:ByteArray))==0)) (.bool true) (congrArg Value.bool (beq_iff_eq.2 fk6))<|J.lb 0 [] [] [] S6 1 rfl 26 (.agg (de (dH (⟨#[109,117,108,32,114,50,32,114,48,32,114,49,32,49,55]⟩:ByteArray))))<|J.r 1 [] [(27,.agg #[iv 7,iv 2,iv 0,iv 1,iv 17])] []<|J.ok (OK.eqS 28 true 48 (de (dH (⟨#[109,117,108,32,114,50,32,114,48,32,114,49,32,49,55]⟩:ByteArray))) #[iv 7,iv 2,iv 0,iv 1,iv 17] ((((dH (⟨#[109,117,108,32,114,50,32,114,48,32,114,49,32,49,55]⟩:ByteArray)).gOp)==7)&&((((dH (⟨#[109,117,108,32,114,50,32,114,48,32,114,49,32,49,55]⟩:ByteArray)).gA)==2)&&((((dH (⟨#[109,117,108,32,114,50,32,114,48,32,114,49,32,49,55]⟩:ByteArray)).gB)==0)&&((((dH (⟨#[109,117,108,32,114,50,32,114,48,32,114,49,32,49,55]⟩:ByteArray)).gC)==1)&&((((dH (⟨#[109,117,108,32,114,50,32,114,48,32,114,49,32,49,55]⟩:ByteArray)).gK)==17)&&true))))) kr kr kr ((((dH (⟨#[109,117,108,32,114,50,32,114,48,32,114,49,32,49,55]⟩:ByteArray)).gOp)==7)&&((((dH (⟨#[109,117,108,32,114,50,32,114,48,32,114,49,32,49,55]⟩:ByteArray)).gA)==2)&&((((dH (⟨#[109,117,108,32,114,50,32,114,48,32,114,49,32,49,55]⟩:ByteArray)).gB)==0)&&((((dH (⟨#[109,117,108,32,114,50,32,114,48,32,114,49,32,49,55]⟩:ByteArray)).gC)==1)&&(((dH (⟨#[109,117,108,32,114,50,32,114,48,32,114,49,32,49,55]⟩:ByteArray)).gK)==17))))) (by simp)) ?_
 have fk8:((((dH (⟨#[109,117,108,32,114,50,32,114,48,32,114,49,32,49,55]⟩:ByteArray)).gOp)==7)&&((((dH (⟨#[109,117,108,32,114,50,32,114,48,32,114,49,32,49,55]⟩:ByteArray)).gA)==2)&&((((dH (⟨#[109,117,108,32,114,50,32,114,48,32,114,49,32,49,55]⟩:ByteArray)).gB)==0)&&((((dH (⟨#[109,117,108,32,114,50,32,114,48,32,114,49,32,49,55]⟩:ByteArray)).gC)==1)&&(((dH (⟨#[109,117,108,32,114,50,32,114,48,32,114,49,32,49,55]⟩:ByteArray)).gK)==17)))))=true:=kr
 refine J.h 2 [] [] [] 30 (.bool ((((dH (⟨#[109,117,108,32,114,50,32,114,48,32,114,49,32,49,55]⟩:ByteArray)).gOp)==7)&&((((dH (⟨#[109,117,108,32,114,50,32,114,48,32,114,49,32,49,55]⟩:ByteArray)).gA)==2)&&((((dH (⟨#[109,117,108,32,114,50,32,114,48,32,114,49,32,49,55]⟩:ByteArray)).gB)==0)&&((((dH (⟨#[109,117,108,32,114,50,32,114,48,32,114,49,32,49,55]⟩:ByteArray)).gC)==1)&&(((dH (⟨#[109,117,108,32,114,50,32,114,48,32,114,49,32,49,55]⟩:ByteArray)).gK)==17)))))) (.bool true) (congrArg Value.bool fk8)<|J.lb 0 [] [] [] S6 1 rfl 31 (.agg (de (dH (⟨#[109,117,108,32,114,50,32,114,48,32,114,49,32,49,55]⟩:ByteArray))))<|J.c0 0 [] [] [] S6 32 hb21 (mtext_any (dH (⟨#[109,117,108,32,114,50,32,114,48,32,114,49,32,49,55]⟩:ByteArray)) _ (dd hpi S6) (tabW_sep hW S6)) fun w7 S7=>J.e 4 [.bool ((textI (dH (⟨#[109,117,108,32,114,50,32,114,48,32,114,49,32,49,55]⟩:ByteArray))).toList==(⟨#[109,117,108,32,114,50,32,114,48,32,114,49,32,49,55]⟩:ByteArray).toList)] func7 (hR _ _ ?_)
 exact⟨congrArg Value.bool kr,S7.nil⟩

end Go.Proofs.YtaoolgcddapegaaGreatDoor

namespace Go.Proofs.YtaoolgcddapegaaGreatDoor
open Go.Eng Go.RowKit
set_option maxRecDepth 20000
set_option maxHeartbeats 20000000
theorem getD_set_ne {l:List Int} {i j:Nat} {x:Int} (h:j≠i):(l.set i x).getD j 0=l.getD j 0:=by
  rw[List.getD_eq_getElem?_getD,List.getD_eq_getElem?_getD,List.getElem?_set_ne (fun e=>h e.symm)]
theorem stR_len {p:Prg} {n:Nat} {rs cs:List Int} {k:Int} (h:rs.length=16):(stR p n rs cs k).length=16:=by
  unfold stR;split
  · rw[exR_len];exact h
  · rfl
theorem same_mx (rx ry:List Int) (la:Option Addr) (na ca:Nat) (xl:List Int) (lb:Option Addr) (nb cb:Nat) (yl:List Int) (w:World) (hx:rx.length=16) (hy:ry.length=16) (ha:dG w la na xl) (hb:dG w lb nb yl) (hla:na≤9223372036854775807):Ret Tryz.prog 11 #[.agg (mxA rx [.slice la na ca]),.agg (mxA ry [.slice lb nb cb])] w (fun v w'=>v=.bool (sameR rx ry xl yl)∧Sep w [] w'):=by
  obtain ⟨x0,x1,x2,x3,x4,x5,x6,x7,x8,x9,x10,x11,x12,x13,x14,x15,rfl⟩:=list16 hx
  obtain ⟨y0,y1,y2,y3,y4,y5,y6,y7,y8,y9,y10,y11,y12,y13,y14,y15,rfl⟩:=list16 hy
  exact same_any x0 x1 x2 x3 x4 x5 x6 x7 x8 x9 x10 x11 x12 x13 x14 x15 y0 y1 y2 y3 y4 y5 y6 y7 y8 y9 y10 y11 y12 y13 y14 y15 la na ca xl lb nb cb yl w ha hb hla
end Go.Proofs.YtaoolgcddapegaaGreatDoor
namespace Go.Proofs.YtaoolgcddapegaaGreatDoor
noncomputable section
open Go.Eng Go.RowKit Go.Proofs.Tryz
set_option maxRecDepth 20000
set_option maxHeartbeats 20000000
def K5_0:=adv 76 [false,false,false,false] (bl Tryz.f5)
abbrev K5H0 (b3:Nat) (p:Prg) (n:Nat) (rs:List Int) (cs:List Int) (k:Int) (ra1:Option Addr) (rc1:Nat) (b2:Nat) (la:Option Addr) (c:Nat) (b1:Nat):List Eng.Claim:=[box b3 (mxC (stR p n rs (cs) k) [.slice ra1 ((stC p n rs (cs) k).length) rc1]) 31,ap aT ra1 rc1 3 1 (stC p n rs (cs) k),box b2 (mxC rs [.slice la n c]) 31,box b1 [.slice p.cB p.bG p.cY,.slice p.aH p.al p.bg,.slice p.bJ p.aX p.bR,.slice p.ck p.bF p.cA,iv p.aB,.slice p.bt p.bc p.bp,.slice p.bj p.aP p.bh,.slice p.bH p.bu p.bE,.slice p.cg p.ba p.cj] 28]
theorem lawsteps_any (p:Prg) (rs:List Int) (la:Option Addr) (n c:Nat) (cs:List Int) (k:Int) (w:World) (hrs:rs.length=16) (hp:prgQ w p) (hI:dG w la n cs) (hW:TabW w):Ret prog 5 #[.agg (dZ p),.agg (mxA rs [.slice la n c]),iv k] w (fun v w'=>v=.bool true∧Sep w [] w'):=by
 refine Ret.st (N:=111) func5 fun R hR S0=>?_
 obtain ⟨q1,q2,q3,q4,q5,q6,q7,q8,q9,q10,q11,q12,q13,q14,q15,q16,q17,q18,q19,q20,q21,q22,q23,q24,q25,_⟩:=id hp
 have ql1:=q2.len_eq
 have ql2:=q5.len_eq
 have ql3:=q8.len_eq
 have ql4:=q11.len_eq
 have ql5:=q15.len_eq
 have ql6:=q18.len_eq
 have ql7:=q21.len_eq
 have ql8:=q24.len_eq
 have hcl:=hI.len_eq
 have hxr:(exR p (p.aD.getD (k).toNat br) rs cs).length=16:=(exR_len _ _ _ _).trans hrs
 have hxc:(exC (p.aD.getD (k).toNat br) rs cs).length=n:=(exC_len _ _ _).trans hcl
 refine J.nw 2 [] [] [] S0 3 (bz p) 28 fun b1 w1 S1=>J.new S1 4 (mxC rs [.slice la n c]) 31 kr ?_
 intro b2 w2 S2
 refine J.c0 5 [] [] [] S2 12 hb7 (awake_any  _ (tabW_sep hW S2)) fun w3 S3=>J.lb 7 [false] [] [] S3 1 rfl 14 (.agg (dZ p))<|J.cf 0 [] [] [] 15 hb8 (great_any p _ (dY hp S3)) ?_
 rintro _ w4 ⟨gb1,rfl,T1⟩
 have S4:Sep w [box b2 (mxC rs [.slice la n c]) 31,box b1 (bz p) 28] w4:=S3.trans T1
 refine J.b 1 [] [] [] 16 gb1 (fun fk1=>?_) fun fk1=>?_
 refine J.e 11 [.bool true] func5 (hR _ _ ?_)
 exact⟨rfl,S4.nil⟩
 refine J.r 1 [] [(17,.pointer (some ⟨b2,16,none⟩))] []<|J.ok (OK.ldMt S4 0 rfl 18 26 16 aS0)<|J.c 4 [] [] [] 21 ((n:Int)>120) (fun fk2=>?_) fun fk2=>?_
 refine J.e 5 [.bool true] func5 (hR _ _ ?_)
 exact⟨rfl,S4.nil⟩
 refine J.lb 4 [false] [] [] S4 1 rfl 23 (.agg (dZ p))<|J.ok (OK.ldM S4 0 rfl 24 31 16 aS0)<|J.cf 1 [] [] [] 26 hb15 (step_any p rs la n c cs k _ aS0 (dY hp S4) (hI.sep S4) om) ?_
 rintro _ w5 ⟨ra1,rc1,rfl,T2⟩
 have S5:Sep w [ap aT ra1 rc1 3 1 (stC p n rs (cs) k),box b2 (mxC rs [.slice la n c]) 31,box b1 (bz p) 28] w5:=S4.trans T2
 have:=stR_len (p:=p) (n:=n) (cs:=cs) (k:=k) hrs
 refine J.r 4 [] [(29,iv (stE p n rs k)),(28,iv (stN p n rs k)),(27,.agg (mxA (stR p n rs (cs) k) [.slice ra1 ((stC p n rs (cs) k).length) rc1]))] []<|J.new S5 7 (mxC (List.replicate 16 (0:Int)) [.slice none 0 0]) 31 kr ?_
 intro b3 w6 S6
 refine J.stM S6 0 rfl 16 (stR p n rs (cs) k) [.slice ra1 ((stC p n rs (cs) k).length) rc1] rfl rfl aS0 fun w7 S7=>J.lb 6 [] [(9,iv (stE p n rs k)),(8,iv (stN p n rs k))] [] S7 3 rfl 30 (.agg (dZ p))<|J.c0 0 [] [] [] S7 31 hb10 (rpvalid_any p _ (dY hp S7)) fun w8 S8=>J.bn 2 [] [] [] 33 (dK p) (fun fk3=>?_) fun fk3=>?_
 have hv:=fk3
 have hfi:=fun (j:Nat) (hj:j<p.aD.length)=>code_at hv hj
 have hcz:=(es hv).1
 refine J.r 1 [] [(34,.pointer (some ⟨b2,16,none⟩))] []<|J.ok (OK.ldMt S8 2 rfl 35 26 16 aS0)<|J.lb 2 [] [(36,iv (n:Int))] [] S8 3 rfl 38 (iv p.aB)<|J.cn 3 [] [] [] 40 ((n:Int)=p.aB) (fun fk4=>?_) fun fk4=>?_
 refine J.c 8 [false] [] [] 54 (k<0) (fun fk5=>?_) fun fk5=>?_
 have fk7:(stE p n rs k)=2:=st_rng (goodP_iff.2 ⟨hv,om⟩) om
 refine J.h 13 [true] [] [] 63 (.bool ((stE p n rs k)==2)) (.bool true) (congrArg Value.bool (beq_iff_eq.2 fk7)) ?_
 have fk9:(stN p n rs k)=0:=(dQ (rs:=rs) (cs:=cs) (k:=k) (p:=p) (n:=n) fk7 om).2.2
 refine J.h 4 [] [] [] 67 (.bool ((stN p n rs k)==0)) (.bool true) (congrArg Value.bool (beq_iff_eq.2 fk9))<|J.ok (OK.ldM S8 0 rfl 68 31 16 aS0) ?_
 have:=az (S8.nth 1 rfl)
 refine J.c0 1 [] [] [] S8 70 hb11 (same_mx (stR p n rs (cs) k) (List.replicate 16 (0:Int)) ra1 ((stC p n rs (cs) k).length) rc1 (stC p n rs (cs) k) none 0 0 ([]) _ aS0 rfl ((aC (S8.nth 1 rfl) ((stC p n rs (cs) k).length) rO)) (⟨rfl,fun j v hj=>by simp at hj⟩) oz) fun w9 S9=>J.e 3 [.bool (sameR (stR p n rs (cs) k) (List.replicate 16 (0:Int)) (stC p n rs (cs) k) ([]))] func5 (hR _ _ ?_)
 have fk10:(sameR (stR p n rs (cs) k) (List.replicate 16 (0:Int)) (stC p n rs (cs) k) ([]))=true:=by rw[(dQ (rs:=rs) (cs:=cs) (k:=k) (p:=p) (n:=n) fk7 om).1,(dQ (rs:=rs) (cs:=cs) (k:=k) (p:=p) (n:=n) fk7 om).2.1];exact sameR_refl _ _
 exact⟨congrArg Value.bool fk10,S9.nil⟩
 refine J.lb 2 [] [(55,iv k)] [] S8 3 rfl 57 (.slice p.cB p.bG p.cY)<|J.c 4 [] [] [] 60 (k≥(p.bG:Int)) (fun fk11=>?_) fun fk11=>?_
 have fk13:(stE p n rs k)=2:=st_rng (goodP_iff.2 ⟨hv,om⟩) om
 refine J.h 6 [true] [] [] 63 (.bool ((stE p n rs k)==2)) (.bool true) (congrArg Value.bool (beq_iff_eq.2 fk13)) ?_
 have fk15:(stN p n rs k)=0:=(dQ (rs:=rs) (cs:=cs) (k:=k) (p:=p) (n:=n) fk13 om).2.2
 refine J.h 4 [] [] [] 67 (.bool ((stN p n rs k)==0)) (.bool true) (congrArg Value.bool (beq_iff_eq.2 fk15))<|J.ok (OK.ldM S8 0 rfl 68 31 16 aS0) ?_
 have:=az (S8.nth 1 rfl)
 refine J.c0 1 [] [] [] S8 70 hb11 (same_mx (stR p n rs (cs) k) (List.replicate 16 (0:Int)) ra1 ((stC p n rs (cs) k).length) rc1 (stC p n rs (cs) k) none 0 0 ([]) _ aS0 rfl ((aC (S8.nth 1 rfl) ((stC p n rs (cs) k).length) rO)) (⟨rfl,fun j v hj=>by simp at hj⟩) oz) fun w10 S10=>J.e 3 [.bool (sameR (stR p n rs (cs) k) (List.replicate 16 (0:Int)) (stC p n rs (cs) k) ([]))] func5 (hR _ _ ?_)
 have fk16:(sameR (stR p n rs (cs) k) (List.replicate 16 (0:Int)) (stC p n rs (cs) k) ([]))=true:=by rw[(dQ (rs:=rs) (cs:=cs) (k:=k) (p:=p) (n:=n) fk13 om).1,(dQ (rs:=rs) (cs:=cs) (k:=k) (p:=p) (n:=n) fk13 om).2.1];exact sameR_refl _ _
 exact⟨congrArg Value.bool fk16,S10.nil⟩
 refine J.r 3 [false] [] [] ?_
 obtain ⟨p1,hp1,hc1⟩:=q2.at br (k).toNat om
 have hel1:=aW q3 br (n:=(k).toNat) (by have:=q2.len_eq;omega)
 obtain ⟨q26,q27,q28,q29,q30,_⟩:=id hel1
 replace S8:Sep w (K5H0 b3 p n rs cs k ra1 rc1 b2 la c b1) w8:=S8
 have W1:∀ (ad2:Option Addr) (cd2:Nat) (bd12:Nat) (w11:World),Sep w (ap aT ad2 cd2 3 1 (exC (p.aD.getD (k).toNat br) rs cs)::box bd12 (mxC (exR p (p.aD.getD (k).toNat br) rs cs) [.slice ad2 cs.length cd2]) 31::(K5H0 b3 p n rs cs k ra1 rc1 b2 la c b1)) w11→WA prog 5 111 R K5_0 (fun w_=>Sep w (K5H0 b3 p n rs cs k ra1 rc1 b2 la c b1) w_) 0 (bA 15 32767) [(2,iv k),(7,pv b3),(8,iv (stN p n rs k)),(9,iv (stE p n rs k)),(10,pv bd12),(11,iv (exE p (p.aD.getD (k).toNat br) rs))] w11:=by
  intro ad2 cd2 bd12 w11 S11
  refine WA.done kr<|J.cn 6 [] [] [] 85 ((exE p (p.aD.getD (k).toNat br) rs)=0) (fun fk17=>?_) fun fk17=>?_
  have fk19:(stE p n rs k)=0:=(st_run (goodP_iff.2 ⟨hv,om⟩) om om).trans fk17
  refine J.h 7 [false] [] [] 100 (.bool ((stE p n rs k)==0)) (.bool true) (congrArg Value.bool (beq_iff_eq.2 fk19))<|J.wi 3 [] [(101,iv (stN p n rs k))] [] 103 (k+1) ?_
  have fk21:(stN p n rs k)=(k+1):=(st_ok (p:=p) (n:=n) (rs:=rs) (cs:=cs) (k:=k) fk19).2.2
  refine J.h 3 [] [] [] 106 (.bool ((stN p n rs k)==(k+1))) (.bool true) (congrArg Value.bool (beq_iff_eq.2 fk21))<|J.ok (OK.ldM S11 2 rfl 107 31 16 aS0)<|J.ok (OK.ldM S11 1 rfl 108 31 16 aS0) ?_
  have:=az (S11.nth 3 rfl)
  have:=az (S11.nth 0 rfl)
  refine J.c0 0 [] [] [] S11 109 hb11 (same_mx (stR p n rs (cs) k) (exR p (p.aD.getD (k).toNat br) rs cs) ra1 ((stC p n rs (cs) k).length) rc1 (stC p n rs (cs) k) ad2 cs.length cd2 (exC (p.aD.getD (k).toNat br) rs cs) _ aS0 aS0 ((aC (S11.nth 3 rfl) ((stC p n rs (cs) k).length) rO)) ((aC (S11.nth 0 rfl) cs.length rO)) oz) fun w12 S12=>J.e 3 [.bool (sameR (stR p n rs (cs) k) (exR p (p.aD.getD (k).toNat br) rs cs) (stC p n rs (cs) k) (exC (p.aD.getD (k).toNat br) rs cs))] func5 (hR _ _ ?_)
  have fk22:(sameR (stR p n rs (cs) k) (exR p (p.aD.getD (k).toNat br) rs cs) (stC p n rs (cs) k) (exC (p.aD.getD (k).toNat br) rs cs))=true:=by rw[(st_ok (p:=p) (n:=n) (rs:=rs) (cs:=cs) (k:=k) fk19).1,(st_ok (p:=p) (n:=n) (rs:=rs) (cs:=cs) (k:=k) fk19).2.1];exact sameR_refl _ _
  exact⟨congrArg Value.bool fk22,S12.nil⟩
  have fk24:(stE p n rs k)=(exE p (p.aD.getD (k).toNat br) rs):=st_run (goodP_iff.2 ⟨hv,om⟩) om om
  refine J.h 7 [true] [] [] 89 (.bool ((stE p n rs k)==(exE p (p.aD.getD (k).toNat br) rs))) (.bool true) (congrArg Value.bool (beq_iff_eq.2 fk24)) ?_
  have fk26:(stN p n rs k)=0:=(dQ (rs:=rs) (cs:=cs) (k:=k) (p:=p) (n:=n) fk24 om).2.2
  refine J.h 4 [] [] [] 93 (.bool ((stN p n rs k)==0)) (.bool true) (congrArg Value.bool (beq_iff_eq.2 fk26))<|J.ok (OK.ldM S11 2 rfl 94 31 16 aS0) ?_
  have:=az (S11.nth 3 rfl)
  refine J.c0 1 [] [] [] S11 96 hb11 (same_mx (stR p n rs (cs) k) (List.replicate 16 (0:Int)) ra1 ((stC p n rs (cs) k).length) rc1 (stC p n rs (cs) k) none 0 0 ([]) _ aS0 rfl ((aC (S11.nth 3 rfl) ((stC p n rs (cs) k).length) rO)) (⟨rfl,fun j v hj=>by simp at hj⟩) oz) fun w13 S13=>J.e 3 [.bool (sameR (stR p n rs (cs) k) (List.replicate 16 (0:Int)) (stC p n rs (cs) k) ([]))] func5 (hR _ _ ?_)
  have fk27:(sameR (stR p n rs (cs) k) (List.replicate 16 (0:Int)) (stC p n rs (cs) k) ([]))=true:=by rw[(dQ (rs:=rs) (cs:=cs) (k:=k) (p:=p) (n:=n) fk24 om).1,(dQ (rs:=rs) (cs:=cs) (k:=k) (p:=p) (n:=n) fk24 om).2.1];exact sameR_refl _ _
  exact⟨congrArg Value.bool fk27,S13.nil⟩
 have W2:∀ (ad2:Option Addr) (cd2:Nat) (bd12:Nat) (w14:World),Sep w (ap aT ad2 cd2 3 1 (exC (p.aD.getD (k).toNat br) rs cs)::box bd12 (mxC (List.replicate 16 (0:Int)) [.slice none 0 0]) 31::(K5H0 b3 p n rs cs k ra1 rc1 b2 la c b1)) w14→WA prog 5 111 R K5_0 (fun w_=>Sep w (K5H0 b3 p n rs cs k ra1 rc1 b2 la c b1) w_) 2 (bA 15 8191) [(2,iv k),(7,pv b3),(8,iv (stN p n rs k)),(9,iv (stE p n rs k)),(10,pv bd12),(82,.agg (mxA (exR p (p.aD.getD (k).toNat br) rs cs) [.slice ad2 cs.length cd2])),(83,iv (exE p (p.aD.getD (k).toNat br) rs))] w14:=by
  intro ad2 cd2 bd12 w14 S14
  refine WA.all [13] kr rfl ⟨?_,trivial⟩
  refine WO.set (bA 15 16383) kr<|WO.stBox S14 1 31 0 (.agg (mxA (exR p (p.aD.getD (k).toNat br) rs cs) [.slice ad2 cs.length cd2])) (mxC (exR p (p.aD.getD (k).toNat br) rs cs) [.slice ad2 cs.length cd2]) (ap aT ad2 cd2 3 1 (exC (p.aD.getD (k).toNat br) rs cs)::box bd12 (mxC (exR p (p.aD.getD (k).toNat br) rs cs) [.slice ad2 cs.length cd2]) 31::(K5H0 b3 p n rs cs k ra1 rc1 b2 la c b1)) kr rfl (by rw[mx_size (n:=16) (k:=17) aS0 rfl];kernel_rfl) (stV_ma (n:=16) rfl aS0 rfl rfl) rfl ?_
  intro w15 S15
  exact WB.mk ((S15.erase 1).erase 0)<|WA.take 14 11 (iv (exE p (p.aD.getD (k).toNat br) rs)) (bA 15 32767) kr kr kr (fun _ _=>kr) kr<|WA.weaken kr (W1 ad2 cd2 bd12 w15 S15)
 have W3:∀ (ad2:Option Addr) (cd2:Nat) (w16:World),Sep w (ap aT ad2 cd2 3 1 (exC (p.aD.getD (k).toNat br) rs cs)::(K5H0 b3 p n rs cs k ra1 rc1 b2 la c b1)) w16→WA prog 5 111 R K5_0 (fun w_=>Sep w (K5H0 b3 p n rs cs k ra1 rc1 b2 la c b1) w_) 3 (bA 15 4095) [(2,iv k),(7,pv b3),(8,iv (stN p n rs k)),(9,iv (stE p n rs k)),(82,.agg (mxA (exR p (p.aD.getD (k).toNat br) rs cs) [.slice ad2 cs.length cd2])),(83,iv (exE p (p.aD.getD (k).toNat br) rs))] w16:=by
  intro ad2 cd2 w16 S16
  refine WA.all [12] kr rfl ⟨?_,trivial⟩
  refine WO.set (bA 15 8191) kr<|WO.new S16 10 (mxC (List.replicate 16 (0:Int)) [.slice none 0 0]) 31 kr ?_
  intro bd12 w17 S17
  refine WB.mk ((S17.erase 1).erase 0) ?_
  have S18:Sep w (box bd12 (mxC (List.replicate 16 (0:Int)) [.slice none 0 0]) 31::ap aT ad2 cd2 3 1 (exC (p.aD.getD (k).toNat br) rs cs)::(K5H0 b3 p n rs cs k ra1 rc1 b2 la c b1)) w17:=S17.front 0 rfl
  have S19:Sep w (ap aT ad2 cd2 3 1 (exC (p.aD.getD (k).toNat br) rs cs)::box bd12 (mxC (List.replicate 16 (0:Int)) [.slice none 0 0]) 31::(K5H0 b3 p n rs cs k ra1 rc1 b2 la c b1)) w17:=S18.front 1 rfl
  exact WA.weaken kr (W2 ad2 cd2 bd12 w17 S19)
 have W4:∀ (ad2:Option Addr) (cd2:Nat) (bd12:Nat) (w18:World),Sep w (ap aT ad2 cd2 3 1 cs::box bd12 (mxC (List.replicate 16 (0:Int)) [.slice none 0 0]) 31::(K5H0 b3 p n rs cs k ra1 rc1 b2 la c b1)) w18→WA prog 5 111 R K5_0 (fun w_=>Sep w (K5H0 b3 p n rs cs k ra1 rc1 b2 la c b1) w_) 6 (bA 15 4351) [(2,iv k),(7,pv b3),(8,iv (stN p n rs k)),(9,iv (stE p n rs k)),(10,pv bd12),(73,.agg (dZ p)),(75,.agg (mxA rs [.slice ad2 cs.length cd2])),(80,.agg (de (p.aD.getD (k).toNat br)))] w18:=by
  intro ad2 cd2 bd12 w18 S20
  refine WA.all [8] kr rfl ⟨?_,trivial⟩
  refine WO.set (bA 15 4607) kr<|WO.callF 81 16 #[.agg (dZ p),.agg (mxA rs [.slice ad2 cs.length cd2]),.agg (de (p.aD.getD (k).toNat br))] hb16 kr (rmdo_any p (p.aD.getD (k).toNat br) rs ad2 cs.length cd2 cs _ _ _ S20 aS0 oz hp hel1 hv (by first | exact hf | exact hfi _ om) om) ?_
  rintro _ w19 ⟨rfl,S21⟩
  replace S21:Sep w (ap aT ad2 cd2 3 1 (exC (p.aD.getD (k).toNat br) rs cs)::box bd12 (mxC (List.replicate 16 (0:Int)) [.slice none 0 0]) 31::(K5H0 b3 p n rs cs k ra1 rc1 b2 la c b1)) w19:=S21
  clear S20
  have hxr:(exR p (p.aD.getD (k).toNat br) rs cs).length=16:=(exR_len _ _ _ _).trans (by first | assumption | omega)
  have hxc:(exC (p.aD.getD (k).toNat br) rs cs).length=cs.length:=(exC_len _ _ _).trans (by first | assumption | omega)
  exact WB.mk ((S21.erase 1).erase 0)<|WA.take 9 72 (.tuple #[.agg (mxA (exR p (p.aD.getD (k).toNat br) rs cs) [.slice ad2 cs.length cd2]),iv (exE p (p.aD.getD (k).toNat br) rs)]) (bA 15 5119) kr kr kr (fun _ _=>kr) kr<|WA.take 10 82 (.agg (mxA (exR p (p.aD.getD (k).toNat br) rs cs) [.slice ad2 cs.length cd2])) (bA 15 6143) kr kr kr (fun _ _=>kr) kr<|WA.take 11 83 (iv (exE p (p.aD.getD (k).toNat br) rs)) (bA 15 8191) kr kr kr (fun _ _=>kr) kr<|WA.weaken kr (W2 ad2 cd2 bd12 w19 S21)
 have W5:∀ (ad2:Option Addr) (cd2:Nat) (w20:World),Sep w (ap aT ad2 cd2 3 1 cs::(K5H0 b3 p n rs cs k ra1 rc1 b2 la c b1)) w20→WA prog 5 111 R K5_0 (fun w_=>Sep w (K5H0 b3 p n rs cs k ra1 rc1 b2 la c b1) w_) 7 (bA 15 255) [(2,iv k),(7,pv b3),(8,iv (stN p n rs k)),(9,iv (stE p n rs k)),(73,.agg (dZ p)),(75,.agg (mxA rs [.slice ad2 cs.length cd2])),(80,.agg (de (p.aD.getD (k).toNat br)))] w20:=by
  intro ad2 cd2 w20 S22
  refine WA.all [8,12] kr rfl ⟨?_,?_,trivial⟩
  refine WO.set (bA 15 511) kr<|WO.callF 81 16 #[.agg (dZ p),.agg (mxA rs [.slice ad2 cs.length cd2]),.agg (de (p.aD.getD (k).toNat br))] hb16 kr (rmdo_any p (p.aD.getD (k).toNat br) rs ad2 cs.length cd2 cs _ _ _ S22 aS0 oz hp hel1 hv (by first | exact hf | exact hfi _ om) om) ?_
  rintro _ w21 ⟨rfl,S23⟩
  replace S23:Sep w (ap aT ad2 cd2 3 1 (exC (p.aD.getD (k).toNat br) rs cs)::(K5H0 b3 p n rs cs k ra1 rc1 b2 la c b1)) w21:=S23
  clear S22
  have hxr:(exR p (p.aD.getD (k).toNat br) rs cs).length=16:=(exR_len _ _ _ _).trans (by first | assumption | omega)
  have hxc:(exC (p.aD.getD (k).toNat br) rs cs).length=cs.length:=(exC_len _ _ _).trans (by first | assumption | omega)
  exact WB.mk (S23.erase 0)<|WA.take 9 72 (.tuple #[.agg (mxA (exR p (p.aD.getD (k).toNat br) rs cs) [.slice ad2 cs.length cd2]),iv (exE p (p.aD.getD (k).toNat br) rs)]) (bA 15 1023) kr kr kr (fun _ _=>kr) kr<|WA.take 10 82 (.agg (mxA (exR p (p.aD.getD (k).toNat br) rs cs) [.slice ad2 cs.length cd2])) (bA 15 2047) kr kr kr (fun _ _=>kr) kr<|WA.take 11 83 (iv (exE p (p.aD.getD (k).toNat br) rs)) (bA 15 4095) kr kr kr (fun _ _=>kr) kr<|WA.weaken kr (W3 ad2 cd2 w21 S23)
  refine WO.set (bA 15 4351) kr<|WO.new S22 10 (mxC (List.replicate 16 (0:Int)) [.slice none 0 0]) 31 kr ?_
  intro bd12 w22 S24
  refine WB.mk ((S24.erase 1).erase 0) ?_
  have S25:Sep w (box bd12 (mxC (List.replicate 16 (0:Int)) [.slice none 0 0]) 31::ap aT ad2 cd2 3 1 cs::(K5H0 b3 p n rs cs k ra1 rc1 b2 la c b1)) w22:=S24.front 0 rfl
  have S26:Sep w (ap aT ad2 cd2 3 1 cs::box bd12 (mxC (List.replicate 16 (0:Int)) [.slice none 0 0]) 31::(K5H0 b3 p n rs cs k ra1 rc1 b2 la c b1)) w22:=S25.front 1 rfl
  exact WA.weaken kr (W4 ad2 cd2 bd12 w22 S26)
 have W6:∀ (bd12:Nat) (w23:World),Sep w (box bd12 (mxC (List.replicate 16 (0:Int)) [.slice none 0 0]) 31::(K5H0 b3 p n rs cs k ra1 rc1 b2 la c b1)) w23→WA prog 5 111 R K5_0 (fun w_=>Sep w (K5H0 b3 p n rs cs k ra1 rc1 b2 la c b1) w_) 7 (bA 15 4347) [(2,iv k),(7,pv b3),(8,iv (stN p n rs k)),(9,iv (stE p n rs k)),(10,pv bd12),(73,.agg (dZ p)),(74,.agg (mxA rs [.slice la n c])),(80,.agg (de (p.aD.getD (k).toNat br)))] w23:=by
  intro bd12 w23 S27
  refine WA.all [2] kr rfl ⟨?_,trivial⟩
  refine WO.set (bA 15 4351) kr<|WO.callF 75 14 #[.agg (mxA rs [.slice la n c])] hb14 kr (rcopy_any rs la n c cs _ aS0 (hI.sep S27) om) ?_
  rintro _ w24 ⟨ad2,cd2,rfl,T3⟩
  exact WB.mk (((S27.trans T3).erase 1).erase 0)<|WA.weaken kr (W4 ad2 cd2 bd12 w24 (S27.trans T3))
 have W7:∀ (w25:World),Sep w (K5H0 b3 p n rs cs k ra1 rc1 b2 la c b1) w25→WA prog 5 111 R K5_0 (fun w_=>Sep w (K5H0 b3 p n rs cs k ra1 rc1 b2 la c b1) w_) 8 (bA 15 251) [(2,iv k),(7,pv b3),(8,iv (stN p n rs k)),(9,iv (stE p n rs k)),(73,.agg (dZ p)),(74,.agg (mxA rs [.slice la n c])),(80,.agg (de (p.aD.getD (k).toNat br)))] w25:=by
  intro w25 S29
  refine WA.all [2,12] kr rfl ⟨?_,?_,trivial⟩
  refine WO.set (bA 15 255) kr<|WO.callF 75 14 #[.agg (mxA rs [.slice la n c])] hb14 kr (rcopy_any rs la n c cs _ aS0 (hI.sep S29) om) ?_
  rintro _ w26 ⟨ad2,cd2,rfl,T4⟩
  exact WB.mk ((S29.trans T4).erase 0)<|WA.weaken kr (W5 ad2 cd2 w26 (S29.trans T4))
  refine WO.set (bA 15 4347) kr<|WO.new S29 10 (mxC (List.replicate 16 (0:Int)) [.slice none 0 0]) 31 kr ?_
  intro bd12 w27 S31
  exact WB.mk (S31.erase 0)<|WA.weaken kr (W6 bd12 w27 S31)
 refine J.drawAny (fun w_=>Sep w (K5H0 b3 p n rs cs k ra1 rc1 b2 la c b1) w_) S8 15 (bA 15 0) Tryz.mixed kr kr kr ?_
 intro w28 S32
 exact WB.mk S32<|WA.takeOK 0 (bA 15 1) kr kr kr kr (fun w_ S_=>OK.ldBox S_ 3 73 28 0 (.agg (dZ p)) kr rfl kr) rfl<|WA.takeOK 1 (bA 15 3) kr kr kr kr (fun w_ S_=>OK.ldM S_ 2 rfl 74 31 16 aS0) rfl<|WA.take 3 76 (pv b1) (bA 15 11) kr kr kr (fun _ _=>kr) kr<|WA.takeOK 4 (bA 15 27) kr kr kr kr (fun w_ S_=>OK.ldBox S_ 3 77 22 0 (.slice p.cB p.bG p.cY) kr rfl kr) rfl<|WA.take 5 78 (iv k) (bA 15 59) kr kr kr (fun _ _=>kr) kr<|WA.takeOK 6 (bA 15 123) kr kr kr kr (fun w_ S_=>OK.index 79 22 5 p.cB p1 p.bG (k).toNat k (p1.add ((k).toNat*5)) kr kr hp1 om om rfl) rfl<|WA.takeOK 7 (bA 15 251) kr kr kr kr (fun w_ S_=>OK.ldCells 80 48 (p1.add ((k).toNat*5)) (aO (p.aD.getD (k).toNat br)) kr kr kr (fun j_ v_ hj_=>S_.cell (hc1 j_ v_ hj_))) rfl<|WA.weaken (env':=[(2,iv k),(7,pv b3),(8,iv (stN p n rs k)),(9,iv (stE p n rs k)),(73,.agg (dZ p)),(74,.agg (mxA rs [.slice la n c])),(80,.agg (de (p.aD.getD (k).toNat br)))]) kr<|W7 w28 S32
 have fk29:(stE p n rs k)=1:=st_arg2 (.inr om)
 refine J.h 6 [true] [] [] 43 (.bool ((stE p n rs k)==1)) (.bool true) (congrArg Value.bool (beq_iff_eq.2 fk29)) ?_
 have fk31:(stN p n rs k)=0:=(dQ (rs:=rs) (cs:=cs) (k:=k) (p:=p) (n:=n) fk29 om).2.2
 refine J.h 4 [] [] [] 47 (.bool ((stN p n rs k)==0)) (.bool true) (congrArg Value.bool (beq_iff_eq.2 fk31))<|J.ok (OK.ldM S8 0 rfl 48 31 16 aS0) ?_
 have:=az (S8.nth 1 rfl)
 refine J.c0 1 [] [] [] S8 50 hb11 (same_mx (stR p n rs (cs) k) (List.replicate 16 (0:Int)) ra1 ((stC p n rs (cs) k).length) rc1 (stC p n rs (cs) k) none 0 0 ([]) _ aS0 rfl ((aC (S8.nth 1 rfl) ((stC p n rs (cs) k).length) rO)) (⟨rfl,fun j v hj=>by simp at hj⟩) oz) fun w29 S33=>J.e 3 [.bool (sameR (stR p n rs (cs) k) (List.replicate 16 (0:Int)) (stC p n rs (cs) k) ([]))] func5 (hR _ _ ?_)
 have fk32:(sameR (stR p n rs (cs) k) (List.replicate 16 (0:Int)) (stC p n rs (cs) k) ([]))=true:=by rw[(dQ (rs:=rs) (cs:=cs) (k:=k) (p:=p) (n:=n) fk29 om).1,(dQ (rs:=rs) (cs:=cs) (k:=k) (p:=p) (n:=n) fk29 om).2.1];exact sameR_refl _ _
 exact⟨congrArg Value.bool fk32,S33.nil⟩
 have fk34:(stE p n rs k)=1:=st_arg2 (.inl fk3)
 refine J.h 14 [true] [] [] 43 (.bool ((stE p n rs k)==1)) (.bool true) (congrArg Value.bool (beq_iff_eq.2 fk34)) ?_
 have fk36:(stN p n rs k)=0:=(dQ (rs:=rs) (cs:=cs) (k:=k) (p:=p) (n:=n) fk34 om).2.2
 refine J.h 4 [] [] [] 47 (.bool ((stN p n rs k)==0)) (.bool true) (congrArg Value.bool (beq_iff_eq.2 fk36))<|J.ok (OK.ldM S8 0 rfl 48 31 16 aS0) ?_
 have:=az (S8.nth 1 rfl)
 refine J.c0 1 [] [] [] S8 50 hb11 (same_mx (stR p n rs (cs) k) (List.replicate 16 (0:Int)) ra1 ((stC p n rs (cs) k).length) rc1 (stC p n rs (cs) k) none 0 0 ([]) _ aS0 rfl ((aC (S8.nth 1 rfl) ((stC p n rs (cs) k).length) rO)) (⟨rfl,fun j v hj=>by simp at hj⟩) oz) fun w30 S34=>J.e 3 [.bool (sameR (stR p n rs (cs) k) (List.replicate 16 (0:Int)) (stC p n rs (cs) k) ([]))] func5 (hR _ _ ?_)
 have fk37:(sameR (stR p n rs (cs) k) (List.replicate 16 (0:Int)) (stC p n rs (cs) k) ([]))=true:=by rw[(dQ (rs:=rs) (cs:=cs) (k:=k) (p:=p) (n:=n) fk34 om).1,(dQ (rs:=rs) (cs:=cs) (k:=k) (p:=p) (n:=n) fk34 om).2.1];exact sameR_refl _ _
 exact⟨congrArg Value.bool fk37,S34.nil⟩
end
end Go.Proofs.YtaoolgcddapegaaGreatDoor
