/- Walks of functions of this seat, printed by a program over the engine. Conditions: as each theorem says. -/
import Derived.Test.YtaoolgcddapegaaGreatZqG37
set_option linter.unusedSimpArgs false
set_option linter.unusedVariables false
namespace Go.Proofs.YtaoolgcddapegaaGreat
noncomputable section
open Go.Eng Go.RowKit Go.Proofs.Tryz
set_option maxRecDepth 20000
set_option maxHeartbeats 20000000
theorem hb8:af prog 8:=fun _ _=>by kernel_rfl
def K8_0:=adv 24 [] (bi Tryz.f8)
def K8_1:=adv 31 [true] K8_0
def K8_2:=adv 49 [false,false] K8_1
theorem rqparts_any (p:Prg) (z:Int) (w:World) (hp:prgQ w p) (hv:bX p=true) (hz:bM z=true):Ret prog 8 #[.agg (dq p),iv z] w (fun v w'=>∃ a cap,v=.tuple #[.slice a (ptL p z).length cap,iv (ptE p z)]∧Sep w [ak aA a cap 3 1 (ptL p z)] w'):=by
 refine Ret.st (N:=81) func8 fun R hR S0=>?_
 obtain ⟨q1,q2,q3,q4,q5,q6,q7,q8,q9,q10,q11,q12,q13,q14,q15,q16,q17,q18,q19,q20,q21,q22,q23,q24,q25,_⟩:=id hp
 have ql1:=q2.len_eq
 have ql2:=q5.len_eq
 have ql3:=q8.len_eq
 have ql4:=q11.len_eq
 have ql5:=q15.len_eq
 have ql6:=q18.len_eq
 have ql7:=q21.len_eq
 have ql8:=q24.len_eq
 have hzb:=df.1 hz
 obtain ⟨hv1,hv2,hv3,hv4,hv5,hv6,hv7,hv8,hv9,hv10,hv11⟩:=ci hv
 have hin:=(bY hv6).1
 have hnl:(c0Q p).length=p.ap.toNat:=newN_len p _
 have hc0:((c0Q p).length:Int)=p.ap:=by rw[hnl];omega
 have hc1:(c0Q p).length=(c0Q p).length:=rfl
 have hrd0:rdQ p z (c0Q p) 0=(z,c0Q p,[]):=rfl
 have hrl:(List.replicate p.aq (0:Int)).length=p.aq:=List.length_replicate
 refine J.nw 2 [] [] [] S0 2 (aO p) 28 fun b1 w1 S1=>J.lb 5 [] [] [] S1 0 rfl 17 (.agg (dq p))<|J.cf 0 [] [] [] 18 hb22 (rnew_any p _ (cS hp S1) hv) ?_
 rintro _ w2 ⟨ra1,rc1,rfl,T1⟩
 have S2:Sep w [ak aA ra1 rc1 3 1 (newN p (p).ao.length),box b1 (aO p) 28] w2:=S1.trans T1
 refine J.new S2 6 (mxC (List.replicate 16 (0:Int)) [.slice none 0 0]) 44 kr ?_
 intro b2 w3 S3
 refine J.stM S3 0 rfl 16 (List.replicate 16 (0:Int)) [.slice ra1 ((newN p (p).ao.length).length) rc1] rfl rfl rfl fun w4 S4=>?_
 have S5:Sep w [ak aA none 0 3 1 ([]),box b2 (mxC (List.replicate 16 (0:Int)) [.slice ra1 ((newN p (p).ao.length).length) rc1]) 44,ak aA ra1 rc1 3 1 (newN p (p).ao.length),box b1 (aO p) 28] w4:=S4.nilRow 3 1
 have L8_1:∀ (mm_:Nat) (rl:List Int) (cl:List Int) (va:Option Addr) (vc:Nat) (nn:Nat) (ol:List Int) (oa:Option Addr) (oc:Nat) (q:Int) (k:Int) (w5:World),(1≤k)→(k≤5)→((rl).length=16)→((nn:Int)=p.ap)→((cl).length=nn)→(1≤q∧q≤65535)→(rdQ p z (c0Q p) (k-1).toNat=(q,cl,ol))→(reQ p z (c0Q p) (k-1).toNat=0)→Sep w [ak aA oa oc 3 1 ol,box b2 (mxC rl [.slice va nn vc]) 44,ak aA va vc 3 1 cl,box b1 (aO p) 28] w5→(5-k).toNat=mm_→J prog 8 81 R K8_0 [(8,iv k),(7,.slice oa ol.length oc),(6,pv b2),(2,pv b1),(1,iv q)] w5:=by
  intro mm1
  induction mm1 using Nat.strongRecOn with
  | _ mm1 ih1 =>
  intro rl cl va vc nn ol oa oc q k w5 k0 k1 hrn hcz hnn hqb hrd hre S6 hm1
  have hnx:=nextF_bounds hqb
  have hll:=rd_len hrd
  refine J.c 6 [] [] [] 20 (k≤4) (fun fk1=>?_) fun fk1=>?_
  refine J.r 7 [true] [(23,iv q)] []<|J.c0 0 [] [] [] S6 24 hb23 (rnext_any q _ (df.2 om)) fun w6 S7=>J.lb 5 [] [(1,iv (bI q))] [] S7 3 rfl 26 (.slice p.aU p.aq p.aW)<|J.r 1 [] [(27,iv (p.aq:Int))] []<|J.make aA (0:Int) S7 28 26 3 1 (p.aq:Int) (p.aq:Int) p.aq (iv 0) 8 kr om om kr kr kr rF om ?_
  intro b3 w7 S8
  have L8_2:∀ (mm_:Nat) (il:List Int) (i:Int) (w8:World),(0≤i)→(i≤(p.aq:Int))→((il).length=p.aq)→((il).take (i).toNat=inQ (bI q) (i).toNat)→Sep w [ak aA (some ⟨b3,0,none⟩) p.aq 3 1 il,ak aA oa oc 3 1 ol,box b2 (mxC rl [.slice va nn vc]) 44,ak aA va vc 3 1 cl,box b1 (aO p) 28] w8→((p.aq:Int)-i).toNat=mm_→J prog 8 81 R K8_1 [(10,iv i),(9,.slice (some ⟨b3,0,none⟩) ((List.replicate p.aq (0:Int)).length) p.aq),(1,iv (bI q)),(8,iv k),(7,.slice oa ol.length oc),(6,pv b2),(2,pv b1)] w8:=by
   intro mm2
   induction mm2 using Nat.strongRecOn with
   | _ mm2 ih2 =>
   intro il i w8 i0 i1 hile hil S9 hm2
   refine J.c 8 [] [] [] 32 (i<((List.replicate p.aq (0:Int)).length:Int)) (fun fk2=>?_) fun fk2=>?_
   refine J.wi 10 [true] [(37,iv (bI q)),(36,iv i),(35,.slice (some ⟨b3,0,none⟩) ((List.replicate p.aq (0:Int)).length) p.aq)] [] 39 (257*i)<|J.wi 1 [] [] [] 40 ((bI q)+(257*i))<|J.h 1 [] [] [] 41 (iv (Int.tmod ((bI q)+(257*i)) 65536)) (iv (((bI q)+(257*i))%65536)) (congrArg (Value.int .i64) (IntWalk.rem_in _ _ om))<|J.wi 1 [] [] [] 42 ((((bI q)+(257*i))%65536)-32768) ?_
   obtain ⟨p1,hp1⟩:=bK (S9.nth 0 rfl) (show 0<(il).length by first | omega | (simp;omega))
   refine J.ok (OK.index 43 26 1 (some ⟨b3,0,none⟩) p1 ((List.replicate p.aq (0:Int)).length) (i).toNat i (p1.add (i).toNat) kr kr hp1 om oz nO)<|J.stRow1 (Value.int .i64) (dO _) S9 0 il 3 p1 (i).toNat ((((bI q)+(257*i))%65536)-32768) rfl kr hp1 oz kr ?_
   intro w9 S10
   replace S10:Sep w [ak aA (some ⟨b3,0,none⟩) p.aq 3 1 (il.set (i).toNat ((((bI q)+(257*i))%65536)-32768)),ak aA oa oc 3 1 ol,box b2 (mxC rl [.slice va nn vc]) 44,ak aA va vc 3 1 cl,box b1 (aO p) 28] w9:=S10
   exact J.wi 5 [] [] [] 34 (i+1)<|J.t 3 (ih2 _ (show((p.aq:Int)-(i+1)).toNat<mm2 from by omega) (il.set (i).toNat ((((bI q)+(257*i))%65536)-32768)) (i+1) w9 om om (by rw[List.length_set];exact hile) (inQ_set i0 om hil) S10 rfl)
   have hil2:il=inQ (bI q) p.aq:=inQ_all hile om om hil
   refine J.lb 4 [false] [] [] S9 4 rfl 45 (.agg (dq p))<|J.ok (OK.ldM S9 2 rfl 46 44 16 aS0)<|J.r 1 [] [(47,.slice (some ⟨b3,0,none⟩) ((List.replicate p.aq (0:Int)).length) p.aq)] [] ?_
   have:=aC (S9.nth 3 rfl)
   have:=aC (S9.nth 0 rfl)
   refine J.cf 0 [] [] [] 48 hb24 (rrun_any p rl va nn vc cl (some ⟨b3,0,none⟩) ((List.replicate p.aq (0:Int)).length) p.aq il _ aS0 (cS hp S9) ((aD (S9.nth 3 rfl) nn rO)) ((aD (S9.nth 0 rfl) ((List.replicate p.aq (0:Int)).length) rO)) om hv) ?_
   rintro _ w10 ⟨ra2,rc2,ra3,rc3,rfl,T2⟩
   have S11:Sep w [ak aA ra2 rc2 3 1 (dI p nn cl il),ak aA ra3 rc3 3 1 (ck p nn cl il),ak aA (some ⟨b3,0,none⟩) p.aq 3 1 il,ak aA oa oc 3 1 ol,box b2 (mxC rl [.slice va nn vc]) 44,ak aA va vc 3 1 cl,box b1 (aO p) 28] w10:=S9.trans T2
   have hrr:=runR_len p nn cl il
   refine J.r 4 [] [(51,iv (rgE p nn cl il)),(50,.slice ra3 ((ck p nn cl il).length) rc3),(49,.agg (mxA (runR p nn cl il) [.slice ra2 ((dI p nn cl il).length) rc2]))] []<|J.new S11 11 (mxC (List.replicate 16 (0:Int)) [.slice none 0 0]) 44 kr ?_
   intro b4 w11 S12
   refine J.stM S12 0 rfl 16 (runR p nn cl il) [.slice ra2 ((dI p nn cl il).length) rc2] rfl rfl aS0 fun w12 S13=>J.cn 9 [] [(13,iv (rgE p nn cl il)),(12,.slice ra3 ((ck p nn cl il).length) rc3)] [] 53 ((rgE p nn cl il)=0) (fun fk3=>?_) fun fk3=>?_
   have herr:=fk3
   have hol:=runO_len herr hv
   refine J.r 4 [false] [] []<|J.ok (OK.ldM S13 0 rfl 55 44 16 aS0)<|J.stM S13 5 rfl 16 (runR p nn cl il) [.slice ra2 ((dI p nn cl il).length) rc2] rfl aS0 aS0 fun w13 S14=>?_
   have L8_3:∀ (mm_:Nat) (a:Int) (j:Int) (w14:World),(0≤j)→(j≤(ck p nn cl il).length)→(a=smQ (ck p nn cl il) (j).toNat)→Sep w [box b4 (mxC (runR p nn cl il) [.slice ra2 ((dI p nn cl il).length) rc2]) 44,ak aA ra2 rc2 3 1 (dI p nn cl il),ak aA ra3 rc3 3 1 (ck p nn cl il),ak aA (some ⟨b3,0,none⟩) p.aq 3 1 il,ak aA oa oc 3 1 ol,box b2 (mxC (runR p nn cl il) [.slice ra2 ((dI p nn cl il).length) rc2]) 44,ak aA va vc 3 1 cl,box b1 (aO p) 28] w14→((ck p nn cl il:List Int).length-j).toNat=mm_→J prog 8 81 R K8_2 [(15,iv j),(14,iv a),(12,.slice ra3 ((ck p nn cl il).length) rc3),(1,iv (bI q)),(8,iv k),(7,.slice oa ol.length oc),(6,pv b2),(2,pv b1)] w14:=by
    intro mm3
    induction mm3 using Nat.strongRecOn with
    | _ mm3 ih3 =>
    intro a j w14 j0 j1 ha S15 hm3
    have hab:=smQ_bd (ck p nn cl il) j.toNat
    rw[← ha] at hab
    refine J.c 8 [] [] [] 59 (j<((ck p nn cl il).length:Int)) (fun fk4=>?_) fun fk4=>?_
    refine J.r 8 [true] [(63,iv j),(62,.slice ra3 ((ck p nn cl il).length) rc3)] [] ?_
    obtain ⟨p2,hp2⟩:=bK (S15.nth 2 rfl) (show 0<(ck p nn cl il).length by first | omega | (simp;omega))
    refine J.ok (OK.index 64 26 1 ra3 p2 ((ck p nn cl il).length) (j).toNat j (p2.add (j).toNat) kr kr hp2 om oz nO)<|J.ok (OK.ldCell 65 3 (p2.add (j).toNat) (iv ((ck p nn cl il).getD (j).toNat 0)) kr kr (ct (g:=(Value.int .i64)) S15 2 rfl hp2 0 (j).toNat oz))<|J.r 1 [] [(66,iv (Int.tmod ((ck p nn cl il).getD (j).toNat 0) 65536))] [] ?_
    obtain ⟨r,hr⟩:∃ x:Int,x=Int.tmod ((ck p nn cl il).getD (j).toNat 0) 65536:=⟨_,rfl⟩
    refine J.head (iv r) (congrArg (Value.int .i64) hr.symm) ?_
    obtain ⟨hr1,hr2,hr3⟩:=tmw ((ck p nn cl il).getD j.toNat 0) r hr
    refine J.wi 1 [] [] [] 67 (r+65536)<|J.h 1 [] [] [] 68 (iv (Int.tmod (r+65536) 65536)) (iv ((r+65536)%65536)) (congrArg (Value.int .i64) (IntWalk.rem_in _ _ om)) ?_
    obtain ⟨y,hy⟩:∃ x:Int,x=(r+65536)%65536:=⟨_,rfl⟩
    refine J.head (iv y) (congrArg (Value.int .i64) hy.symm) ?_
    have hy:y=(ck p nn cl il).getD j.toNat 0%65536:=by omega
    have hmu:=cL (x:=j+1) (y:=y) 1001 65536 om om
    have hmn:0≤(j+1)*y:=Int.mul_nonneg om om
    exact J.wi 6 [] [(69,iv a),(16,iv y)] [] 71 (j+1)<|J.wi 2 [] [] [] 73 ((j+1)*y)<|J.wi 1 [] [] [] 74 (a+((j+1)*y))<|J.h 1 [] [] [] 75 (iv (Int.tmod (a+((j+1)*y)) 65536)) (iv ((a+((j+1)*y))%65536)) (congrArg (Value.int .i64) (IntWalk.rem_in _ _ om))<|J.wi 6 [] [(14,iv ((a+((j+1)*y))%65536))] [] 61 (j+1)<|J.t 3 (ih3 _ (show((ck p nn cl il:List Int).length-(j+1)).toNat<mm3 from by omega) ((a+((j+1)*y))%65536) (j+1) w14 om om (smQ_at j0 ha hy) S15 rfl)
    have hsm:a=smQ (ck p nn cl il) (ck p nn cl il).length:=by rw[ha,show j.toNat=(ck p nn cl il).length by omega]
    refine J.r 5 [false] [(77,iv a),(76,.slice oa ol.length oc)] []<|J.newSlice S15 78 1 [iv a] 3 kr ?_
    intro b5 w15 S16
    refine J.append aA S16 5 ol a 79 26 (iv 0) 8 ⟨b5,0,none⟩ 1 rfl kr kr kr kr dE (cE (S16.nth 0 rfl)) kr kr (⟨om,om⟩) ?_
    intro ra4 rc4 w16 S17
    replace S17:Sep w [box b5 [iv a] 3,box b4 (mxC (runR p nn cl il) [.slice ra2 ((dI p nn cl il).length) rc2]) 44,ak aA ra2 rc2 3 1 (dI p nn cl il),ak aA ra3 rc3 3 1 (ck p nn cl il),ak aA (some ⟨b3,0,none⟩) p.aq 3 1 il,ak aA ra4 rc4 3 1 (ol++[a]),box b2 (mxC (runR p nn cl il) [.slice ra2 ((dI p nn cl il).length) rc2]) 44,ak aA va vc 3 1 cl,box b1 (aO p) 28] w16:=S17
    refine J.wi 6 [] [(7,.slice ra4 ((ol++[a]).length) rc4)] [] 22 (k+1) ?_
    have S18:Sep w [ak aA ra2 rc2 3 1 (dI p nn cl il),ak aA ra4 rc4 3 1 (ol++[a]),box b2 (mxC (runR p nn cl il) [.slice ra2 ((dI p nn cl il).length) rc2]) 44,box b1 (aO p) 28] w16:=(((((S17.erase 0).erase 6).erase 3).erase 2).erase 0)
    have S19:=S18.front 0 rfl
    have S20:=S19.front 2 rfl
    have S21:Sep w [ak aA ra4 rc4 3 1 (ol++[a]),box b2 (mxC (runR p nn cl il) [.slice ra2 ((dI p nn cl il).length) rc2]) 44,ak aA ra2 rc2 3 1 (dI p nn cl il),box b1 (aO p) 28] w16:=S20.front 2 rfl
    exact J.t 3 (ih1 _ (show(5-(k+1)).toNat<mm1 from by omega) (runR p nn cl il) (dI p nn cl il) ra2 rc2 ((dI p nn cl il).length) (ol++[a]) ra4 rc4 (bI q) (k+1) w16 om om (runR_len p nn cl il) (by rw[runC_len herr,hnn];exact hcz) (rfl) (nextF_bounds hqb) (by rw[show(k+1-1)=(k-1)+1 by omega,hsm];exact rd_step hrd om hnn hil2) (by rw[show(k+1-1)=(k-1)+1 by omega];exact re_step hrd om hnn hil2 hre herr) S21 rfl)
   exact J.t 12 (L8_3 _ 0 0 w13 om om (rfl) S14 rfl)
   refine J.e 7 [.slice none 0 0,iv (rgE p nn cl il)] func8 (hR _ _ ?_)
   obtain ⟨e1,e2⟩:=pt_err hv hz hrd om om hnn hil2 hre rfl fk3
   exact⟨none,0,by rw[e1,e2];rfl,by rw[e2];exact S13.nil.nilRow 3 1⟩
  exact J.t 9 (L8_2 _ (List.replicate p.aq (0:Int)) 0 w7 om om (by simp) (rfl) S8 rfl)
  refine J.e 8 [.slice oa ol.length oc,iv 0] func8 (hR _ _ ?_)
  obtain ⟨e1,e2⟩:=pt_ok hv hz hrd om hre
  exact⟨_,_,by rw[e1,e2];rfl,by rw[e2];exact S6.pick 0 rfl⟩
 exact J.t 12 (L8_1 _ (List.replicate 16 (0:Int)) (newN p (p).ao.length) ra1 rc1 ((newN p (p).ao.length).length) ([]) none 0 z 1 w4 om om (rfl) (hc0) (hc1) om (hrd0) (rfl) S5 rfl)

end
end Go.Proofs.YtaoolgcddapegaaGreat

namespace Go.Proofs.YtaoolgcddapegaaGreat
open Go.Eng Go.RowKit Go.Proofs.Tryz
set_option maxRecDepth 20000
set_option maxHeartbeats 20000000
theorem hb3:af prog 3:=fun _ _=>by kernel_rfl

theorem lawparts_any (p:Prg) (z:Int) (w:World) (hp:prgQ w p):Ret prog 3 #[.agg (dq p),iv z] w (fun v w'=>v=.bool true∧Sep w [] w'):=by
 refine Ret.st (N:=90) func3 fun R hR S0=>?_
 obtain ⟨q1,q2,q3,q4,q5,q6,q7,q8,q9,q10,q11,q12,q13,q14,q15,q16,q17,q18,q19,q20,q21,q22,q23,q24,q25,_⟩:=id hp
 have ql1:=q2.len_eq
 have ql2:=q5.len_eq
 have ql3:=q8.len_eq
 have ql4:=q11.len_eq
 have ql5:=q15.len_eq
 have ql6:=q18.len_eq
 have ql7:=q21.len_eq
 have ql8:=q24.len_eq
 refine J.nw 2 [] [] [] S0 2 (aO p) 28 fun b1 w1 S1=>J.c0 5 [] [] [] S1 9 hb4 (awake_any  _) fun w2 S2=>J.lb 3 [] [(11,.bool false)] [] S2 0 rfl 13 (.slice p.cD p.bl p.dd)<|J.c 4 [] [] [] 17 ((p.bl:Int)>200) (fun fk1=>?_) fun fk1=>?_
 refine J.c0 33 [true] [] [] S2 47 hb4 (awake_any  _) fun w3 S3=>J.e 2 [.bool true] func3 (hR _ _ ?_)
 exact⟨rfl,S3.nil⟩
 refine J.lb 1 [] [] [] S2 0 rfl 19 (.slice p.aU p.aq p.aW)<|J.c 4 [] [] [] 23 ((p.aq:Int)>100) (fun fk2=>?_) fun fk2=>?_
 refine J.c0 27 [true] [] [] S2 47 hb4 (awake_any  _) fun w4 S4=>J.e 2 [.bool true] func3 (hR _ _ ?_)
 exact⟨rfl,S4.nil⟩
 refine J.lb 1 [] [] [] S2 0 rfl 25 (.slice p.bt p.aL p.bv)<|J.c 4 [] [] [] 29 ((p.aL:Int)>100) (fun fk3=>?_) fun fk3=>?_
 refine J.c0 21 [true] [] [] S2 47 hb4 (awake_any  _) fun w5 S5=>J.e 2 [.bool true] func3 (hR _ _ ?_)
 exact⟨rfl,S5.nil⟩
 refine J.lb 1 [] [] [] S2 0 rfl 31 (.slice p.aJ p.am p.bj)<|J.c 4 [] [] [] 35 ((p.am:Int)>120) (fun fk4=>?_) fun fk4=>?_
 refine J.c0 15 [true] [] [] S2 47 hb4 (awake_any  _) fun w6 S6=>J.e 2 [.bool true] func3 (hR _ _ ?_)
 exact⟨rfl,S6.nil⟩
 refine J.lb 1 [] [] [] S2 0 rfl 37 (.slice p.ce p.br p.cu)<|J.c 4 [] [] [] 41 ((p.br:Int)>20) (fun fk5=>?_) fun fk5=>?_
 refine J.c0 9 [true] [] [] S2 47 hb4 (awake_any  _) fun w7 S7=>J.e 2 [.bool true] func3 (hR _ _ ?_)
 exact⟨rfl,S7.nil⟩
 refine J.lb 1 [] [] [] S2 0 rfl 43 (.slice p.dc p.bO p.dz)<|J.c 4 [] [] [] 46 ((p.bO:Int)>20) (fun fk6=>?_) fun fk6=>?_
 refine J.c0 3 [true] [] [] S2 47 hb4 (awake_any  _) fun w8 S8=>J.e 2 [.bool true] func3 (hR _ _ ?_)
 exact⟨rfl,S8.nil⟩
 refine J.lb 4 [false] [] [] S2 0 rfl 49 (.agg (dq p))<|J.cf 1 [] [] [] 51 hb5 (qparts_any p z _ (cS hp S2)) ?_
 rintro _ w9 ⟨ra1,rc1,rfl,T1⟩
 have S9:Sep w [ak aA ra1 rc1 3 1 (ptL p z),box b1 (aO p) 28] w9:=S2.trans T1
 refine J.lb 10 [] [(6,iv (ptE p z)),(5,.slice ra1 ((ptL p z).length) rc1)] [] S9 1 rfl 55 (.agg (dq p))<|J.c0 0 [] [] [] S9 56 hb6 (rpvalid_any p _ (cS hp S9)) fun w10 S10=>J.bn 3 [] [] [] 54 (bX p) (fun fk7=>?_) fun fk7=>?_
 have hv:=fk7
 refine J.c0 4 [false] [] [] S10 67 hb7 (rquestion_any z _) fun w11 S11=>J.bn 3 [] [] [] 65 (bM z) (fun fk8=>?_) fun fk8=>?_
 have hz:=fk8
 have fb3:=df.1 fk8
 refine J.lb 5 [false] [] [] S11 1 rfl 77 (.agg (dq p))<|J.cf 1 [] [] [] 79 hb8 (rqparts_any p z _ (cS hp S11) hv hz) ?_
 rintro _ w12 ⟨ra2,rc2,rfl,T2⟩
 have S12:Sep w [ak aA ra2 rc2 3 1 (ptL p z),ak aA ra1 rc1 3 1 (ptL p z),box b1 (aO p) 28] w12:=S11.trans T2
 refine J.r 10 [] [(83,.slice ra2 ((ptL p z).length) rc2),(82,.slice ra1 ((ptL p z).length) rc1),(8,iv (ptE p z))] [] ?_
 have:=aC (S12.nth 1 rfl)
 have:=aC (S12.nth 0 rfl)
 refine J.c0 0 [] [] [] S12 84 hb9 (eqints_any ra1 ((ptL p z).length) rc1 (ptL p z) ra2 ((ptL p z).length) rc2 (ptL p z) _ ((aD (S12.nth 1 rfl) ((ptL p z).length) rO)) ((aD (S12.nth 0 rfl) ((ptL p z).length) rO)) oz) fun w13 S13=>?_
 have fk10:((ptL p z)==(ptL p z))=true:=beq_self_eq_true _
 refine J.h 1 [] [] [] 85 (.bool ((ptL p z)==(ptL p z))) (.bool true) (congrArg Value.bool fk10)<|J.h 3 [] [] [] 88 (.bool ((ptE p z)==(ptE p z))) (.bool true) (congrArg Value.bool (by simp))<|J.e 3 [.bool true] func3 (hR _ _ ?_)
 exact⟨rfl,S13.nil⟩
 have fk12:((ptL p z).length:Int)=0:=by rw[(pt_nq fk7 fk8).2];rfl
 refine J.h 7 [true] [] [] 72 (.bool (((ptL p z).length:Int)==0)) (.bool true) (congrArg Value.bool (beq_iff_eq.2 fk12))<|J.e 5 [.bool ((ptE p z)==2)] func3 (hR _ _ ?_)
 have fk13:(ptE p z)=2:=(pt_nq fk7 fk8).1
 exact⟨congrArg Value.bool (beq_iff_eq.2 fk13),S11.nil⟩
 have fk15:((ptL p z).length:Int)=0:=by rw[(pt_nv (z:=z) fk7).2];rfl
 refine J.h 7 [true] [] [] 61 (.bool (((ptL p z).length:Int)==0)) (.bool true) (congrArg Value.bool (beq_iff_eq.2 fk15))<|J.e 5 [.bool ((ptE p z)==1)] func3 (hR _ _ ?_)
 have fk16:(ptE p z)=1:=(pt_nv (z:=z) fk7).1
 exact⟨congrArg Value.bool (beq_iff_eq.2 fk16),S10.nil⟩
end Go.Proofs.YtaoolgcddapegaaGreat
