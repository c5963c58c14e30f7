/- Walks of functions of this seat, printed by a program over the engine. Conditions: as each theorem says. -/
import Derived.Test.YtaoolgcddapegaaGreatZqG36
import Derived.Test.YtaoolgcddapegaaGreatZqX22
set_option linter.unusedSimpArgs false
set_option linter.unusedVariables false
namespace Go.Proofs.YtaoolgcddapegaaGreat
noncomputable section
open Go.Eng Go.RowKit Go.Proofs.Tryz
set_option maxRecDepth 20000
set_option maxHeartbeats 20000000
theorem rg_bad {p:Prg} {n:Nat} {l xs:List Int} (h:¬ ((n:Int)=p.ap∧xs.length=p.aq)):rgE p n l xs=1:=by
  cases hg:goodP p n with
  | false=>exact rg_out (.inl hg)
  | true=>exact rg_out (.inr fun e=>h ⟨(goodP_iff.1 hg).2,e⟩)
theorem hb24:af prog 24:=fun _ _=>by kernel_rfl
def K24_0:=adv 48 [false] (bi Tryz.f24)
def K24_1:=adv 17 [false] K24_0
def K24_2:=adv 14 [true] K24_1
def K24_3:=adv 22 [false] K24_1
theorem rrun_any (p:Prg) (rs:List Int) (la:Option Addr) (n c:Nat) (cs:List Int) (ia:Option Addr) (m ic:Nat) (xs:List Int) (w:World) (hrs:rs.length=16) (hp:prgQ w p) (hI:dj w la n cs) (hJ:dj w ia m xs) (hnb:n≤4096) (hv:bX p=true):Ret prog 24 #[.agg (dq p),.agg (mxA rs [.slice la n c]),.slice ia m ic] w (fun v w'=>∃ a cap oa oc,v=.tuple #[.agg (mxA (runR p n cs xs) [.slice a (dI p n cs xs).length cap]),.slice oa (ck p n cs xs).length oc,iv (rgE p n cs xs)]∧Sep w [ak aA a cap 3 1 (dI p n cs xs),ak aA oa oc 3 1 (ck p n cs xs)] w'):=by
 refine Ret.st (N:=97) func24 fun R hR S0=>?_
 obtain ⟨q1,q2,q3,q4,q5,q6,q7,q8,q9,q10,q11,q12,q13,q14,q15,q16,q17,q18,q19,q20,q21,q22,q23,q24,q25,_⟩:=id hp
 have ql1:=q2.len_eq
 have ql2:=q5.len_eq
 have ql3:=q8.len_eq
 have ql4:=q11.len_eq
 have ql5:=q15.len_eq
 have ql6:=q18.len_eq
 have ql7:=q21.len_eq
 have ql8:=q24.len_eq
 have hcl:=hI.len_eq
 have hxl:=hJ.len_eq
 obtain ⟨hv1,hv2,hv3,hv4,hv5,hv6,hv7,hv8,hv9,hv10,hv11⟩:=ci hv
 have hfi:=fun (j:Nat) (hj:j<p.aB.length)=>code_at hv hj
 have hin:=(bY hv6).2
 have hou:=(bY hv7).2
 have hon1:=(bY hv7).1
 have hin1:=(bY hv6).1
 refine J.nw 2 [] [] [] S0 3 (aO p) 28 fun b1 w1 S1=>J.new S1 4 (mxC rs [.slice la n c]) 44 kr ?_
 intro b2 w2 S2
 refine J.new S2 6 (mxC (List.replicate 16 (0:Int)) [.slice none 0 0]) 44 kr ?_
 intro b3 w3 S3
 refine J.r 7 [] [(16,.pointer (some ⟨b2,16,none⟩))] []<|J.ok (OK.ldMt S3 1 rfl 17 26 16 aS0)<|J.lb 2 [] [(18,iv (n:Int))] [] S3 2 rfl 20 (iv p.ap)<|J.cn 2 [] [] [] 22 ((n:Int)=p.ap) (fun fk1=>?_) fun fk1=>?_
 refine J.lb 3 [] [(24,iv (m:Int))] [] S3 2 rfl 26 (.slice p.aU p.aq p.aW)<|J.cn 4 [] [] [] 29 ((m:Int)=(p.aq:Int)) (fun fk2=>?_) fun fk2=>?_
 refine J.r 4 [false] [] []<|J.ok (OK.ldM S3 1 rfl 31 44 16 aS0)<|J.cf 0 [] [] [] 32 hb39 (rcopy_any rs la n c cs _ aS0 (hI.sep S3) om) ?_
 rintro _ w4 ⟨ra1,rc1,rfl,T1⟩
 have S4:Sep w [ak aA ra1 rc1 3 1 cs,box b3 (mxC (List.replicate 16 (0:Int)) [.slice none 0 0]) 44,box b2 (mxC rs [.slice la n c]) 44,box b1 (aO p) 28] w4:=S3.trans T1
 refine J.new S4 9 (mxC (List.replicate 16 (0:Int)) [.slice none 0 0]) 44 kr ?_
 intro b4 w5 S5
 refine J.stM S5 0 rfl 16 rs [.slice ra1 cs.length rc1] rfl rfl aS0 fun w6 S6=>J.r 5 [] [(34,pv b4),(33,.agg #[iv 0,iv 0,iv 0,iv 0,iv 0,iv 0,iv 0,iv 0,iv 0,iv 0,iv 0,iv 0,iv 0,iv 0,iv 0,iv 0])] []<|J.stBox S6 0 42 0 (.agg #[iv 0,iv 0,iv 0,iv 0,iv 0,iv 0,iv 0,iv 0,iv 0,iv 0,iv 0,iv 0,iv 0,iv 0,iv 0,iv 0]) (mxC (List.replicate 16 (0:Int)) [.slice ra1 cs.length rc1]) [box b4 (mxC (List.replicate 16 (0:Int)) [.slice ra1 cs.length rc1]) 44,ak aA ra1 rc1 3 1 cs,box b3 (mxC (List.replicate 16 (0:Int)) [.slice none 0 0]) 44,box b2 (mxC rs [.slice la n c]) 44,box b1 (aO p) 28] kr rfl kr (stV_mr (l':=List.replicate 16 (0:Int)) (List.length_replicate.trans (by first | exact Eq.symm aS0 | rfl | simp))) rfl ?_
 intro w7 S7
 have L24_1:∀ (mm_:Nat) (cl:List Int) (k:Int) (w8:World),(0≤k)→(k≤(m:Int))→(cl=inC p cs xs (k).toNat)→Sep w [box b4 (mxC (List.replicate 16 (0:Int)) [.slice ra1 cs.length rc1]) 44,ak aA ra1 rc1 3 1 cl,box b3 (mxC (List.replicate 16 (0:Int)) [.slice none 0 0]) 44,box b2 (mxC rs [.slice la n c]) 44,box b1 (aO p) 28] w8→((m:Int)-k).toNat=mm_→J prog 24 97 R K24_0 [(10,iv k),(9,pv b4),(6,pv b3),(3,pv b1),(2,.slice ia m ic)] w8:=by
  intro mm1
  induction mm1 using Nat.strongRecOn with
  | _ mm1 ih1 =>
  intro cl k w8 k0 k1 hcl2 S8 hm1
  have hcn:cl.length=n:=by rw[hcl2,inC_len];exact hcl
  have hik:k<(m:Int)→_:=fun h_=>hin k.toNat om
  refine J.c 8 [] [] [] 38 (k<(m:Int)) (fun fk3=>?_) fun fk3=>?_
  refine J.r 4 [true] [] [] ?_
  obtain ⟨p1,hp1,hc1⟩:=q15.at 0 (k).toNat om
  have hel1:=aP q16 0 (n:=(k).toNat) (by have:=q15.len_eq;omega)
  obtain ⟨p2,hp2,hc2⟩:=hJ.at 0 (k).toNat om
  obtain ⟨p3,hp3⟩:=bK (S8.nth 1 rfl) (show 0<(cl).length by first | omega | (simp;omega))
  refine J.drawTail S8 12 Tryz.mixed kr kr ?_
  intro w9 S9
  refine SL.r 41 (.pointer (some ⟨b4,16,none⟩))<|SL.ok dE (OK.ldMt S9 0 rfl 42 26 16 rfl)<|SL.r 43 (.pointer (some ⟨b1,5,none⟩))<|SL.lb S9 4 rfl 44 (.slice p.aU p.aq p.aW)<|SL.r 45 (iv k)<|SL.ok dE (OK.index 46 26 1 p.aU p1 p.aq (k).toNat k (p1.add (k).toNat) kr kr hp1 om om nO)<|SL.ok dE (OK.ldCell 47 3 (p1.add (k).toNat) (iv (p.au.getD (k).toNat 0)) kr kr (S9.cell hc1))<|SL.r 48 (.slice ia m ic)<|SL.r 49 (iv k)<|SL.ok dE (OK.index 50 26 1 ia p2 m (k).toNat k (p2.add (k).toNat) kr kr hp2 om om nO)<|SL.ok dE (OK.ldCell 51 3 (p2.add (k).toNat) (iv (xs.getD (k).toNat 0)) kr kr (S9.cell hc2)) ?_
  refine SL.ok dE (OK.index 52 26 1 ra1 p3 cs.length (p.au.getD (k).toNat 0).toNat (p.au.getD (k).toNat 0) (p3.add (p.au.getD (k).toNat 0).toNat) kr kr hp3 om oz nO)<|SL.done<|TL.stRow1 (Value.int .i64) (dO _) S9 1 cl 3 p3 (p.au.getD (k).toNat 0).toNat (xs.getD (k).toNat 0) rfl kr hp3 oz kr ?_
  intro w10 S10
  replace S10:Sep w [box b4 (mxC (List.replicate 16 (0:Int)) [.slice ra1 cs.length rc1]) 44,ak aA ra1 rc1 3 1 (cl.set (p.au.getD (k).toNat 0).toNat (xs.getD (k).toNat 0)),box b3 (mxC (List.replicate 16 (0:Int)) [.slice none 0 0]) 44,box b2 (mxC rs [.slice la n c]) 44,box b1 (aO p) 28] w10:=S10
  exact TL.done kr<|J.wi 4 [] [] [] 40 (k+1)<|J.t 3 (ih1 _ (show((m:Int)-(k+1)).toNat<mm1 from by omega) (cl.set (p.au.getD (k).toNat 0).toNat (xs.getD (k).toNat 0)) (k+1) w10 om om (by rw[show(k+1).toNat=k.toNat+1 by omega,inC,← hcl2]) S10 rfl)
  have L24_2:∀ (mm_:Nat) (rl:List Int) (cl:List Int) (k:Int) (w11:World),(0≤k)→(k≤(p.bl:Int))→(rl=(rnF p zR (inC p cs xs p.aq) (k).toNat).1)→(cl=(rnF p zR (inC p cs xs p.aq) (k).toNat).2)→(rnE p zR (inC p cs xs p.aq) (k).toNat=0)→Sep w [box b4 (mxC rl [.slice ra1 cs.length rc1]) 44,ak aA ra1 rc1 3 1 cl,box b3 (mxC (List.replicate 16 (0:Int)) [.slice none 0 0]) 44,box b2 (mxC rs [.slice la n c]) 44,box b1 (aO p) 28] w11→((p.bl:Int)-k).toNat=mm_→J prog 24 97 R K24_1 [(11,iv k),(9,pv b4),(6,pv b3),(3,pv b1)] w11:=by
   intro mm2
   induction mm2 using Nat.strongRecOn with
   | _ mm2 ih2 =>
   intro rl cl k w11 k0 k1 hrl hcl2 he S11 hm2
   have hrn:rl.length=16:=by rw[hrl,(rnF_len _ _ _ _).1];rfl
   have hcn:cl.length=n:=by rw[hcl2,(rnF_len _ _ _ _).2,inC_len];exact hcl
   have hxr:(exR p (p.aB.getD (k).toNat bq) rl cl).length=16:=(exR_len _ _ _ _).trans hrn
   have hxc:(exC (p.aB.getD (k).toNat bq) rl cl).length=n:=(exC_len _ _ _).trans hcn
   refine J.lb 5 [] [(53,iv k)] [] S11 4 rfl 55 (.slice p.cD p.bl p.dd)<|J.c 3 [] [] [] 57 (k<(p.bl:Int)) (fun fk4=>?_) fun fk4=>?_
   refine J.r 5 [true] [] [] ?_
   obtain ⟨p4,hp4,hc3⟩:=q2.at bq (k).toNat om
   have hel2:=aP q3 bq (n:=(k).toNat) (by have:=q2.len_eq;omega)
   obtain ⟨q26,q27,q28,q29,q30,_⟩:=id hel2
   have W1:∀ (bd11:Nat) (w12:World),Sep w [box bd11 (mxC (exR p (p.aB.getD (k).toNat bq) rl cl) [.slice ra1 cs.length rc1]) 44,box b4 (mxC rl [.slice ra1 cs.length rc1]) 44,ak aA ra1 rc1 3 1 (exC (p.aB.getD (k).toNat bq) rl cl),box b3 (mxC (List.replicate 16 (0:Int)) [.slice none 0 0]) 44,box b2 (mxC rs [.slice la n c]) 44,box b1 (aO p) 28] w12→WA prog 24 97 R K24_2 (fun w_=>Sep w [box b4 (mxC rl [.slice ra1 cs.length rc1]) 44,box b3 (mxC (List.replicate 16 (0:Int)) [.slice none 0 0]) 44,box b2 (mxC rs [.slice la n c]) 44,box b1 (aO p) 28] w_) 0 (bA 14 16383) [(3,pv b1),(6,pv b3),(9,pv b4),(11,iv k),(12,pv bd11),(13,iv (exE p (p.aB.getD (k).toNat bq) rl))] w12:=by
    intro bd11 w12 S12
    refine WA.done kr<|J.cn 6 [] [] [] 72 ((exE p (p.aB.getD (k).toNat bq) rl)=0) (fun fk5=>?_) fun fk5=>?_
    exact J.r 3 [false] [] []<|J.ok (OK.ldM S12 0 rfl 75 44 16 aS0)<|J.stM S12 1 rfl 16 (exR p (p.aB.getD (k).toNat bq) rl cl) [.slice ra1 cs.length rc1] rfl aS0 aS0 fun w13 S13=>J.wi 5 [] [] [] 59 (k+1)<|J.t 3 (ih2 _ (show((p.bl:Int)-(k+1)).toNat<mm2 from by omega) (exR p (p.aB.getD (k).toNat bq) rl cl) (exC (p.aB.getD (k).toNat bq) rl cl) (k+1) w13 om om (by rw[show(k+1).toNat=k.toNat+1 by omega];exact(rn_step hrl hcl2).1) (by rw[show(k+1).toNat=k.toNat+1 by omega];exact(rn_step hrl hcl2).2) (by rw[show(k+1).toNat=k.toNat+1 by omega,rn_err hrl he];exact fk5) (S13.erase 0) rfl)
    refine J.r 5 [true] [(74,iv (exE p (p.aB.getD (k).toNat bq) rl)),(73,.agg #[iv 0,iv 0,iv 0,iv 0,iv 0,iv 0,iv 0,iv 0,iv 0,iv 0,iv 0,iv 0,iv 0,iv 0,iv 0,iv 0,.slice none 0 0])] []<|J.stM S12 3 rfl 16 (List.replicate 16 (0:Int)) [.slice none 0 0] rfl rfl rfl fun w14 S14=>J.r 3 [] [(8,iv (exE p (p.aB.getD (k).toNat bq) rl)),(7,.slice none 0 0)] []<|J.ret Tryz.f24 [.agg (mxA (List.replicate 16 (0:Int)) [.slice none 0 0]),.slice none 0 0,iv (exE p (p.aB.getD (k).toNat bq) rl)] func24 ⟨⟨⟨b3,0,none⟩,kr,aS (S14.nth 3 rfl) (eJ (n:=16) kr kr rfl)⟩,kr,kr,trivial⟩<|hR _ _ ?_
    have e0:rgE p n cs xs=exE p (p.aB.getD (k).toNat bq) rl:=(rg_in hv om om).trans (rn_fin hrl he rfl fk5 om)
    obtain ⟨e1,e2,e3⟩:=run_bad e0 om
    exact⟨none,0,none,0,by rw[e0,e1,e2,e3];rfl,by rw[e2,e3];exact(S14.nil.nilRow 3 1).nilRow 3 1⟩
   have W2:∀ (bd11:Nat) (w15:World),Sep w [box bd11 (mxC (List.replicate 16 (0:Int)) [.slice none 0 0]) 44,box b4 (mxC rl [.slice ra1 cs.length rc1]) 44,ak aA ra1 rc1 3 1 (exC (p.aB.getD (k).toNat bq) rl cl),box b3 (mxC (List.replicate 16 (0:Int)) [.slice none 0 0]) 44,box b2 (mxC rs [.slice la n c]) 44,box b1 (aO p) 28] w15→WA prog 24 97 R K24_2 (fun w_=>Sep w [box b4 (mxC rl [.slice ra1 cs.length rc1]) 44,box b3 (mxC (List.replicate 16 (0:Int)) [.slice none 0 0]) 44,box b2 (mxC rs [.slice la n c]) 44,box b1 (aO p) 28] w_) 2 (bA 14 4095) [(3,pv b1),(6,pv b3),(9,pv b4),(11,iv k),(12,pv bd11),(69,.agg (mxA (exR p (p.aB.getD (k).toNat bq) rl cl) [.slice ra1 cs.length rc1])),(70,iv (exE p (p.aB.getD (k).toNat bq) rl))] w15:=by
    intro bd11 w15 S15
    refine WA.all [12] kr rfl ⟨?_,trivial⟩
    refine WO.set (bA 14 8191) kr<|WO.stBox S15 0 44 0 (.agg (mxA (exR p (p.aB.getD (k).toNat bq) rl cl) [.slice ra1 cs.length rc1])) (mxC (exR p (p.aB.getD (k).toNat bq) rl cl) [.slice ra1 cs.length rc1]) [box bd11 (mxC (exR p (p.aB.getD (k).toNat bq) rl cl) [.slice ra1 cs.length rc1]) 44,box b4 (mxC rl [.slice ra1 cs.length rc1]) 44,ak aA ra1 rc1 3 1 (exC (p.aB.getD (k).toNat bq) rl cl),box b3 (mxC (List.replicate 16 (0:Int)) [.slice none 0 0]) 44,box b2 (mxC rs [.slice la n c]) 44,box b1 (aO p) 28] kr rfl (by rw[mx_size (n:=16) (k:=17) aS0 rfl];kernel_rfl) (stV_ma (n:=16) rfl aS0 rfl rfl) rfl ?_
    intro w16 S16
    exact WB.mk ((S16.erase 2).erase 0)<|WA.take 13 13 (iv (exE p (p.aB.getD (k).toNat bq) rl)) (bA 14 16383) kr kr kr (fun _ _=>kr) kr<|WA.weaken kr (W1 bd11 w16 S16)
   have W3:∀ (w17:World),Sep w [box b4 (mxC rl [.slice ra1 cs.length rc1]) 44,ak aA ra1 rc1 3 1 (exC (p.aB.getD (k).toNat bq) rl cl),box b3 (mxC (List.replicate 16 (0:Int)) [.slice none 0 0]) 44,box b2 (mxC rs [.slice la n c]) 44,box b1 (aO p) 28] w17→WA prog 24 97 R K24_2 (fun w_=>Sep w [box b4 (mxC rl [.slice ra1 cs.length rc1]) 44,box b3 (mxC (List.replicate 16 (0:Int)) [.slice none 0 0]) 44,box b2 (mxC rs [.slice la n c]) 44,box b1 (aO p) 28] w_) 3 (bA 14 2047) [(3,pv b1),(6,pv b3),(9,pv b4),(11,iv k),(69,.agg (mxA (exR p (p.aB.getD (k).toNat bq) rl cl) [.slice ra1 cs.length rc1])),(70,iv (exE p (p.aB.getD (k).toNat bq) rl))] w17:=by
    intro w17 S17
    refine WA.all [11] kr rfl ⟨?_,trivial⟩
    refine WO.set (bA 14 4095) kr<|WO.new S17 12 (mxC (List.replicate 16 (0:Int)) [.slice none 0 0]) 44 kr ?_
    intro bd11 w18 S18
    exact WB.mk ((S18.erase 2).erase 0)<|WA.weaken kr (W2 bd11 w18 S18)
   have W4:∀ (bd11:Nat) (w19:World),Sep w [box bd11 (mxC (List.replicate 16 (0:Int)) [.slice none 0 0]) 44,box b4 (mxC rl [.slice ra1 cs.length rc1]) 44,ak aA ra1 rc1 3 1 cl,box b3 (mxC (List.replicate 16 (0:Int)) [.slice none 0 0]) 44,box b2 (mxC rs [.slice la n c]) 44,box b1 (aO p) 28] w19→WA prog 24 97 R K24_2 (fun w_=>Sep w [box b4 (mxC rl [.slice ra1 cs.length rc1]) 44,box b3 (mxC (List.replicate 16 (0:Int)) [.slice none 0 0]) 44,box b2 (mxC rs [.slice la n c]) 44,box b1 (aO p) 28] w_) 6 (bA 14 2175) [(3,pv b1),(6,pv b3),(9,pv b4),(11,iv k),(12,pv bd11),(61,.agg (dq p)),(62,.agg (mxA rl [.slice ra1 cs.length rc1])),(67,.agg (dP (p.aB.getD (k).toNat bq)))] w19:=by
    intro bd11 w19 S19
    refine WA.all [7] kr rfl ⟨?_,trivial⟩
    refine WO.set (bA 14 2303) kr ?_
    have S20:Sep w [ak aA ra1 rc1 3 1 cl,box bd11 (mxC (List.replicate 16 (0:Int)) [.slice none 0 0]) 44,box b4 (mxC rl [.slice ra1 cs.length rc1]) 44,box b3 (mxC (List.replicate 16 (0:Int)) [.slice none 0 0]) 44,box b2 (mxC rs [.slice la n c]) 44,box b1 (aO p) 28] w19:=S19.front 2 rfl
    clear S19
    refine WO.callF 68 40 #[.agg (dq p),.agg (mxA rl [.slice ra1 cs.length rc1]),.agg (dP (p.aB.getD (k).toNat bq))] hb40 kr (rmdo_any p (p.aB.getD (k).toNat bq) rl ra1 cs.length rc1 cl _ _ _ S20 aS0 oz hp hel2 hv (by first | exact hf | exact hfi _ om) om) ?_
    rintro _ w20 ⟨rfl,S21⟩
    replace S21:Sep w [ak aA ra1 rc1 3 1 (exC (p.aB.getD (k).toNat bq) rl cl),box bd11 (mxC (List.replicate 16 (0:Int)) [.slice none 0 0]) 44,box b4 (mxC rl [.slice ra1 cs.length rc1]) 44,box b3 (mxC (List.replicate 16 (0:Int)) [.slice none 0 0]) 44,box b2 (mxC rs [.slice la n c]) 44,box b1 (aO p) 28] w20:=S21
    clear S20
    have S22:=S21.front 2 rfl
    clear S21
    have S23:Sep w [box bd11 (mxC (List.replicate 16 (0:Int)) [.slice none 0 0]) 44,box b4 (mxC rl [.slice ra1 cs.length rc1]) 44,ak aA ra1 rc1 3 1 (exC (p.aB.getD (k).toNat bq) rl cl),box b3 (mxC (List.replicate 16 (0:Int)) [.slice none 0 0]) 44,box b2 (mxC rs [.slice la n c]) 44,box b1 (aO p) 28] w20:=S22.front 2 rfl
    clear S22
    have hxr:(exR p (p.aB.getD (k).toNat bq) rl cl).length=16:=(exR_len _ _ _ _).trans (by first | assumption | omega)
    have hxc:(exC (p.aB.getD (k).toNat bq) rl cl).length=cs.length:=(exC_len _ _ _).trans (by first | assumption | omega)
    exact WB.mk ((S23.erase 2).erase 0)<|WA.take 8 60 (.tuple #[.agg (mxA (exR p (p.aB.getD (k).toNat bq) rl cl) [.slice ra1 cs.length rc1]),iv (exE p (p.aB.getD (k).toNat bq) rl)]) (bA 14 2559) kr kr kr (fun _ _=>kr) kr<|WA.take 9 69 (.agg (mxA (exR p (p.aB.getD (k).toNat bq) rl cl) [.slice ra1 cs.length rc1])) (bA 14 3071) kr kr kr (fun _ _=>kr) kr<|WA.take 10 70 (iv (exE p (p.aB.getD (k).toNat bq) rl)) (bA 14 4095) kr kr kr (fun _ _=>kr) kr<|WA.weaken kr (W2 bd11 w20 S23)
   have W5:∀ (w21:World),Sep w [box b4 (mxC rl [.slice ra1 cs.length rc1]) 44,ak aA ra1 rc1 3 1 cl,box b3 (mxC (List.replicate 16 (0:Int)) [.slice none 0 0]) 44,box b2 (mxC rs [.slice la n c]) 44,box b1 (aO p) 28] w21→WA prog 24 97 R K24_2 (fun w_=>Sep w [box b4 (mxC rl [.slice ra1 cs.length rc1]) 44,box b3 (mxC (List.replicate 16 (0:Int)) [.slice none 0 0]) 44,box b2 (mxC rs [.slice la n c]) 44,box b1 (aO p) 28] w_) 7 (bA 14 127) [(3,pv b1),(6,pv b3),(9,pv b4),(11,iv k),(61,.agg (dq p)),(62,.agg (mxA rl [.slice ra1 cs.length rc1])),(67,.agg (dP (p.aB.getD (k).toNat bq)))] w21:=by
    intro w21 S24
    refine WA.all [7,11] kr rfl ⟨?_,?_,trivial⟩
    refine WO.set (bA 14 255) kr ?_
    have S25:Sep w [ak aA ra1 rc1 3 1 cl,box b4 (mxC rl [.slice ra1 cs.length rc1]) 44,box b3 (mxC (List.replicate 16 (0:Int)) [.slice none 0 0]) 44,box b2 (mxC rs [.slice la n c]) 44,box b1 (aO p) 28] w21:=S24.front 1 rfl
    clear S24
    refine WO.callF 68 40 #[.agg (dq p),.agg (mxA rl [.slice ra1 cs.length rc1]),.agg (dP (p.aB.getD (k).toNat bq))] hb40 kr (rmdo_any p (p.aB.getD (k).toNat bq) rl ra1 cs.length rc1 cl _ _ _ S25 aS0 oz hp hel2 hv (by first | exact hf | exact hfi _ om) om) ?_
    rintro _ w22 ⟨rfl,S26⟩
    replace S26:Sep w [ak aA ra1 rc1 3 1 (exC (p.aB.getD (k).toNat bq) rl cl),box b4 (mxC rl [.slice ra1 cs.length rc1]) 44,box b3 (mxC (List.replicate 16 (0:Int)) [.slice none 0 0]) 44,box b2 (mxC rs [.slice la n c]) 44,box b1 (aO p) 28] w22:=S26
    clear S25
    have S27:Sep w [box b4 (mxC rl [.slice ra1 cs.length rc1]) 44,ak aA ra1 rc1 3 1 (exC (p.aB.getD (k).toNat bq) rl cl),box b3 (mxC (List.replicate 16 (0:Int)) [.slice none 0 0]) 44,box b2 (mxC rs [.slice la n c]) 44,box b1 (aO p) 28] w22:=S26.front 1 rfl
    clear S26
    have hxr:(exR p (p.aB.getD (k).toNat bq) rl cl).length=16:=(exR_len _ _ _ _).trans (by first | assumption | omega)
    have hxc:(exC (p.aB.getD (k).toNat bq) rl cl).length=cs.length:=(exC_len _ _ _).trans (by first | assumption | omega)
    exact WB.mk (S27.erase 1)<|WA.take 8 60 (.tuple #[.agg (mxA (exR p (p.aB.getD (k).toNat bq) rl cl) [.slice ra1 cs.length rc1]),iv (exE p (p.aB.getD (k).toNat bq) rl)]) (bA 14 511) kr kr kr (fun _ _=>kr) kr<|WA.take 9 69 (.agg (mxA (exR p (p.aB.getD (k).toNat bq) rl cl) [.slice ra1 cs.length rc1])) (bA 14 1023) kr kr kr (fun _ _=>kr) kr<|WA.take 10 70 (iv (exE p (p.aB.getD (k).toNat bq) rl)) (bA 14 2047) kr kr kr (fun _ _=>kr) kr<|WA.weaken kr (W3 w22 S27)
    refine WO.set (bA 14 2175) kr<|WO.new S24 12 (mxC (List.replicate 16 (0:Int)) [.slice none 0 0]) 44 kr ?_
    intro bd11 w23 S28
    exact WB.mk ((S28.erase 2).erase 0)<|WA.weaken kr (W4 bd11 w23 S28)
   refine J.drawAny (fun w_=>Sep w [box b4 (mxC rl [.slice ra1 cs.length rc1]) 44,box b3 (mxC (List.replicate 16 (0:Int)) [.slice none 0 0]) 44,box b2 (mxC rs [.slice la n c]) 44,box b1 (aO p) 28] w_) S11 14 (bA 14 0) Tryz.mixed kr kr kr ?_
   intro w24 S29
   exact WB.mk (S29.erase 1)<|WA.takeOK 0 (bA 14 1) kr kr kr kr (fun w_ S_=>OK.ldBox S_ 3 61 28 0 (.agg (dq p)) kr rfl kr) rfl<|WA.takeOK 1 (bA 14 3) kr kr kr kr (fun w_ S_=>OK.ldM S_ 0 rfl 62 44 16 aS0) rfl<|WA.take 2 63 (pv b1) (bA 14 7) kr kr kr (fun _ _=>kr) kr<|WA.takeOK 3 (bA 14 15) kr kr kr kr (fun w_ S_=>OK.ldBox S_ 3 64 22 0 (.slice p.cD p.bl p.dd) kr rfl kr) rfl<|WA.take 4 65 (iv k) (bA 14 31) kr kr kr (fun _ _=>kr) kr<|WA.takeOK 5 (bA 14 63) kr kr kr kr (fun w_ S_=>OK.index 66 22 5 p.cD p4 p.bl (k).toNat k (p4.add ((k).toNat*5)) kr kr hp4 om om rfl) rfl<|WA.takeOK 6 (bA 14 127) kr kr kr kr (fun w_ S_=>OK.ldCells 67 64 (p4.add ((k).toNat*5)) (aZ (p.aB.getD (k).toNat bq)) kr kr kr (fun j_ v_ hj_=>S_.cell (hc3 j_ v_ hj_))) rfl<|WA.weaken (env':=[(3,pv b1),(6,pv b3),(9,pv b4),(11,iv k),(61,.agg (dq p)),(62,.agg (mxA rl [.slice ra1 cs.length rc1])),(67,.agg (dP (p.aB.getD (k).toNat bq)))]) kr<|W5 w24 S29
   have S30:Sep w [ak aA none 0 3 1 ([]),box b4 (mxC rl [.slice ra1 cs.length rc1]) 44,ak aA ra1 rc1 3 1 cl,box b3 (mxC (List.replicate 16 (0:Int)) [.slice none 0 0]) 44,box b2 (mxC rs [.slice la n c]) 44,box b1 (aO p) 28] w11:=S11.nilRow 3 1
   have L24_3:∀ (mm_:Nat) (ol:List Int) (oa:Option Addr) (oc:Nat) (k2:Int) (w25:World),(0≤k2)→(k2≤(p.aL:Int))→(ol=outC p cl (k2).toNat)→Sep w [ak aA oa oc 3 1 ol,box b4 (mxC rl [.slice ra1 cs.length rc1]) 44,ak aA ra1 rc1 3 1 cl,box b3 (mxC (List.replicate 16 (0:Int)) [.slice none 0 0]) 44,box b2 (mxC rs [.slice la n c]) 44,box b1 (aO p) 28] w25→((p.aL:Int)-k2).toNat=mm_→J prog 24 97 R K24_3 [(15,iv k2),(14,.slice oa ol.length oc),(9,pv b4),(6,pv b3),(3,pv b1)] w25:=by
    intro mm3
    induction mm3 using Nat.strongRecOn with
    | _ mm3 ih3 =>
    intro ol oa oc k2 w25 j0 j1 hol S31 hm3
    have hon:ol.length=k2.toNat:=by rw[hol];exact outC_len om
    have hok:k2<(p.aL:Int)→_:=fun h_=>hou k2.toNat om
    refine J.lb 5 [] [(76,iv k2)] [] S31 5 rfl 78 (.slice p.bt p.aL p.bv)<|J.c 3 [] [] [] 80 (k2<(p.aL:Int)) (fun fk6=>?_) fun fk6=>?_
    refine J.r 4 [true] [] [] ?_
    obtain ⟨p5,hp5,hc4⟩:=q21.at 0 (k2).toNat om
    have hel3:=aP q22 0 (n:=(k2).toNat) (by have:=q21.len_eq;omega)
    obtain ⟨p6,hp6⟩:=bK (S31.nth 2 rfl) (show 0<(cl).length by first | omega | (simp;omega))
    refine J.drawPlan (fun w_=>Sep w [box b4 (mxC rl [.slice ra1 cs.length rc1]) 44,ak aA ra1 rc1 3 1 cl,box b3 (mxC (List.replicate 16 (0:Int)) [.slice none 0 0]) 44,box b2 (mxC rs [.slice la n c]) 44,box b1 (aO p) 28] w_) [(0,true),(1,true),(2,true),(3,true),(4,true),(5,true),(6,true),(7,true),(8,true),(9,true),(10,false),(11,false),(12,true)] S31 Tryz.mixed kr (aE (T:=[(0,some 83,16384),(0,some 84,512),(2,some 85,19342813113834066795298816),(0,some 86,8),(8,some 87,77371252455336267181195264),(0,some 88,32768),(48,some 89,464227514732017603087171584),(64,some 90,618970019642690137449562112),(132,some 91,1276625665513048408489721856),(256,some 92,2475880078570760549798248448),(512,some 93,4951760157141521099596496896),(1025,some 94,9913191720839959232590643200),(4095,some 14,19807040628566084398385987584)]) kr kr) ?_
    intro w26 S32
    refine PB.mk (S32.erase 0)<|PL.take 0 83 (.slice oa ol.length oc) (fun _ _=>kr)<|PL.take 1 84 (.pointer (some ⟨b4,16,none⟩)) (fun _ _=>kr)<|PL.takeOK 2 (fun w_ S_=>OK.ldMt S_ 0 rfl 85 26 16 aS0) rfl<|PL.take 3 86 (.pointer (some ⟨b1,7,none⟩)) (fun _ _=>kr)<|PL.takeOK 4 (fun w_ S_=>OK.ldBox S_ 4 87 26 7 (.slice p.bt p.aL p.bv) kr rfl kr) rfl<|PL.take 5 88 (iv k2) (fun _ _=>kr)<|PL.takeOK 6 (fun w_ S_=>OK.index 89 26 1 p.bt p5 p.aL (k2).toNat k2 (p5.add (k2).toNat) kr kr hp5 om om nO) rfl<|PL.takeOK 7 (fun w_ S_=>OK.ldCell 90 3 (p5.add (k2).toNat) (iv (p.aM.getD (k2).toNat 0)) kr kr (S_.cell hc4)) rfl<|PL.takeOK 8 (fun w_ S_=>OK.index 91 26 1 ra1 p6 cs.length (p.aM.getD (k2).toNat 0).toNat (p.aM.getD (k2).toNat 0) (p6.add (p.aM.getD (k2).toNat 0).toNat) kr kr hp6 om oz nO) rfl<|PL.takeOK 9 (fun w_ S_=>OK.ldCell 92 3 (p6.add (p.aM.getD (k2).toNat 0).toNat) (iv (cl.getD (p.aM.getD (k2).toNat 0).toNat 0)) kr kr (ct (g:=(Value.int .i64)) S_ 1 rfl hp6 0 (p.aM.getD (k2).toNat 0).toNat oz)) rfl ?_
    refine PL.newSlice S32 93 1 [iv (cl.getD (p.aM.getD (k2).toNat 0).toNat 0)] 3 kr ?_
    intro b5 w27 S33
    refine PB.mk ((S33.erase 1).erase 0)<|PL.append aA S33 1 ol (cl.getD (p.aM.getD (k2).toNat 0).toNat 0) 94 26 (iv 0) 8 ⟨b5,0,none⟩ 1 rfl kr kr kr kr dE (cE (S33.nth 0 rfl)) kr kr (⟨om,om⟩) ?_
    intro ra2 rc2 w28 S34
    replace S34:Sep w [box b5 [iv (cl.getD (p.aM.getD (k2).toNat 0).toNat 0)] 3,ak aA ra2 rc2 3 1 (ol++[cl.getD (p.aM.getD (k2).toNat 0).toNat 0]),box b4 (mxC rl [.slice ra1 cs.length rc1]) 44,ak aA ra1 rc1 3 1 cl,box b3 (mxC (List.replicate 16 (0:Int)) [.slice none 0 0]) 44,box b2 (mxC rs [.slice la n c]) 44,box b1 (aO p) 28] w28:=S34
    have S35:Sep w [ak aA ra2 rc2 3 1 (ol++[cl.getD (p.aM.getD (k2).toNat 0).toNat 0]),box b4 (mxC rl [.slice ra1 cs.length rc1]) 44,ak aA ra1 rc1 3 1 cl,box b3 (mxC (List.replicate 16 (0:Int)) [.slice none 0 0]) 44,box b2 (mxC rs [.slice la n c]) 44,box b1 (aO p) 28] w28:=S34.erase 0
    clear S34
    exact PB.mk (S35.erase 0)<|PL.take 12 14 (.slice ra2 ((ol++[cl.getD (p.aM.getD (k2).toNat 0).toNat 0]).length) rc2) (fun _ _=>kr)<|PL.done<|J.wi 4 [] [] [] 82 (k2+1)<|J.t 3 (ih3 _ (show((p.aL:Int)-(k2+1)).toNat<mm3 from by omega) (ol++[cl.getD (p.aM.getD (k2).toNat 0).toNat 0]) ra2 rc2 (k2+1) w28 om om (by rw[show(k2+1).toNat=k2.toNat+1 by omega,outC_succ om,← hol]) S35 rfl)
    refine J.r 4 [false] [] []<|J.ok (OK.ldM S31 1 rfl 95 44 16 aS0)<|J.r 1 [] [(96,.slice oa ol.length oc)] []<|J.stM S31 3 rfl 16 rl [.slice ra1 cs.length rc1] rfl rfl aS0 fun w29 S36=>J.r 3 [] [(8,iv 0),(7,.slice oa ol.length oc)] []<|J.ret Tryz.f24 [.agg (mxA rl [.slice ra1 cs.length rc1]),.slice oa ol.length oc,iv 0] func24 ⟨⟨⟨b3,0,none⟩,kr,aS (S36.nth 3 rfl) (eJ (n:=16) kr kr aS0)⟩,kr,kr,trivial⟩<|hR _ _ ?_
    have e4:rgE p n cs xs=0:=(rg_in hv om om).trans (by rw[show p.bl=k.toNat by omega];exact he)
    obtain ⟨e1,e2,e3⟩:=run_ok e4
    have e5:rgS p cs xs=(rl,cl):=by unfold rgS;rw[show p.bl=k.toNat by omega,hrl,hcl2]
    have e6:outC p cl p.aL=ol:=by rw[hol,show p.aL=k2.toNat by omega]
    rw[e5] at e1 e2 e3
    rw[e6] at e3
    exact⟨_,_,_,_,by rw[e1,e2,e3,e4,hcn,← hcl];rfl,by rw[e2,e3];exact S36.two 0 2 rfl rfl dE⟩
   exact J.t 13 (L24_3 _ ([]) none 0 0 w11 om om (rfl) S30 rfl)
  exact J.t 9 (L24_2 _ (List.replicate 16 (0:Int)) cl 0 w8 om om (rfl) (hcl2.trans (by rw[show k.toNat=p.aq by omega];rfl)) (rfl) S8 rfl)
 exact J.t 8 (L24_1 _ cs 0 w7 om om (rfl) S7 rfl)
 refine J.r 4 [true] [(30,.agg #[iv 0,iv 0,iv 0,iv 0,iv 0,iv 0,iv 0,iv 0,iv 0,iv 0,iv 0,iv 0,iv 0,iv 0,iv 0,iv 0,.slice none 0 0])] []<|J.stM S3 0 rfl 16 (List.replicate 16 (0:Int)) [.slice none 0 0] rfl rfl rfl fun w30 S37=>J.r 3 [] [(8,iv 1),(7,.slice none 0 0)] []<|J.ret Tryz.f24 [.agg (mxA (List.replicate 16 (0:Int)) [.slice none 0 0]),.slice none 0 0,iv 1] func24 ⟨⟨⟨b3,0,none⟩,kr,aS (S37.nth 0 rfl) (eJ (n:=16) kr kr rfl)⟩,kr,kr,trivial⟩<|hR _ _ ?_
 have e0:rgE p n cs xs=1:=rg_bad om
 obtain ⟨e1,e2,e3⟩:=run_bad e0 om
 exact⟨none,0,none,0,by rw[e0,e1,e2,e3];rfl,by rw[e2,e3];exact(S37.nil.nilRow 3 1).nilRow 3 1⟩
 refine J.r 12 [true] [(30,.agg #[iv 0,iv 0,iv 0,iv 0,iv 0,iv 0,iv 0,iv 0,iv 0,iv 0,iv 0,iv 0,iv 0,iv 0,iv 0,iv 0,.slice none 0 0])] []<|J.stM S3 0 rfl 16 (List.replicate 16 (0:Int)) [.slice none 0 0] rfl rfl rfl fun w31 S38=>J.r 3 [] [(8,iv 1),(7,.slice none 0 0)] []<|J.ret Tryz.f24 [.agg (mxA (List.replicate 16 (0:Int)) [.slice none 0 0]),.slice none 0 0,iv 1] func24 ⟨⟨⟨b3,0,none⟩,kr,aS (S38.nth 0 rfl) (eJ (n:=16) kr kr rfl)⟩,kr,kr,trivial⟩<|hR _ _ ?_
 have e0:rgE p n cs xs=1:=rg_bad om
 obtain ⟨e1,e2,e3⟩:=run_bad e0 om
 exact⟨none,0,none,0,by rw[e0,e1,e2,e3];rfl,by rw[e2,e3];exact(S38.nil.nilRow 3 1).nilRow 3 1⟩

end
end Go.Proofs.YtaoolgcddapegaaGreat

namespace Go.Proofs.YtaoolgcddapegaaGreat
noncomputable section
open Go.Eng Go.RowKit Go.Proofs.Tryz
set_option maxRecDepth 20000
set_option maxHeartbeats 20000000
def wordB (n:Int):Bool:=decide (0≤n)&&decide (n≤65535)
def bM (n:Int):Bool:=decide (1≤n)&&decide (n≤65535)
theorem df {n:Int}:bM n=true↔1≤n∧n≤65535:=by simp[bM]
theorem wordB_iff {n:Int}:wordB n=true↔0≤n∧n≤65535:=by simp[wordB]
def cG (q:Int→Bool) (l:List Int):Int:=match l.findIdx? q with | some i=>i | none=> -1
theorem dv {q:Int→Bool} {l:List Int} (i:Nat) (hi:i<l.length) (h1:∀ j,j<i→q (l.getD j 0)=false) (h2:q (l.getD i 0)=true):cG q l=i:=by
  unfold cG
  have:l.findIdx? q=some i:=by
    rw[List.findIdx?_eq_some_iff_getElem]
    refine⟨hi,by simpa [List.getD,hi] using h2,fun j hj=>?_⟩
    have:=h1 j hj
    simp[List.getD,show j<l.length by omega] at this
    simp[this]
  rw[this]
theorem dK {q:Int→Bool} {l:List Int} (h1:∀ j,j<l.length→q (l.getD j 0)=false):cG q l= -1:=by
  unfold cG
  have:l.findIdx? q=none:=by
    rw[List.findIdx?_eq_none_iff]
    intro x hx
    obtain ⟨j,hj,rfl⟩:=List.mem_iff_getElem.1 hx
    have:=h1 j hj
    simpa [List.getD,hj] using this
  rw[this]
theorem dh {q:Int→Bool} {l:List Int}:decide (cG q l≥0)=l.any q:=by
  unfold cG
  cases h:l.findIdx? q with
  | none =>
    rw[List.findIdx?_eq_none_iff] at h
    have:l.any q=false:=by rw[List.any_eq_false];intro x hx;simp[h x hx]
    rw[this];decide
  | some i =>
    rw[List.findIdx?_eq_some_iff_getElem] at h
    obtain ⟨hi,h2,_⟩:=h
    have:l.any q=true:=List.any_eq_true.2 ⟨_,List.getElem_mem hi,h2⟩
    rw[this];simp
def partsB (l:List Int):Bool:=decide (1≤l.length)&&decide (l.length≤16)&&l.all wordB
def ansF (q:Int) (l:List Int):Int:=l.foldl (fun a p=>(5*a+p+1)%65536) q
def xorF (n:Int):Int:=IntKind.wrap .i64 ((BitVec.ofInt 64 n ^^^ BitVec.ofInt 64 (46080:Int)).toNat:Int)
def bI (n:Int):Int:=if n%2=1 then xorF (n/2) else n/2
theorem q_take_snoc (l:List Int) (k:Nat) (h:k<l.length):l.take (k+1)=l.take k++[l.getD k 0]:=by
  rw[List.take_succ_eq_append_getElem h];simp[List.getD,h]
theorem ansF_snoc (q:Int) (l:List Int) (k:Nat) (h:k<l.length):ansF q (l.take (k+1))=(5*ansF q (l.take k)+l.getD k 0+1)%65536:=by
  rw[q_take_snoc l k h,ansF,List.foldl_append];rfl
theorem ansF_bounds {q:Int} (hq:0≤q∧q≤65535) (l:List Int):0≤ansF q l∧ansF q l≤65535:=by
  unfold ansF
  induction l generalizing q with
  | nil=>exact hq
  | cons x l ih=>exact ih (show 0≤(5*q+x+1)%65536∧(5*q+x+1)%65536≤65535 by omega)
theorem q_all_getD {l:List Int} {q:Int→Bool} (h:l.all q=true) {j:Nat} (hj:j<l.length):q (l.getD j 0)=true:=by
  simp only[List.all_eq_true] at h
  have:=h l[j] (List.getElem_mem hj)
  simpa [List.getD,hj] using this

theorem hb43:af prog 43:=fun _ _=>by kernel_rfl

theorem word_any (n:Int) (w:World):Ret prog 43 #[iv n] w (fun v w'=>v=.bool (wordB n)∧Sep w [] w'):=by
 refine Ret.st (N:=9) func43 fun R hR S0=>J.c 9 [] [] [] 5 (n≥0) (fun fk1=>?_) fun fk1=>?_
 refine J.e 5 [.bool (decide (n≤65535))] func43 (hR _ _ ?_)
 exact⟨congrArg Value.bool (by unfold wordB;first | omega | (simp;done) | (simp;omega) | (simp_all;done) | (simp_all;omega)),S0.nil⟩
 refine J.e 5 [.bool false] func43 (hR _ _ ?_)
 exact⟨congrArg Value.bool (by unfold wordB;first | omega | (simp;done) | (simp;omega) | (simp_all;done) | (simp_all;omega)),S0.nil⟩

theorem hb13:af prog 13:=fun _ _=>by kernel_rfl

theorem question_any (n:Int) (w:World):Ret prog 13 #[iv n] w (fun v w'=>v=.bool (bM n)∧Sep w [] w'):=by
 refine Ret.st (N:=9) func13 fun R hR S0=>J.c 9 [] [] [] 5 (n≥1) (fun fk1=>?_) fun fk1=>?_
 refine J.e 5 [.bool (decide (n≤65535))] func13 (hR _ _ ?_)
 exact⟨congrArg Value.bool (by unfold bM;first | omega | (simp;done) | (simp;omega) | (simp_all;done) | (simp_all;omega)),S0.nil⟩
 refine J.e 5 [.bool false] func13 (hR _ _ ?_)
 exact⟨congrArg Value.bool (by unfold bM;first | omega | (simp;done) | (simp;omega) | (simp_all;done) | (simp_all;omega)),S0.nil⟩

theorem hb7:af prog 7:=fun _ _=>by kernel_rfl

theorem rquestion_any (n:Int) (w:World):Ret prog 7 #[iv n] w (fun v w'=>v=.bool (bM n)∧Sep w [] w'):=by
 refine Ret.st (N:=9) func7 fun R hR S0=>J.c 9 [] [] [] 5 (n≥1) (fun fk1=>?_) fun fk1=>?_
 refine J.e 5 [.bool (decide (n≤65535))] func7 (hR _ _ ?_)
 exact⟨congrArg Value.bool (by unfold bM;first | omega | (simp;done) | (simp;omega) | (simp_all;done) | (simp_all;omega)),S0.nil⟩
 refine J.e 5 [.bool false] func7 (hR _ _ ?_)
 exact⟨congrArg Value.bool (by unfold bM;first | omega | (simp;done) | (simp;omega) | (simp_all;done) | (simp_all;omega)),S0.nil⟩

theorem hb42:af prog 42:=fun _ _=>by kernel_rfl

theorem notword_any (n:Int) (w:World):Ret prog 42 #[iv n] w (fun v w'=>v=.bool (!wordB n)∧Sep w [] w'):=by
 refine Ret.st (N:=6) func42 fun R hR S0=>J.c0 7 [] [] [] S0 4 hb43 (word_any n _) fun w1 S1=>J.e 3 [.bool (!(wordB n))] func42 (hR _ _ ?_)
 exact⟨rfl,S1.nil⟩

def K80b_0:=adv 13 [] (bi Tryz.f80)
theorem indexNotword (la:Option Addr) (len cap:Nat) (l:List Int) (w:World) (hI:dj w la len l) (hlen:len≤9223372036854775807):Ret prog 80 #[.slice la len cap,.func (.func 42) #[] #[]] w (fun v w'=>v=iv (cG (fun x=> !wordB x) l)∧Sep w [] w'):=by
 refine Ret.st (N:=19) func80 fun R hR S0=>?_
 have L80_1:∀ (mm_:Nat) (i:Int) (w1:World),(0≤i)→(i≤(len:Int))→(∀ j,j<(i).toNat→(!wordB (l.getD j 0))=false)→Sep w [] w1→((len:Int)-i).toNat=mm_→J prog 80 19 R K80b_0 [(8,iv i),(7,iv (len:Int)),(0,.slice la len cap),(1,.func (.func 42) #[] #[])] w1:=by
  intro mm1
  induction mm1 using Nat.strongRecOn with
  | _ mm1 ih1 =>
  intro i w1 h0 h1 hq S1 hm1
  refine J.c 5 [] [] [] 9 (i<(len:Int)) (fun fk1=>?_) fun fk1=>?_
  refine J.r 14 [true] [(13,iv i),(12,.slice la len cap),(11,.func (.func 42) #[] #[]),(5,iv i)] [] ?_
  obtain ⟨p1,hp1,hc1⟩:=hI.at 0 (i).toNat om
  refine J.ok (OK.index 14 26 1 la p1 len (i).toNat i (p1.add (i).toNat) kr kr hp1 om om nO)<|J.ok (OK.ldCell 15 3 (p1.add (i).toNat) (iv (l.getD (i).toNat 0)) kr kr (S1.cell hc1))<|J.c0 0 [] [] [] S1 16 hb42 (notword_any (l.getD (i).toNat 0) _) fun w2 S2=>J.bn 1 [] [] [] 16 (wordB (l.getD (i).toNat 0)) (fun fk2=>?_) fun fk2=>?_
  exact J.wi 5 [false] [] [] 18 (i+1)<|J.t 3 (ih1 _ (show((len:Int)-(i+1)).toNat<mm1 from by omega) (i+1) w2 om om (by intro j hj;by_cases e:j=i.toNat;(subst e;simpa using fk2);exact hq j om) S2 rfl)
  refine J.e 6 [iv i] func80 (hR _ _ ?_)
  exact⟨by rw[cw,dv i.toNat (by have:=hI.len_eq;omega) hq (by simpa using fk2),Int.toNat_of_nonneg h0],S2.nil⟩
  refine J.e 6 [iv (-1)] func80 (hR _ _ ?_)
  exact⟨by rw[cw,dK fun j hj=>hq j (by have:=hI.len_eq;omega)],S1.nil⟩
 exact J.t 13 (L80_1 _ 0 w om om (by intro j hj;simp at hj) S0 rfl)

theorem containsNotword (la:Option Addr) (len cap:Nat) (l:List Int) (w:World) (hI:dj w la len l) (hlen:len≤9223372036854775807):Ret prog 41 #[.slice la len cap,.func (.func 42) #[] #[]] w (fun v w'=>v=.bool (l.any fun x=> !wordB x)∧Sep w [] w'):=by
 refine Ret.st (N:=9) func41 fun R hR S0=>J.r 8 [] [(6,.func (.func 42) #[] #[]),(5,.slice la len cap)] []<|J.c0 0 [] [] [] S0 7 hb80 (indexNotword la len cap l _ (hI.sep S0) om) fun w1 S1=>J.e 3 [.bool (decide ((cG (fun x=> !wordB x) l)≥0))] func41 (hR _ _ ?_)
 exact⟨congrArg Value.bool (by first | exact dh),S1.nil⟩

theorem dW (l:List Int):(l.any fun x=> !wordB x)= !l.all wordB:=by rw[← List.not_all_eq_any_not]
theorem hb25:af prog 25:=fun _ _=>by kernel_rfl

theorem parts_any (la:Option Addr) (len cap:Nat) (l:List Int) (w:World) (hI:dj w la len l) (hlen:len≤9223372036854775807):Ret prog 25 #[.slice la len cap] w (fun v w'=>v=.bool (partsB l)∧Sep w [] w'):=by
 refine Ret.st (N:=16) func25 fun R hR S0=>J.c 10 [] [] [] 6 ((len:Int)≥1) (fun fk1=>?_) fun fk1=>?_
 refine J.c 5 [] [] [] 11 ((len:Int)≤16) (fun fk2=>?_) fun fk2=>?_
 refine J.r 1 [] [(12,.slice la len cap)] []<|J.c0 0 [] [] [] S0 13 hb41 (containsNotword la len cap l _ (hI.sep S0) om) fun w1 S1=>J.e 4 [.bool (!(List.any l fun x=> !wordB x))] func25 (hR _ _ ?_)
 exact⟨congrArg Value.bool (by have hle:=hI.len_eq;first | (simp[partsB,dW,hle];intros;omega) | (have:1≤l.length:=by omega;have:l.length≤16:=by omega;simp[partsB,dW, *];done)),S1.nil⟩
 refine J.e 6 [.bool false] func25 (hR _ _ ?_)
 exact⟨congrArg Value.bool (by have hle:=hI.len_eq;first | (simp[partsB,dW,hle];intros;omega) | (have:1≤l.length:=by omega;have:l.length≤16:=by omega;simp[partsB,dW, *];done)),S0.nil⟩
 refine J.e 11 [.bool false] func25 (hR _ _ ?_)
 exact⟨congrArg Value.bool (by have hle:=hI.len_eq;first | (simp[partsB,dW,hle];intros;omega) | (have:1≤l.length:=by omega;have:l.length≤16:=by omega;simp[partsB,dW, *];done)),S0.nil⟩

theorem parts_word {l:List Int} (h:partsB l=true) {j:Nat} (hj:j<l.length):0≤l.getD j 0∧l.getD j 0≤65535:=by
  simp only[partsB,Bool.and_eq_true] at h
  exact wordB_iff.1 (q_all_getD h.2 hj)
theorem ans_step {q:Int} {l:List Int} {i:Int} {len:Nat} (hle:l.length=len) (h0:0≤i) (h1:i<(len:Int)):(5*ansF q (l.take i.toNat)+l.getD i.toNat 0+1)%65536=ansF q (l.take (i+1).toNat):=by
  rw[show(i+1).toNat=i.toNat+1 by omega,ansF_snoc q l i.toNat om]
def ansV (n:Int) (l:List Int):Value :=
  if partsB l=false then .tuple #[iv 0,iv 1] else if bM n=false then .tuple #[iv 0,iv 2] else .tuple #[iv (ansF n l),iv 0]
theorem ans_end {n a i:Int} {l:List Int} {len:Nat} (hle:l.length=len) (h:¬ i<(len:Int)) (hi:i≤len) (ha:a=ansF n (l.take i.toNat)):a=ansF n l:=by
  rw[ha,List.take_of_length_le om]
theorem hb10:af prog 10:=fun _ _=>by kernel_rfl
def K10_0:=adv 37 [false,false] (bi Tryz.f10)
theorem answer_any (n:Int) (la:Option Addr) (len cap:Nat) (l:List Int) (w:World) (hI:dj w la len l) (hlen:len≤9223372036854775807):Ret prog 10 #[iv n,.slice la len cap] w (fun v w'=>v=ansV n l∧Sep w [] w'):=by
 refine Ret.st (N:=30) func10 fun R hR S0=>J.r 9 [] [(9,.slice la len cap)] []<|J.c0 0 [] [] [] S0 10 hb25 (parts_any la len cap l _ (hI.sep S0) om) fun w1 S1=>J.bn 2 [] [] [] 11 (partsB l) (fun fk1=>?_) fun fk1=>?_
 refine J.c0 6 [false] [] [] S1 13 hb13 (question_any n _) fun w2 S2=>J.bn 2 [] [] [] 14 (bM n) (fun fk2=>?_) fun fk2=>?_
 have L10_1:∀ (mm_:Nat) (a:Int) (i:Int) (w3:World),(0≤i)→(i≤(len:Int))→(a=ansF n (l.take (i).toNat))→Sep w [] w3→((len:Int)-i).toNat=mm_→J prog 10 30 R K10_0 [(18,iv i),(17,iv (len:Int)),(16,.slice la len cap),(6,iv a)] w3:=by
  intro mm1
  induction mm1 using Nat.strongRecOn with
  | _ mm1 ih1 =>
  intro a i w3 h0 h1 ha S3 hm1
  have hp:i<(len:Int)→0≤l.getD i.toNat 0∧l.getD i.toNat 0≤65535:=fun h=>parts_word fk1 (by have:=hI.len_eq;omega)
  have hb:0≤a∧a≤65535:=by rw[ha];exact ansF_bounds (by have:=df.1 fk2;omega) _
  refine J.c 5 [] [] [] 19 (i<(len:Int)) (fun fk3=>?_) fun fk3=>?_
  refine J.r 6 [true] [] [] ?_
  obtain ⟨p1,hp1,hc1⟩:=hI.at 0 (i).toNat om
  exact J.ok (OK.index 20 26 1 la p1 len (i).toNat i (p1.add (i).toNat) kr kr hp1 om om nO)<|J.ok (OK.ldCell 21 3 (p1.add (i).toNat) (iv (l.getD (i).toNat 0)) kr kr (S3.cell hc1))<|J.wi 5 [] [(8,iv (l.getD (i).toNat 0))] [] 23 (5*a)<|J.wi 2 [] [] [] 25 ((5*a)+(l.getD (i).toNat 0))<|J.wi 1 [] [] [] 26 (((5*a)+(l.getD (i).toNat 0))+1)<|J.h 1 [] [] [] 27 (iv (IntKind.wrap .i64 ((BitVec.ofInt 64 (((5*a)+(l.getD (i).toNat 0))+1) &&& (BitVec.ofInt 64 (65535:Int))).toNat:Int))) (iv ((((5*a)+(l.getD (i).toNat 0))+1)%65536)) (congrArg (Value.int .i64) (dB 16 _ _ rF dE))<|J.wi 5 [] [(6,iv ((((5*a)+(l.getD (i).toNat 0))+1)%65536))] [] 28 (i+1)<|J.t 3 (ih1 _ (show((len:Int)-(i+1)).toNat<mm1 from by omega) ((((5*a)+(l.getD (i).toNat 0))+1)%65536) (i+1) w3 om om (by rw[ha];exact ans_step hI.len_eq h0 om) S3 rfl)
  refine J.e 8 [iv a,iv 0] func10 (hR _ _ ?_)
  exact⟨by rw[ans_end hI.len_eq fk3 h1 ha];simp[ansV,dX, *],S3.nil⟩
 exact J.t 16 (L10_1 _ n 0 w2 om om (by simp[ansF]) S2 rfl)
 refine J.e 6 [iv 0,iv 2] func10 (hR _ _ ?_)
 exact⟨by simp[ansV,dX, *],S2.nil⟩
 refine J.e 6 [iv 0,iv 1] func10 (hR _ _ ?_)
 exact⟨by simp[ansV,dX, *],S1.nil⟩

def nextV (n:Int):Value:=if bM n=false then iv 0 else iv (bI n)
theorem hb11:af prog 11:=fun _ _=>by kernel_rfl

theorem next_any (n:Int) (w:World):Ret prog 11 #[iv n] w (fun v w'=>v=nextV n∧Sep w [] w'):=by
 refine Ret.st (N:=14) func11 fun R hR S0=>J.c0 8 [] [] [] S0 4 hb13 (question_any n _) fun w1 S1=>J.bn 2 [] [] [] 5 (bM n) (fun fk1=>?_) fun fk1=>?_
 have fb1:=df.1 fk1
 refine J.h 7 [false] [] [] 7 (iv (IntKind.wrap .i64 ((BitVec.ofInt 64 n &&& (BitVec.ofInt 64 (1:Int))).toNat:Int))) (iv (n%2)) (congrArg (Value.int .i64) (dB 1 _ _ rF dE))<|J.c 2 [] [] [] 8 ((n%2)=1) (fun fk2=>?_) fun fk2=>?_
 refine J.h 5 [true] [] [] 10 (iv (Int.fdiv n (2^1))) (iv (n/2)) (congrArg (Value.int .i64) (dl _ _ dE))<|J.e 3 [iv (IntKind.wrap .i64 ((BitVec.ofInt 64 (n/2) ^^^ (BitVec.ofInt 64 (46080:Int))).toNat:Int))] func11 (hR _ _ ?_)
 exact⟨by simp[nextV,bI,xorF,cw,dX,tup_three,fk1,(beq_iff_eq.2 fk2),(beq_iff_eq.2 (Eq.symm fk2)),fk2],S1.nil⟩
 refine J.h 6 [false] [] [] 13 (iv (Int.fdiv n (2^1))) (iv (n/2)) (congrArg (Value.int .i64) (dl _ _ dE))<|J.e 2 [iv (n/2)] func11 (hR _ _ ?_)
 exact⟨by simp[nextV,bI,xorF,cw,dX,tup_three,fk1,fk2,(beq_eq_false_iff_ne.2 fk2),(beq_eq_false_iff_ne.2 (Ne.symm fk2))],S1.nil⟩
 refine J.e 5 [iv 0] func11 (hR _ _ ?_)
 exact⟨by simp[nextV,bI,xorF,cw,dX,tup_three,fk1],S1.nil⟩

theorem hb23:af prog 23:=fun _ _=>by kernel_rfl

theorem rnext_any (n:Int) (w:World) (hq:bM n=true):Ret prog 23 #[iv n] w (fun v w'=>v=iv (bI n)∧Sep w [] w'):=by
 refine Ret.st (N:=11) func23 fun R hR S0=>?_
 have hq2:=df.1 hq
 refine J.h 9 [] [] [] 4 (iv (Int.tmod n 2)) (iv (n%2)) (congrArg (Value.int .i64) (IntWalk.rem_in _ _ om))<|J.c 2 [] [] [] 5 ((n%2)=1) (fun fk1=>?_) fun fk1=>?_
 refine J.h 5 [true] [] [] 7 (iv (IntKind.wrap .i64 (Int.tdiv n 2))) (iv (n/2)) (congrArg (Value.int .i64) (IntWalk.i64_quo _ _ om))<|J.e 3 [iv (IntKind.wrap .i64 ((BitVec.ofInt 64 (n/2) ^^^ (BitVec.ofInt 64 (46080:Int))).toNat:Int))] func23 (hR _ _ ?_)
 exact⟨by simp[bI,xorF,cw,dX,tup_three,(beq_iff_eq.2 fk1),(beq_iff_eq.2 (Eq.symm fk1)),fk1],S0.nil⟩
 refine J.h 6 [false] [] [] 10 (iv (IntKind.wrap .i64 (Int.tdiv n 2))) (iv (n/2)) (congrArg (Value.int .i64) (IntWalk.i64_quo _ _ om))<|J.e 2 [iv (n/2)] func23 (hR _ _ ?_)
 exact⟨by simp[bI,xorF,cw,dX,tup_three,fk1,(beq_eq_false_iff_ne.2 fk1),(beq_eq_false_iff_ne.2 (Ne.symm fk1))],S0.nil⟩

theorem hb4:af prog 4:=fun _ _=>by kernel_rfl

theorem awake_any  (w:World):Ret prog 4 #[] w (fun v w'=>v=.bool true∧Sep w [] w'):=by
 refine Ret.st (N:=22) func4 fun R hR S0=>J.r 6 [] [] []<|J.newSlice S0 4 2 [iv 0,iv 7] 3 kr ?_
 intro b1 w1 S1
 have fk1:(partsB ([0,7]))=true:=by decide
 have fk2:(bM 1)=true:=by decide
 refine J.c0 0 [] [] [] S1 5 hb10 (answer_any 1 (some ⟨b1,0,none⟩) 2 2 ([0,7]) _ ((cc [0,7] (S1.nth 0 rfl) rfl 2 rfl)) om) fun w2 S2=>J.head (.tuple #[iv (ansF 1 ([0,7])),iv 0]) (by first | (simp only[ansV,fk1,fk2,reduceCtorEq, ↓reduceIte];done) | simp[ansV,fk1,fk2])<|J.r 8 [] [(2,iv 0),(1,iv (ansF 1 ([0,7])))] []<|J.c0 0 [] [] [] S2 8 hb11 (next_any 1 _) fun w3 S3=>J.head (iv (bI 1)) (by first | (simp only[nextV,fk2,reduceCtorEq, ↓reduceIte];done) | simp[nextV,fk2]) ?_
 have fk4:(bI 1)=46080:=by decide
 refine J.h 2 [] [] [] 10 (.bool ((bI 1)==46080)) (.bool true) (congrArg Value.bool (beq_iff_eq.2 fk4)) ?_
 have fk5:(bM 2)=true:=by decide
 refine J.c0 0 [] [] [] S3 11 hb11 (next_any 2 _) fun w4 S4=>J.head (iv (bI 2)) (by first | (simp only[nextV,fk5,reduceCtorEq, ↓reduceIte];done) | simp[nextV,fk5]) ?_
 have fk7:(bI 2)=1:=by decide
 refine J.h 3 [] [] [] 14 (.bool ((bI 2)==1)) (.bool true) (congrArg Value.bool (beq_iff_eq.2 fk7)) ?_
 have fk9:(ansF 1 ([0,7]))=38:=by decide
 refine J.h 4 [] [] [] 18 (.bool ((ansF 1 ([0,7]))==38)) (.bool true) (congrArg Value.bool (beq_iff_eq.2 fk9))<|J.e 5 [.bool true] func4 (hR _ _ ?_)
 exact⟨congrArg Value.bool dE,S4.nil⟩
theorem runR_len (p:Prg) (n:Nat) (l xs:List Int):(runR p n l xs).length=16:=by
  unfold runR;split
  · unfold rgS;rw[(rnF_len _ _ _ _).1];rfl
  · rfl

theorem hb9:af prog 9:=fun _ _=>by kernel_rfl
def K9_0:=adv 24 [false] (bi Tryz.f9)
theorem eqints_any (la:Option Addr) (len cap:Nat) (l:List Int) (ma:Option Addr) (mn mc:Nat) (ml:List Int) (w:World) (hI:dj w la len l) (hJ:dj w ma mn ml) (hlen:len≤9223372036854775807):Ret prog 9 #[.slice la len cap,.slice ma mn mc] w (fun v w'=>v=.bool (l==ml)∧Sep w [] w'):=by
 refine Ret.st (N:=26) func9 fun R hR S0=>?_
 have hl2:=hI.len_eq
 have hm2:=hJ.len_eq
 refine J.cn 13 [] [] [] 10 ((len:Int)=(mn:Int)) (fun fk1=>?_) fun fk1=>?_
 have L9_1:∀ (mm_:Nat) (i:Int) (w1:World),(0≤i)→(i≤(len:Int))→(∀ j,j<(i).toNat→l.getD j 0=ml.getD j 0)→Sep w [] w1→((len:Int)-i).toNat=mm_→J prog 9 26 R K9_0 [(13,iv i),(12,iv (len:Int)),(0,.slice la len cap),(1,.slice ma mn mc)] w1:=by
  intro mm1
  induction mm1 using Nat.strongRecOn with
  | _ mm1 ih1 =>
  intro i w1 h0 h1 hq S1 hm1
  refine J.c 5 [] [] [] 14 (i<(len:Int)) (fun fk2=>?_) fun fk2=>?_
  refine J.r 10 [true] [(5,iv i)] [] ?_
  obtain ⟨p1,hp1,hc1⟩:=hI.at 0 (i).toNat om
  obtain ⟨p2,hp2,hc2⟩:=hJ.at 0 (i).toNat om
  refine J.drawStill S1 9 Tryz.mixed kr kr kr ?_
  intro w2 S2
  refine SL.r 16 (.slice la len cap)<|SL.r 17 (iv i)<|SL.ok dE (OK.index 18 26 1 la p1 len (i).toNat i (p1.add (i).toNat) kr kr hp1 om om nO)<|SL.ok dE (OK.ldCell 19 3 (p1.add (i).toNat) (iv (l.getD (i).toNat 0)) kr kr (S2.cell hc1))<|SL.r 20 (.slice ma mn mc)<|SL.r 21 (iv i)<|SL.ok dE (OK.index 22 26 1 ma p2 mn (i).toNat i (p2.add (i).toNat) kr kr hp2 om om nO)<|SL.ok dE (OK.ldCell 23 3 (p2.add (i).toNat) (iv (ml.getD (i).toNat 0)) kr kr (S2.cell hc2))<|SL.r 24 (.bool ((l.getD (i).toNat 0) != (ml.getD (i).toNat 0)))<|SL.done<|TL.done kr ?_
  refine J.cn 0 [] [] [] 24 ((l.getD (i).toNat 0)=(ml.getD (i).toNat 0)) (fun fk3=>?_) fun fk3=>?_
  exact J.wi 5 [false] [] [] 25 (i+1)<|J.t 3 (ih1 _ (show((len:Int)-(i+1)).toNat<mm1 from by omega) (i+1) w2 om om (by intro j hj;by_cases e:j=i.toNat;(subst e;exact fk3);exact hq j om) S2 rfl)
  refine J.e 5 [.bool false] func9 (hR _ _ ?_)
  exact⟨congrArg Value.bool (beq_at (i:=i.toNat) fk3).symm,S2.nil⟩
  refine J.e 6 [.bool true] func9 (hR _ _ ?_)
  exact⟨congrArg Value.bool (beq_all om fun j hj=>hq j om).symm,S1.nil⟩
 exact J.t 11 (L9_1 _ 0 w om om (by intro j hj;simp at hj) S0 rfl)
 refine J.e 5 [.bool false] func9 (hR _ _ ?_)
 exact⟨congrArg Value.bool (beq_no hl2 hm2 om).symm,S0.nil⟩
theorem xorF_bounds {m:Int} (h:0≤m∧m≤32767):32768≤xorF m∧xorF m≤65535:=by
  obtain ⟨k,rfl⟩:∃ k:Nat,m=k:=⟨m.toNat,om⟩
  have h1:(BitVec.ofInt 64 (k:Int) ^^^ BitVec.ofInt 64 (46080:Int)).toNat=k ^^^ 46080:=by
    rw[BitVec.toNat_xor,BitVec.ofInt_natCast,BitVec.toNat_ofNat,Nat.mod_eq_of_lt om];rfl
  have h2:k ^^^ 46080<2^16:=Nat.xor_lt_two_pow om om
  have h3:2^15≤k ^^^ 46080:=by
    refine Nat.ge_two_pow_of_testBit ?_
    rw[Nat.testBit_xor,Nat.testBit_lt_two_pow (show k<2^15 by omega)];decide
  unfold xorF
  rw[h1,IntWalk.i64_in _ om];omega
theorem nextF_bounds {n:Int} (h:1≤n∧n≤65535):1≤bI n∧bI n≤65535:=by
  unfold bI
  split
  · have:=xorF_bounds (m:=n/2) om;omega
  · omega
def inQ (q:Int) (n:Nat):List Int:=(List.range n).map fun (i:Nat)=>(q+257*(i:Int))%65536-32768
theorem inQ_succ (q:Int) (n:Nat):inQ q (n+1)=inQ q n++[(q+257*(n:Int))%65536-32768]:=by
  unfold inQ;rw[List.range_succ,List.map_append];rfl
theorem inQ_len (q:Int) (n:Nat):(inQ q n).length=n:=by simp[inQ]
theorem inQ_at {q i:Int} (h:0≤i):inQ q i.toNat++[(q+257*i)%65536-32768]=inQ q (i+1).toNat:=by
  rw[show(i+1).toNat=i.toNat+1 by omega,inQ_succ,show((i.toNat:Nat):Int)=i by omega]
theorem inQ_set {q i:Int} {xl:List Int} (h:0≤i) (hl:i<(xl.length:Int)) (e:xl.take i.toNat=inQ q i.toNat):(xl.set i.toNat ((q+257*i)%65536-32768)).take (i+1).toNat=inQ q (i+1).toNat:=by
  rw[← inQ_at h,← e,show(i+1).toNat=i.toNat+1 by omega,List.take_succ_eq_append_getElem (by rw[List.length_set];omega),List.take_set_of_le (Nat.le_refl _),List.getElem_set_self]
theorem inQ_all {q i:Int} {xl:List Int} {n:Nat} (hn:xl.length=n) (h:(n:Int)≤i) (h2:i≤(n:Int)) (e:xl.take i.toNat=inQ q i.toNat):xl=inQ q n:=by
  rw[show i.toNat=n by omega,List.take_of_length_le om] at e;exact e
def smQ (ol:List Int):Nat→Int
  | 0=>0
  | k+1=>(smQ ol k+((k:Int)+1)*(ol.getD k 0%65536))%65536
theorem smQ_at {ol:List Int} {j a y:Int} (h:0≤j) (ha:a=smQ ol j.toNat) (hy:y=ol.getD j.toNat 0%65536):(a+(j+1)*y)%65536=smQ ol (j+1).toNat:=by
  rw[show(j+1).toNat=j.toNat+1 by omega,smQ,← ha,← hy,show((j.toNat:Nat):Int)=j by omega]
theorem smQ_bd (ol:List Int) (k:Nat):0≤smQ ol k∧smQ ol k≤65535:=by
  cases k with
  | zero=>show(0:Int)≤0∧(0:Int)≤65535;decide
  | succ k=>rw[smQ];omega
theorem tmw (o r:Int) (h:r=Int.tmod o 65536): -65536<r∧r<65536∧r%65536=o%65536:=by
  have h1:=Int.lt_tmod_of_pos o (show(0:Int)<65536 by decide)
  have h2:=Int.tmod_lt_of_pos o (show(0:Int)<65536 by decide)
  have h3:Int.tmod o 65536+65536*Int.tdiv o 65536=o:=Int.tmod_add_mul_tdiv o 65536
  subst h;omega
def rdQ (p:Prg) (z:Int) (c0:List Int):Nat→Int×List Int×List Int
  | 0=>(z,c0,[])
  | k+1 =>
    (bI (rdQ p z c0 k).1,dI p (rdQ p z c0 k).2.1.length (rdQ p z c0 k).2.1 (inQ (bI (rdQ p z c0 k).1) p.aq),
      (rdQ p z c0 k).2.2++[smQ (ck p (rdQ p z c0 k).2.1.length (rdQ p z c0 k).2.1 (inQ (bI (rdQ p z c0 k).1) p.aq)) (ck p (rdQ p z c0 k).2.1.length (rdQ p z c0 k).2.1 (inQ (bI (rdQ p z c0 k).1) p.aq)).length])
def reQ (p:Prg) (z:Int) (c0:List Int):Nat→Int
  | 0=>0
  | k+1=>if reQ p z c0 k=0 then rgE p (rdQ p z c0 k).2.1.length (rdQ p z c0 k).2.1 (inQ (bI (rdQ p z c0 k).1) p.aq) else reQ p z c0 k
abbrev c0Q (p:Prg):List Int:=newN p p.ao.length
def ptE (p:Prg) (z:Int):Int:=if bX p then (if bM z then reQ p z (c0Q p) 4 else 2) else 1
def ptL (p:Prg) (z:Int):List Int:=if ptE p z=0 then (rdQ p z (c0Q p) 4).2.2 else []
theorem rd_len0 (p:Prg) (z:Int) (c0:List Int):∀ k,(rdQ p z c0 k).2.2.length=k
  | 0=>rfl
  | k+1=>by simp only[rdQ,List.length_append,rd_len0 p z c0 k];rfl
theorem rd_len {p:Prg} {z q:Int} {c0 cl ol:List Int} {k:Nat} (h:rdQ p z c0 k=(q,cl,ol)):ol.length=k:=by
  have:=rd_len0 p z c0 k
  rw[h] at this;exact this
theorem rd_step {p:Prg} {z q:Int} {c0 cl ol il:List Int} {nn:Nat} {k:Int} (h:rdQ p z c0 k.toNat=(q,cl,ol)) (h0:0≤k) (hn:cl.length=nn) (hi:il=inQ (bI q) p.aq) :
    rdQ p z c0 (k+1).toNat=(bI q,dI p nn cl il,ol++[smQ (ck p nn cl il) (ck p nn cl il).length]):=by
  subst hn hi
  rw[show(k+1).toNat=k.toNat+1 by omega];simp only[rdQ,h]
theorem re_step {p:Prg} {z q e:Int} {c0 cl ol il:List Int} {nn:Nat} {k:Int} (h:rdQ p z c0 k.toNat=(q,cl,ol)) (h0:0≤k) (hn:cl.length=nn) (hi:il=inQ (bI q) p.aq) (he:reQ p z c0 k.toNat=0) (hx:rgE p nn cl il=e) :
    reQ p z c0 (k+1).toNat=e:=by
  subst hn hi
  rw[show(k+1).toNat=k.toNat+1 by omega];simp only[reQ,h,he];exact hx
theorem re_stop {p:Prg} {z e:Int} {c0:List Int} {k:Nat} (h:reQ p z c0 k=e) (he:e≠0):∀ m,k≤m→reQ p z c0 m=e
  | 0,hm=>by rw[show 0=k by omega];exact h
  | m+1,hm=>by
    by_cases hk:k=m+1
    · rw[← hk];exact h
    · have ih:=re_stop h he m om
      rw[reQ,ih,if_neg he]
theorem runC_len {p:Prg} {n:Nat} {l xs:List Int} (h:rgE p n l xs=0):(dI p n l xs).length=l.length:=by
  rw[(run_ok h).2.1];unfold rgS;rw[(rnF_len _ _ _ _).2,inC_len]
theorem runO_len {p:Prg} {n:Nat} {l xs:List Int} (h:rgE p n l xs=0) (hv:bX p=true):(ck p n l xs).length≤1000:=by
  rw[(run_ok h).2.2];unfold outC
  obtain ⟨_,_,_,_,_,_,hv7,_⟩:=ci hv
  have:=(bY hv7).1
  rw[List.length_map,List.length_take];omega
theorem newE_zero {p:Prg} (h:newE p=0):bX p=true:=by
  unfold newE at h;split at h
  · assumption
  · omega
theorem newE_no {p:Prg} (h:¬ newE p=0):bX p=false:=by
  unfold newE at h;split at h
  · omega
  · rename_i h1;exact Bool.eq_false_iff.2 h1
theorem pt_nv {p:Prg} {z:Int} (h:bX p=false):ptE p z=1∧ptL p z=[]:=by
  have e:ptE p z=1:=by unfold ptE;rw[h];rfl
  exact⟨e,by unfold ptL;rw[e];rfl⟩
theorem pt_nq {p:Prg} {z:Int} (h:bX p=true) (hq:bM z=false):ptE p z=2∧ptL p z=[]:=by
  have e:ptE p z=2:=by unfold ptE;rw[h,hq];rfl
  exact⟨e,by unfold ptL;rw[e];rfl⟩
theorem pt_err {p:Prg} {z q e:Int} {cl ol il:List Int} {nn:Nat} {k:Int} (hv:bX p=true) (hz:bM z=true) (h:rdQ p z (c0Q p) k.toNat=(q,cl,ol)) (h0:0≤k) (h4:k<4) (hn:cl.length=nn) (hi:il=inQ (bI q) p.aq) (he:reQ p z (c0Q p) k.toNat=0) (hx:rgE p nn cl il=e) (hne:e≠0) :
    ptE p z=e∧ptL p z=[]:=by
  have e1:ptE p z=e:=by unfold ptE;rw[hv,hz];exact re_stop (re_step h h0 hn hi he hx) hne 4 om
  exact⟨e1,by unfold ptL;rw[e1,if_neg hne]⟩
theorem pt_ok {p:Prg} {z q:Int} {cl ol:List Int} {k:Int} (hv:bX p=true) (hz:bM z=true) (h:rdQ p z (c0Q p) k.toNat=(q,cl,ol)) (h4:k.toNat=4) (he:reQ p z (c0Q p) k.toNat=0):ptE p z=0∧ptL p z=ol:=by
  rw[h4] at h he
  have e1:ptE p z=0:=by unfold ptE;rw[hv,hz];exact he
  exact⟨e1,by unfold ptL;rw[e1,h];rfl⟩

theorem hb15:af prog 15:=fun _ _=>by kernel_rfl

theorem mod16_any (a:Int) (w:World):Ret prog 15 #[iv a,iv 65536] w (fun v w'=>v=iv (a%65536)∧Sep w [] w'):=by
 refine Ret.st (N:=28) func15 fun R hR S0=>J.r 21 [false] [(14,iv (Int.tmod a 65536))] [] ?_
 obtain ⟨r,hr⟩:∃ x:Int,x=Int.tmod a 65536:=⟨_,rfl⟩
 refine J.head (iv r) (congrArg (Value.int .i64) hr.symm) ?_
 obtain ⟨hr1,hr2,hr3⟩:=tmw a r hr
 refine J.cn 8 [] [(5,iv r)] [] 17 (r=0) (fun fk1=>?_) fun fk1=>?_
 refine J.e 14 [iv r] func15 (hR _ _ ?_)
 have e:r=a%65536:=by omega
 exact⟨congrArg (Value.int .i64) e,S0.nil⟩
 refine J.b 7 [] [] [] 23 (!((decide (r<0))==false)) (fun fk2=>?_) fun fk2=>?_
 have fb1:r<0:=by simpa using fk2
 refine J.wi 5 [true] [] [] 26 (r+65536)<|J.e 7 [iv (r+65536)] func15 (hR _ _ ?_)
 have e:r+65536=a%65536:=by omega
 exact⟨congrArg (Value.int .i64) e,S0.nil⟩
 have fb2:¬ r<0:=by simpa using fk2
 refine J.e 7 [iv r] func15 (hR _ _ ?_)
 have e:r=a%65536:=by omega
 exact⟨congrArg (Value.int .i64) e,S0.nil⟩
theorem hb5:af prog 5:=fun _ _=>by kernel_rfl
def K5_0:=adv 45 [false,false] (bi Tryz.f5)
def K5_1:=adv 30 [true] K5_0
def K5_2:=adv 42 [false,false] K5_1
theorem qparts_any (p:Prg) (z:Int) (w:World) (hp:prgQ w p):Ret prog 5 #[.agg (dq p),iv z] w (fun v w'=>∃ a cap,v=.tuple #[.slice a (ptL p z).length cap,iv (ptE p z)]∧Sep w [ak aA a cap 3 1 (ptL p z)] w'):=by
 refine Ret.st (N:=78) func5 fun R hR S0=>?_
 obtain ⟨q1,q2,q3,q4,q5,q6,q7,q8,q9,q10,q11,q12,q13,q14,q15,q16,q17,q18,q19,q20,q21,q22,q23,q24,q25,_⟩:=id hp
 have ql1:=q2.len_eq
 have ql2:=q5.len_eq
 have ql3:=q8.len_eq
 have ql4:=q11.len_eq
 have ql5:=q15.len_eq
 have ql6:=q18.len_eq
 have ql7:=q21.len_eq
 have ql8:=q24.len_eq
 refine J.nw 2 [] [] [] S0 2 (aO p) 28 fun b1 w1 S1=>J.lb 5 [] [] [] S1 0 rfl 16 (.agg (dq p))<|J.cf 0 [] [] [] 17 hb12 (new_any p _ (cS hp S1)) ?_
 rintro _ w2 ⟨ra1,rc1,rfl,T1⟩
 have S2:Sep w [ak aA ra1 rc1 3 1 (newX p),box b1 (aO p) 28] w2:=S1.trans T1
 refine J.r 3 [] [(19,iv (newE p)),(18,.agg #[iv 0,iv 0,iv 0,iv 0,iv 0,iv 0,iv 0,iv 0,iv 0,iv 0,iv 0,iv 0,iv 0,iv 0,iv 0,iv 0,.slice ra1 ((newX p).length) rc1])] []<|J.new S2 6 (mxC (List.replicate 16 (0:Int)) [.slice none 0 0]) 44 kr ?_
 intro b2 w3 S3
 refine J.stM S3 0 rfl 16 (List.replicate 16 (0:Int)) [.slice ra1 ((newX p).length) rc1] rfl rfl rfl fun w4 S4=>J.cn 8 [] [] [] 21 ((newE p)=0) (fun fk1=>?_) fun fk1=>?_
 have hv:=newE_zero fk1
 obtain ⟨hv1,hv2,hv3,hv4,hv5,hv6,hv7,hv8,hv9,hv10,hv11⟩:=ci hv
 have hin:=(bY hv6).1
 have hnl:(c0Q p).length=p.ap.toNat:=newN_len p _
 have hnx0:newX p=c0Q p:=(newX_yes hv).1
 have hc0:((newX p).length:Int)=p.ap:=by rw[hnx0,hnl];omega
 have hc1:(newX p).length=(newX p).length:=rfl
 refine J.c0 6 [false] [] [] S4 23 hb13 (question_any z _) fun w5 S5=>J.bn 2 [] [] [] 24 (bM z) (fun fk2=>?_) fun fk2=>?_
 have hz:=fk2
 have hrd0:rdQ p z (c0Q p) 0=(z,newX p,[]):=by rw[hnx0];rfl
 have fb3:=df.1 fk2
 have S6:Sep w [ak aA none 0 3 1 ([]),box b2 (mxC (List.replicate 16 (0:Int)) [.slice ra1 ((newX p).length) rc1]) 44,ak aA ra1 rc1 3 1 (newX p),box b1 (aO p) 28] w5:=S5.nilRow 3 1
 have L5_1:∀ (mm_:Nat) (rl:List Int) (cl:List Int) (va:Option Addr) (vc:Nat) (nn:Nat) (ol:List Int) (oa:Option Addr) (oc:Nat) (q:Int) (k:Int) (w6:World),(0≤k)→(k≤4)→((rl).length=16)→((nn:Int)=p.ap)→((cl).length=nn)→(1≤q∧q≤65535)→(rdQ p z (c0Q p) (k).toNat=(q,cl,ol))→(reQ p z (c0Q p) (k).toNat=0)→Sep w [ak aA oa oc 3 1 ol,box b2 (mxC rl [.slice va nn vc]) 44,ak aA va vc 3 1 cl,box b1 (aO p) 28] w6→(4-k).toNat=mm_→J prog 5 78 R K5_0 [(25,iv k),(8,.slice oa ol.length oc),(6,pv b2),(2,pv b1),(1,iv q)] w6:=by
  intro mm1
  induction mm1 using Nat.strongRecOn with
  | _ mm1 ih1 =>
  intro rl cl va vc nn ol oa oc q k w6 k0 k1 hrn hcz hnn hqb hrd hre S7 hm1
  have hnx:=nextF_bounds hqb
  have hll:=rd_len hrd
  refine J.c 5 [] [] [] 26 (k<4) (fun fk3=>?_) fun fk3=>?_
  refine J.r 7 [true] [(27,iv q)] [] ?_
  have fk4:(bM q)=true:=df.2 om
  refine J.c0 0 [] [] [] S7 28 hb11 (next_any q _) fun w7 S8=>J.head (iv (bI q)) (by first | (simp only[nextV,fk4,reduceCtorEq, ↓reduceIte];done) | simp[nextV,fk4])<|J.lb 11 [] [(9,.slice none 0 0),(1,iv (bI q))] [] S8 3 rfl 30 (.slice p.aU p.aq p.aW) ?_
  have S9:Sep w [ak aA none 0 3 1 ([]),ak aA oa oc 3 1 ol,box b2 (mxC rl [.slice va nn vc]) 44,ak aA va vc 3 1 cl,box b1 (aO p) 28] w7:=S8.nilRow 3 1
  have L5_2:∀ (mm_:Nat) (il:List Int) (ia:Option Addr) (ic:Nat) (i:Int) (w8:World),(0≤i)→(i≤(p.aq:Int))→(il=inQ (bI q) (i).toNat)→Sep w [ak aA ia ic 3 1 il,ak aA oa oc 3 1 ol,box b2 (mxC rl [.slice va nn vc]) 44,ak aA va vc 3 1 cl,box b1 (aO p) 28] w8→((p.aq:Int)-i).toNat=mm_→J prog 5 78 R K5_1 [(32,iv i),(31,iv (p.aq:Int)),(9,.slice ia il.length ic),(1,iv (bI q)),(25,iv k),(8,.slice oa ol.length oc),(6,pv b2),(2,pv b1)] w8:=by
   intro mm2
   induction mm2 using Nat.strongRecOn with
   | _ mm2 ih2 =>
   intro il ia ic i w8 i0 i1 hil S10 hm2
   have hile:il.length=i.toNat:=by rw[hil];exact inQ_len _ _
   refine J.c 5 [] [] [] 33 (i<(p.aq:Int)) (fun fk5=>?_) fun fk5=>?_
   refine J.wi 14 [true] [(36,iv (bI q)),(35,.slice ia il.length ic)] [] 38 (257*i)<|J.wi 1 [] [] [] 39 ((bI q)+(257*i))<|J.h 1 [] [] [] 40 (iv (IntKind.wrap .i64 ((BitVec.ofInt 64 ((bI q)+(257*i)) &&& (BitVec.ofInt 64 (65535:Int))).toNat:Int))) (iv (((bI q)+(257*i))%65536)) (congrArg (Value.int .i64) (dB 16 _ _ rF dE))<|J.wi 1 [] [] [] 41 ((((bI q)+(257*i))%65536)-32768)<|J.newSlice S10 42 1 [iv ((((bI q)+(257*i))%65536)-32768)] 3 kr ?_
   intro b3 w9 S11
   refine J.append aA S11 1 il ((((bI q)+(257*i))%65536)-32768) 43 26 (iv 0) 8 ⟨b3,0,none⟩ 1 rfl kr kr kr kr dE (cE (S11.nth 0 rfl)) kr kr (⟨om,om⟩) ?_
   intro ra2 rc2 w10 S12
   replace S12:Sep w [box b3 [iv ((((bI q)+(257*i))%65536)-32768)] 3,ak aA ra2 rc2 3 1 (il++[(((bI q)+(257*i))%65536)-32768]),ak aA oa oc 3 1 ol,box b2 (mxC rl [.slice va nn vc]) 44,ak aA va vc 3 1 cl,box b1 (aO p) 28] w10:=S12
   exact J.wi 5 [] [(9,.slice ra2 ((il++[(((bI q)+(257*i))%65536)-32768]).length) rc2)] [] 44 (i+1)<|J.t 3 (ih2 _ (show((p.aq:Int)-(i+1)).toNat<mm2 from by omega) (il++[(((bI q)+(257*i))%65536)-32768]) ra2 rc2 (i+1) w10 om om (by rw[hil];exact inQ_at i0) (S12.erase 0) rfl)
   have hil2:il=inQ (bI q) p.aq:=by rw[hil,show i.toNat=p.aq by omega]
   refine J.lb 5 [false] [] [] S10 4 rfl 46 (.agg (dq p))<|J.ok (OK.ldM S10 2 rfl 47 44 16 aS0)<|J.r 1 [] [(48,.slice ia il.length ic)] [] ?_
   have:=aC (S10.nth 3 rfl)
   have:=aC (S10.nth 0 rfl)
   refine J.cf 0 [] [] [] 49 hb14 (run_any p rl va nn vc cl ia il.length ic il _ aS0 (cS hp S10) ((aD (S10.nth 3 rfl) nn rO)) ((aD (S10.nth 0 rfl) il.length rO)) om) ?_
   rintro _ w11 ⟨ra3,rc3,ra4,rc4,rfl,T2⟩
   have S13:Sep w [ak aA ra3 rc3 3 1 (dI p nn cl il),ak aA ra4 rc4 3 1 (ck p nn cl il),ak aA ia ic 3 1 il,ak aA oa oc 3 1 ol,box b2 (mxC rl [.slice va nn vc]) 44,ak aA va vc 3 1 cl,box b1 (aO p) 28] w11:=S10.trans T2
   have hrr:=runR_len p nn cl il
   refine J.r 4 [] [(52,iv (rgE p nn cl il)),(51,.slice ra4 ((ck p nn cl il).length) rc4),(50,.agg (mxA (runR p nn cl il) [.slice ra3 ((dI p nn cl il).length) rc3]))] []<|J.stM S13 4 rfl 16 (runR p nn cl il) [.slice ra3 ((dI p nn cl il).length) rc3] rfl aS0 aS0 fun w12 S14=>J.cn 8 [] [(7,iv (rgE p nn cl il)),(10,.slice ra4 ((ck p nn cl il).length) rc4)] [] 54 ((rgE p nn cl il)=0) (fun fk6=>?_) fun fk6=>?_
   have herr:=fk6
   have hol:=runO_len herr hv
   have L5_3:∀ (mm_:Nat) (a:Int) (j:Int) (w13:World),(0≤j)→(j≤(ck p nn cl il).length)→(a=smQ (ck p nn cl il) (j).toNat)→Sep w [ak aA ra3 rc3 3 1 (dI p nn cl il),ak aA ra4 rc4 3 1 (ck p nn cl il),ak aA ia ic 3 1 il,ak aA oa oc 3 1 ol,box b2 (mxC (runR p nn cl il) [.slice ra3 ((dI p nn cl il).length) rc3]) 44,ak aA va vc 3 1 cl,box b1 (aO p) 28] w13→((ck p nn cl il:List Int).length-j).toNat=mm_→J prog 5 78 R K5_2 [(58,iv j),(57,iv ((ck p nn cl il).length:Int)),(56,.slice ra4 ((ck p nn cl il).length) rc4),(12,iv a),(1,iv (bI q)),(25,iv k),(8,.slice oa ol.length oc),(6,pv b2),(2,pv b1)] w13:=by
    intro mm3
    induction mm3 using Nat.strongRecOn with
    | _ mm3 ih3 =>
    intro a j w13 j0 j1 ha S15 hm3
    have hab:=smQ_bd (ck p nn cl il) j.toNat
    rw[← ha] at hab
    have hmu:=cL (x:=j+1) (y:=(ck p nn cl il).getD j.toNat 0%65536) 1001 65536 om om
    refine J.c 5 [] [] [] 59 (j<((ck p nn cl il).length:Int)) (fun fk7=>?_) fun fk7=>?_
    refine J.r 7 [true] [(60,iv j)] [] ?_
    obtain ⟨p1,hp1⟩:=bK (S15.nth 1 rfl) (show 0<(ck p nn cl il).length by first | omega | (simp;omega))
    exact J.ok (OK.index 61 26 1 ra4 p1 ((ck p nn cl il).length) (j).toNat j (p1.add (j).toNat) kr kr hp1 om oz nO)<|J.ok (OK.ldCell 62 3 (p1.add (j).toNat) (iv ((ck p nn cl il).getD (j).toNat 0)) kr kr (ct (g:=(Value.int .i64)) S15 1 rfl hp1 0 (j).toNat oz))<|J.wi 7 [] [(63,iv a),(14,iv ((ck p nn cl il).getD (j).toNat 0))] [] 65 (j+1)<|J.c0 1 [] [] [] S15 67 hb15 (mod16_any ((ck p nn cl il).getD (j).toNat 0) _) fun w14 S16=>J.wi 1 [] [] [] 68 ((j+1)*(((ck p nn cl il).getD (j).toNat 0)%65536))<|J.wi 1 [] [] [] 69 (a+((j+1)*(((ck p nn cl il).getD (j).toNat 0)%65536)))<|J.h 1 [] [] [] 70 (iv (IntKind.wrap .i64 ((BitVec.ofInt 64 (a+((j+1)*(((ck p nn cl il).getD (j).toNat 0)%65536))) &&& (BitVec.ofInt 64 (65535:Int))).toNat:Int))) (iv ((a+((j+1)*(((ck p nn cl il).getD (j).toNat 0)%65536)))%65536)) (congrArg (Value.int .i64) (dB 16 _ _ rF dE))<|J.wi 5 [] [(12,iv ((a+((j+1)*(((ck p nn cl il).getD (j).toNat 0)%65536)))%65536))] [] 71 (j+1)<|J.t 3 (ih3 _ (show((ck p nn cl il:List Int).length-(j+1)).toNat<mm3 from by omega) ((a+((j+1)*(((ck p nn cl il).getD (j).toNat 0)%65536)))%65536) (j+1) w14 om om (smQ_at j0 ha rfl) S16 rfl)
    have hsm:a=smQ (ck p nn cl il) (ck p nn cl il).length:=by rw[ha,show j.toNat=(ck p nn cl il).length by omega]
    refine J.r 5 [false] [(73,iv a),(72,.slice oa ol.length oc)] []<|J.newSlice S15 74 1 [iv a] 3 kr ?_
    intro b4 w15 S17
    refine J.append aA S17 4 ol a 75 26 (iv 0) 8 ⟨b4,0,none⟩ 1 rfl kr kr kr kr dE (cE (S17.nth 0 rfl)) kr kr (⟨om,om⟩) ?_
    intro ra5 rc5 w16 S18
    replace S18:Sep w [box b4 [iv a] 3,ak aA ra3 rc3 3 1 (dI p nn cl il),ak aA ra4 rc4 3 1 (ck p nn cl il),ak aA ia ic 3 1 il,ak aA ra5 rc5 3 1 (ol++[a]),box b2 (mxC (runR p nn cl il) [.slice ra3 ((dI p nn cl il).length) rc3]) 44,ak aA va vc 3 1 cl,box b1 (aO p) 28] w16:=S18
    refine J.wi 5 [] [(8,.slice ra5 ((ol++[a]).length) rc5)] [] 76 (k+1) ?_
    have S19:Sep w [ak aA ra3 rc3 3 1 (dI p nn cl il),ak aA ra5 rc5 3 1 (ol++[a]),box b2 (mxC (runR p nn cl il) [.slice ra3 ((dI p nn cl il).length) rc3]) 44,box b1 (aO p) 28] w16:=((((S18.erase 0).erase 5).erase 2).erase 1)
    have S20:=S19.front 0 rfl
    have S21:=S20.front 2 rfl
    have S22:Sep w [ak aA ra5 rc5 3 1 (ol++[a]),box b2 (mxC (runR p nn cl il) [.slice ra3 ((dI p nn cl il).length) rc3]) 44,ak aA ra3 rc3 3 1 (dI p nn cl il),box b1 (aO p) 28] w16:=S21.front 2 rfl
    exact J.t 3 (ih1 _ (show(4-(k+1)).toNat<mm1 from by omega) (runR p nn cl il) (dI p nn cl il) ra3 rc3 ((dI p nn cl il).length) (ol++[a]) ra5 rc5 (bI q) (k+1) w16 om om (runR_len p nn cl il) (by rw[runC_len herr,hnn];exact hcz) (rfl) (nextF_bounds hqb) (by rw[hsm];exact rd_step hrd om hnn hil2) (re_step hrd om hnn hil2 hre herr) S22 rfl)
   exact J.t 15 (L5_3 _ 0 0 w12 om om (rfl) S14 rfl)
   refine J.e 7 [.slice none 0 0,iv (rgE p nn cl il)] func5 (hR _ _ ?_)
   obtain ⟨e1,e2⟩:=pt_err hv hz hrd om om hnn hil2 hre rfl fk6
   exact⟨none,0,by rw[e1,e2];rfl,by rw[e2];exact S14.nil.nilRow 3 1⟩
  exact J.t 5 (L5_2 _ ([]) none 0 0 w7 om om (rfl) S9 rfl)
  refine J.e 8 [.slice oa ol.length oc,iv 0] func5 (hR _ _ ?_)
  obtain ⟨e1,e2⟩:=pt_ok hv hz hrd om hre
  exact⟨_,_,by rw[e1,e2];rfl,by rw[e2];exact S7.pick 0 rfl⟩
 exact J.t 13 (L5_1 _ (List.replicate 16 (0:Int)) (newX p) ra1 rc1 ((newX p).length) ([]) none 0 z 0 w5 om om (rfl) (hc0) (hc1) om (hrd0) (rfl) S6 rfl)
 refine J.e 6 [.slice none 0 0,iv 2] func5 (hR _ _ ?_)
 obtain ⟨e1,e2⟩:=pt_nq hv fk2
 exact⟨none,0,by rw[e1,e2];rfl,by rw[e2];exact S5.nil.nilRow 3 1⟩
 refine J.e 6 [.slice none 0 0,iv 1] func5 (hR _ _ ?_)
 obtain ⟨e1,e2⟩:=pt_nv (z:=z) (newE_no fk1)
 exact⟨none,0,by rw[e1,e2];rfl,by rw[e2];exact S4.nil.nilRow 3 1⟩
end
end Go.Proofs.YtaoolgcddapegaaGreat
