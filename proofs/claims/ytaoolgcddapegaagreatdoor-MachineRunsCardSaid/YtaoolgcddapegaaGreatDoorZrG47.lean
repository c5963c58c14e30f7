/- Walks of functions of this seat, printed by a program over the engine. Conditions: as each theorem says. -/
import Derived.Test.YtaoolgcddapegaaGreatDoorZrG46
import Derived.Test.YtaoolgcddapegaaGreatDoorZrW14
set_option linter.unusedSimpArgs false
set_option linter.unusedVariables false
namespace Go.Proofs.YtaoolgcddapegaaGreatDoor
noncomputable section
open Go.Eng Go.RowKit Go.Proofs.Tryz
set_option maxRecDepth 20000
set_option maxHeartbeats 20000000
theorem rg_bad {p:Prg} {n:Nat} {l xs:List Int} (h:¬ ((n:Int)=p.aA∧xs.length=p.aE)):rgE p n l xs=1:=by
  cases hg:goodP p n with
  | false=>exact rg_out (.inl hg)
  | true=>exact rg_out (.inr fun e=>h ⟨(goodP_iff.1 hg).2,e⟩)
theorem rg_bad2 {p:Prg} {n:Nat} {l xs:List Int} (h:dz p=false):rgE p n l xs=1:=rg_out (.inl (by unfold goodP;rw[h];rfl))
theorem hb12:af prog 12:=fun _ _=>by kernel_rfl
def K12_0:=adv 48 [false] (bo Tryz.f12)
def K12_1:=adv 17 [false] K12_0
def K12_2:=adv 14 [true] K12_1
def K12_3:=adv 22 [false] K12_1
theorem rrun_any (p:Prg) (rs:List Int) (la:Option Addr) (n c:Nat) (cs:List Int) (ia:Option Addr) (m ic:Nat) (xs:List Int) (w:World) (hrs:rs.length=16) (hp:prgQ w p) (hI:dk w la n cs) (hJ:dk w ia m xs) (hnb:n≤4096) (hv:dz p=true):Ret prog 12 #[.agg (eb p),.agg (mxA rs [.slice la n c]),.slice ia m ic] w (fun v w'=>∃ a cap oa oc,v=.tuple #[.agg (mxA (runR p n cs xs) [.slice a (eW p n cs xs).length cap]),.slice oa (runO p n cs xs).length oc,iv (rgE p n cs xs)]∧Sep w [am aM a cap 3 1 (eW p n cs xs),am aM oa oc 3 1 (runO p n cs xs)] w'):=by
 refine Ret.st (N:=97) func12 fun R hR S0=>?_
 obtain ⟨q1,q2,q3,q4,q5,q6,q7,q8,q9,q10,q11,q12,q13,q14,q15,q16,q17,q18,q19,q20,q21,q22,q23,q24,q25,_⟩:=id hp
 have ql1:=q2.len_eq
 have ql2:=q5.len_eq
 have ql3:=q8.len_eq
 have ql4:=q11.len_eq
 have ql5:=q15.len_eq
 have ql6:=q18.len_eq
 have ql7:=q21.len_eq
 have ql8:=q24.len_eq
 have hcl:=hI.len_eq
 have hxl:=hJ.len_eq
 obtain ⟨hv1,hv2,hv3,hv4,hv5,hv6,hv7,hv8,hv9,hv10,hv11⟩:=dR hv
 have hfi:=fun (j:Nat) (hj:j<p.aC.length)=>code_at hv hj
 have hin:=(cS hv6).2
 have hou:=(cS hv7).2
 have hon1:=(cS hv7).1
 have hin1:=(cS hv6).1
 refine J.nw 2 [] [] [] S0 3 (ba p) 28 fun b1 w1 S1=>J.new S1 4 (mxC rs [.slice la n c]) 31 kr ?_
 intro b2 w2 S2
 refine J.new S2 6 (mxC (List.replicate 16 (0:Int)) [.slice none 0 0]) 31 kr ?_
 intro b3 w3 S3
 refine J.r 7 [] [(16,.pointer (some ⟨b2,16,none⟩))] []<|J.ok (OK.ldMt S3 1 rfl 17 26 16 aS0)<|J.lb 2 [] [(18,iv (n:Int))] [] S3 2 rfl 20 (iv p.aA)<|J.cn 2 [] [] [] 22 ((n:Int)=p.aA) (fun fk1=>?_) fun fk1=>?_
 refine J.lb 3 [] [(24,iv (m:Int))] [] S3 2 rfl 26 (.slice p.bf p.aE p.bi)<|J.cn 4 [] [] [] 29 ((m:Int)=(p.aE:Int)) (fun fk2=>?_) fun fk2=>?_
 refine J.r 4 [false] [] []<|J.ok (OK.ldM S3 1 rfl 31 31 16 aS0)<|J.cf 0 [] [] [] 32 hb14 (rcopy_any rs la n c cs _ aS0 (hI.sep S3) om) ?_
 rintro _ w4 ⟨ra1,rc1,rfl,T1⟩
 have S4:Sep w [am aM ra1 rc1 3 1 cs,box b3 (mxC (List.replicate 16 (0:Int)) [.slice none 0 0]) 31,box b2 (mxC rs [.slice la n c]) 31,box b1 (ba p) 28] w4:=S3.trans T1
 refine J.new S4 9 (mxC (List.replicate 16 (0:Int)) [.slice none 0 0]) 31 kr ?_
 intro b4 w5 S5
 refine J.stM S5 0 rfl 16 rs [.slice ra1 cs.length rc1] rfl rfl aS0 fun w6 S6=>J.r 5 [] [(34,pv b4),(33,.agg #[iv 0,iv 0,iv 0,iv 0,iv 0,iv 0,iv 0,iv 0,iv 0,iv 0,iv 0,iv 0,iv 0,iv 0,iv 0,iv 0])] []<|J.stBox S6 0 29 0 (.agg #[iv 0,iv 0,iv 0,iv 0,iv 0,iv 0,iv 0,iv 0,iv 0,iv 0,iv 0,iv 0,iv 0,iv 0,iv 0,iv 0]) (mxC (List.replicate 16 (0:Int)) [.slice ra1 cs.length rc1]) [box b4 (mxC (List.replicate 16 (0:Int)) [.slice ra1 cs.length rc1]) 31,am aM ra1 rc1 3 1 cs,box b3 (mxC (List.replicate 16 (0:Int)) [.slice none 0 0]) 31,box b2 (mxC rs [.slice la n c]) 31,box b1 (ba p) 28] kr rfl kr (stV_mr (l':=List.replicate 16 (0:Int)) (List.length_replicate.trans (by first | exact Eq.symm aS0 | rfl | simp))) rfl ?_
 intro w7 S7
 have L12_1:∀ (mm_:Nat) (cl:List Int) (k:Int) (w8:World),(0≤k)→(k≤(m:Int))→(cl=inC p cs xs (k).toNat)→Sep w [box b4 (mxC (List.replicate 16 (0:Int)) [.slice ra1 cs.length rc1]) 31,am aM ra1 rc1 3 1 cl,box b3 (mxC (List.replicate 16 (0:Int)) [.slice none 0 0]) 31,box b2 (mxC rs [.slice la n c]) 31,box b1 (ba p) 28] w8→((m:Int)-k).toNat=mm_→J prog 12 97 R K12_0 [(10,iv k),(9,pv b4),(6,pv b3),(3,pv b1),(2,.slice ia m ic)] w8:=by
  intro mm1
  induction mm1 using Nat.strongRecOn with
  | _ mm1 ih1 =>
  intro cl k w8 k0 k1 hcl2 S8 hm1
  have hcn:cl.length=n:=by rw[hcl2,inC_len];exact hcl
  have hik:k<(m:Int)→_:=fun h_=>hin k.toNat om
  refine J.c 8 [] [] [] 38 (k<(m:Int)) (fun fk3=>?_) fun fk3=>?_
  refine J.r 4 [true] [] [] ?_
  obtain ⟨p1,hp1,hc1⟩:=q15.at 0 (k).toNat om
  have hel1:=aX q16 0 (n:=(k).toNat) (by have:=q15.len_eq;omega)
  obtain ⟨p2,hp2,hc2⟩:=hJ.at 0 (k).toNat om
  obtain ⟨p3,hp3⟩:=ck (S8.nth 1 rfl) (show 0<(cl).length by first | omega | (simp;omega))
  refine J.drawTail S8 12 Tryz.mixed kr kr ?_
  intro w9 S9
  refine SL.r 41 (.pointer (some ⟨b4,16,none⟩))<|SL.ok dE (OK.ldMt S9 0 rfl 42 26 16 rfl)<|SL.r 43 (.pointer (some ⟨b1,5,none⟩))<|SL.lb S9 4 rfl 44 (.slice p.bf p.aE p.bi)<|SL.r 45 (iv k)<|SL.ok dE (OK.index 46 26 1 p.bf p1 p.aE (k).toNat k (p1.add (k).toNat) kr kr hp1 om om nO)<|SL.ok dE (OK.ldCell 47 3 (p1.add (k).toNat) (iv (p.ao.getD (k).toNat 0)) kr kr (S9.cell hc1))<|SL.r 48 (.slice ia m ic)<|SL.r 49 (iv k)<|SL.ok dE (OK.index 50 26 1 ia p2 m (k).toNat k (p2.add (k).toNat) kr kr hp2 om om nO)<|SL.ok dE (OK.ldCell 51 3 (p2.add (k).toNat) (iv (xs.getD (k).toNat 0)) kr kr (S9.cell hc2)) ?_
  refine SL.ok dE (OK.index 52 26 1 ra1 p3 cs.length (p.ao.getD (k).toNat 0).toNat (p.ao.getD (k).toNat 0) (p3.add (p.ao.getD (k).toNat 0).toNat) kr kr hp3 om oz nO)<|SL.done<|TL.stRow1 (Value.int .i64) (eU _) S9 1 cl 3 p3 (p.ao.getD (k).toNat 0).toNat (xs.getD (k).toNat 0) rfl kr hp3 oz kr ?_
  intro w10 S10
  replace S10:Sep w [box b4 (mxC (List.replicate 16 (0:Int)) [.slice ra1 cs.length rc1]) 31,am aM ra1 rc1 3 1 (cl.set (p.ao.getD (k).toNat 0).toNat (xs.getD (k).toNat 0)),box b3 (mxC (List.replicate 16 (0:Int)) [.slice none 0 0]) 31,box b2 (mxC rs [.slice la n c]) 31,box b1 (ba p) 28] w10:=S10
  exact TL.done kr<|J.wi 4 [] [] [] 40 (k+1)<|J.t 3 (ih1 _ (show((m:Int)-(k+1)).toNat<mm1 from by omega) (cl.set (p.ao.getD (k).toNat 0).toNat (xs.getD (k).toNat 0)) (k+1) w10 om om (by rw[show(k+1).toNat=k.toNat+1 by omega,inC,← hcl2]) S10 rfl)
  have L12_2:∀ (mm_:Nat) (rl:List Int) (cl:List Int) (k:Int) (w11:World),(0≤k)→(k≤(p.bu:Int))→(rl=(rnF p zR (inC p cs xs p.aE) (k).toNat).1)→(cl=(rnF p zR (inC p cs xs p.aE) (k).toNat).2)→(rnE p zR (inC p cs xs p.aE) (k).toNat=0)→Sep w [box b4 (mxC rl [.slice ra1 cs.length rc1]) 31,am aM ra1 rc1 3 1 cl,box b3 (mxC (List.replicate 16 (0:Int)) [.slice none 0 0]) 31,box b2 (mxC rs [.slice la n c]) 31,box b1 (ba p) 28] w11→((p.bu:Int)-k).toNat=mm_→J prog 12 97 R K12_1 [(11,iv k),(9,pv b4),(6,pv b3),(3,pv b1)] w11:=by
   intro mm2
   induction mm2 using Nat.strongRecOn with
   | _ mm2 ih2 =>
   intro rl cl k w11 k0 k1 hrl hcl2 he S11 hm2
   have hrn:rl.length=16:=by rw[hrl,(rnF_len _ _ _ _).1];rfl
   have hcn:cl.length=n:=by rw[hcl2,(rnF_len _ _ _ _).2,inC_len];exact hcl
   have hxr:(exR p (p.aC.getD (k).toNat bq) rl cl).length=16:=(exR_len _ _ _ _).trans hrn
   have hxc:(exC (p.aC.getD (k).toNat bq) rl cl).length=n:=(exC_len _ _ _).trans hcn
   refine J.lb 5 [] [(53,iv k)] [] S11 4 rfl 55 (.slice p.cJ p.bu p.dn)<|J.c 3 [] [] [] 57 (k<(p.bu:Int)) (fun fk4=>?_) fun fk4=>?_
   refine J.r 5 [true] [] [] ?_
   obtain ⟨p4,hp4,hc3⟩:=q2.at bq (k).toNat om
   have hel2:=aX q3 bq (n:=(k).toNat) (by have:=q2.len_eq;omega)
   obtain ⟨q26,q27,q28,q29,q30,_⟩:=id hel2
   have W1:∀ (bd11:Nat) (w12:World),Sep w [box bd11 (mxC (exR p (p.aC.getD (k).toNat bq) rl cl) [.slice ra1 cs.length rc1]) 31,box b4 (mxC rl [.slice ra1 cs.length rc1]) 31,am aM ra1 rc1 3 1 (exC (p.aC.getD (k).toNat bq) rl cl),box b3 (mxC (List.replicate 16 (0:Int)) [.slice none 0 0]) 31,box b2 (mxC rs [.slice la n c]) 31,box b1 (ba p) 28] w12→WA prog 12 97 R K12_2 (fun w_=>Sep w [box b4 (mxC rl [.slice ra1 cs.length rc1]) 31,box b3 (mxC (List.replicate 16 (0:Int)) [.slice none 0 0]) 31,box b2 (mxC rs [.slice la n c]) 31,box b1 (ba p) 28] w_) 0 (bA 14 16383) [(3,pv b1),(6,pv b3),(9,pv b4),(11,iv k),(12,pv bd11),(13,iv (exE p (p.aC.getD (k).toNat bq) rl))] w12:=by
    intro bd11 w12 S12
    refine WA.done kr<|J.cn 6 [] [] [] 72 ((exE p (p.aC.getD (k).toNat bq) rl)=0) (fun fk5=>?_) fun fk5=>?_
    exact J.r 3 [false] [] []<|J.ok (OK.ldM S12 0 rfl 75 31 16 aS0)<|J.stM S12 1 rfl 16 (exR p (p.aC.getD (k).toNat bq) rl cl) [.slice ra1 cs.length rc1] rfl aS0 aS0 fun w13 S13=>J.wi 5 [] [] [] 59 (k+1)<|J.t 3 (ih2 _ (show((p.bu:Int)-(k+1)).toNat<mm2 from by omega) (exR p (p.aC.getD (k).toNat bq) rl cl) (exC (p.aC.getD (k).toNat bq) rl cl) (k+1) w13 om om (by rw[show(k+1).toNat=k.toNat+1 by omega];exact(rn_step hrl hcl2).1) (by rw[show(k+1).toNat=k.toNat+1 by omega];exact(rn_step hrl hcl2).2) (by rw[show(k+1).toNat=k.toNat+1 by omega,rn_err hrl he];exact fk5) (S13.erase 0) rfl)
    refine J.r 5 [true] [(74,iv (exE p (p.aC.getD (k).toNat bq) rl)),(73,.agg #[iv 0,iv 0,iv 0,iv 0,iv 0,iv 0,iv 0,iv 0,iv 0,iv 0,iv 0,iv 0,iv 0,iv 0,iv 0,iv 0,.slice none 0 0])] []<|J.stM S12 3 rfl 16 (List.replicate 16 (0:Int)) [.slice none 0 0] rfl rfl rfl fun w14 S14=>J.r 3 [] [(8,iv (exE p (p.aC.getD (k).toNat bq) rl)),(7,.slice none 0 0)] []<|J.ret Tryz.f12 [.agg (mxA (List.replicate 16 (0:Int)) [.slice none 0 0]),.slice none 0 0,iv (exE p (p.aC.getD (k).toNat bq) rl)] func12 ⟨⟨⟨b3,0,none⟩,kr,aT (S14.nth 3 rfl) (fc (n:=16) kr kr rfl)⟩,kr,kr,trivial⟩<|hR _ _ ?_
    have e0:rgE p n cs xs=exE p (p.aC.getD (k).toNat bq) rl:=(rg_in hv om om).trans (rn_fin hrl he rfl fk5 om)
    obtain ⟨e1,e2,e3⟩:=run_bad e0 om
    exact⟨none,0,none,0,by rw[e0,e1,e2,e3];rfl,by rw[e2,e3];exact(S14.nil.nilRow 3 1).nilRow 3 1⟩
   have W2:∀ (bd11:Nat) (w15:World),Sep w [box bd11 (mxC (List.replicate 16 (0:Int)) [.slice none 0 0]) 31,box b4 (mxC rl [.slice ra1 cs.length rc1]) 31,am aM ra1 rc1 3 1 (exC (p.aC.getD (k).toNat bq) rl cl),box b3 (mxC (List.replicate 16 (0:Int)) [.slice none 0 0]) 31,box b2 (mxC rs [.slice la n c]) 31,box b1 (ba p) 28] w15→WA prog 12 97 R K12_2 (fun w_=>Sep w [box b4 (mxC rl [.slice ra1 cs.length rc1]) 31,box b3 (mxC (List.replicate 16 (0:Int)) [.slice none 0 0]) 31,box b2 (mxC rs [.slice la n c]) 31,box b1 (ba p) 28] w_) 2 (bA 14 4095) [(3,pv b1),(6,pv b3),(9,pv b4),(11,iv k),(12,pv bd11),(69,.agg (mxA (exR p (p.aC.getD (k).toNat bq) rl cl) [.slice ra1 cs.length rc1])),(70,iv (exE p (p.aC.getD (k).toNat bq) rl))] w15:=by
    intro bd11 w15 S15
    refine WA.all [12] kr rfl ⟨?_,trivial⟩
    refine WO.set (bA 14 8191) kr<|WO.stBox S15 0 31 0 (.agg (mxA (exR p (p.aC.getD (k).toNat bq) rl cl) [.slice ra1 cs.length rc1])) (mxC (exR p (p.aC.getD (k).toNat bq) rl cl) [.slice ra1 cs.length rc1]) [box bd11 (mxC (exR p (p.aC.getD (k).toNat bq) rl cl) [.slice ra1 cs.length rc1]) 31,box b4 (mxC rl [.slice ra1 cs.length rc1]) 31,am aM ra1 rc1 3 1 (exC (p.aC.getD (k).toNat bq) rl cl),box b3 (mxC (List.replicate 16 (0:Int)) [.slice none 0 0]) 31,box b2 (mxC rs [.slice la n c]) 31,box b1 (ba p) 28] kr rfl (by rw[mx_size (n:=16) (k:=17) aS0 rfl];kernel_rfl) (stV_ma (n:=16) rfl aS0 rfl rfl) rfl ?_
    intro w16 S16
    exact WB.mk ((S16.erase 2).erase 0)<|WA.take 13 13 (iv (exE p (p.aC.getD (k).toNat bq) rl)) (bA 14 16383) kr kr kr (fun _ _=>kr) kr<|WA.weaken kr (W1 bd11 w16 S16)
   have W3:∀ (w17:World),Sep w [box b4 (mxC rl [.slice ra1 cs.length rc1]) 31,am aM ra1 rc1 3 1 (exC (p.aC.getD (k).toNat bq) rl cl),box b3 (mxC (List.replicate 16 (0:Int)) [.slice none 0 0]) 31,box b2 (mxC rs [.slice la n c]) 31,box b1 (ba p) 28] w17→WA prog 12 97 R K12_2 (fun w_=>Sep w [box b4 (mxC rl [.slice ra1 cs.length rc1]) 31,box b3 (mxC (List.replicate 16 (0:Int)) [.slice none 0 0]) 31,box b2 (mxC rs [.slice la n c]) 31,box b1 (ba p) 28] w_) 3 (bA 14 2047) [(3,pv b1),(6,pv b3),(9,pv b4),(11,iv k),(69,.agg (mxA (exR p (p.aC.getD (k).toNat bq) rl cl) [.slice ra1 cs.length rc1])),(70,iv (exE p (p.aC.getD (k).toNat bq) rl))] w17:=by
    intro w17 S17
    refine WA.all [11] kr rfl ⟨?_,trivial⟩
    refine WO.set (bA 14 4095) kr<|WO.new S17 12 (mxC (List.replicate 16 (0:Int)) [.slice none 0 0]) 31 kr ?_
    intro bd11 w18 S18
    exact WB.mk ((S18.erase 2).erase 0)<|WA.weaken kr (W2 bd11 w18 S18)
   have W4:∀ (bd11:Nat) (w19:World),Sep w [box bd11 (mxC (List.replicate 16 (0:Int)) [.slice none 0 0]) 31,box b4 (mxC rl [.slice ra1 cs.length rc1]) 31,am aM ra1 rc1 3 1 cl,box b3 (mxC (List.replicate 16 (0:Int)) [.slice none 0 0]) 31,box b2 (mxC rs [.slice la n c]) 31,box b1 (ba p) 28] w19→WA prog 12 97 R K12_2 (fun w_=>Sep w [box b4 (mxC rl [.slice ra1 cs.length rc1]) 31,box b3 (mxC (List.replicate 16 (0:Int)) [.slice none 0 0]) 31,box b2 (mxC rs [.slice la n c]) 31,box b1 (ba p) 28] w_) 6 (bA 14 2175) [(3,pv b1),(6,pv b3),(9,pv b4),(11,iv k),(12,pv bd11),(61,.agg (eb p)),(62,.agg (mxA rl [.slice ra1 cs.length rc1])),(67,.agg (dm (p.aC.getD (k).toNat bq)))] w19:=by
    intro bd11 w19 S19
    refine WA.all [7] kr rfl ⟨?_,trivial⟩
    refine WO.set (bA 14 2303) kr ?_
    have S20:Sep w [am aM ra1 rc1 3 1 cl,box bd11 (mxC (List.replicate 16 (0:Int)) [.slice none 0 0]) 31,box b4 (mxC rl [.slice ra1 cs.length rc1]) 31,box b3 (mxC (List.replicate 16 (0:Int)) [.slice none 0 0]) 31,box b2 (mxC rs [.slice la n c]) 31,box b1 (ba p) 28] w19:=S19.front 2 rfl
    clear S19
    refine WO.callF 68 16 #[.agg (eb p),.agg (mxA rl [.slice ra1 cs.length rc1]),.agg (dm (p.aC.getD (k).toNat bq))] hb16 kr (rmdo_any p (p.aC.getD (k).toNat bq) rl ra1 cs.length rc1 cl _ _ _ S20 aS0 oz hp hel2 hv (by first | exact hf | exact hfi _ om) om) ?_
    rintro _ w20 ⟨rfl,S21⟩
    replace S21:Sep w [am aM ra1 rc1 3 1 (exC (p.aC.getD (k).toNat bq) rl cl),box bd11 (mxC (List.replicate 16 (0:Int)) [.slice none 0 0]) 31,box b4 (mxC rl [.slice ra1 cs.length rc1]) 31,box b3 (mxC (List.replicate 16 (0:Int)) [.slice none 0 0]) 31,box b2 (mxC rs [.slice la n c]) 31,box b1 (ba p) 28] w20:=S21
    clear S20
    have S22:=S21.front 2 rfl
    clear S21
    have S23:Sep w [box bd11 (mxC (List.replicate 16 (0:Int)) [.slice none 0 0]) 31,box b4 (mxC rl [.slice ra1 cs.length rc1]) 31,am aM ra1 rc1 3 1 (exC (p.aC.getD (k).toNat bq) rl cl),box b3 (mxC (List.replicate 16 (0:Int)) [.slice none 0 0]) 31,box b2 (mxC rs [.slice la n c]) 31,box b1 (ba p) 28] w20:=S22.front 2 rfl
    clear S22
    have hxr:(exR p (p.aC.getD (k).toNat bq) rl cl).length=16:=(exR_len _ _ _ _).trans (by first | assumption | omega)
    have hxc:(exC (p.aC.getD (k).toNat bq) rl cl).length=cs.length:=(exC_len _ _ _).trans (by first | assumption | omega)
    exact WB.mk ((S23.erase 2).erase 0)<|WA.take 8 60 (.tuple #[.agg (mxA (exR p (p.aC.getD (k).toNat bq) rl cl) [.slice ra1 cs.length rc1]),iv (exE p (p.aC.getD (k).toNat bq) rl)]) (bA 14 2559) kr kr kr (fun _ _=>kr) kr<|WA.take 9 69 (.agg (mxA (exR p (p.aC.getD (k).toNat bq) rl cl) [.slice ra1 cs.length rc1])) (bA 14 3071) kr kr kr (fun _ _=>kr) kr<|WA.take 10 70 (iv (exE p (p.aC.getD (k).toNat bq) rl)) (bA 14 4095) kr kr kr (fun _ _=>kr) kr<|WA.weaken kr (W2 bd11 w20 S23)
   have W5:∀ (w21:World),Sep w [box b4 (mxC rl [.slice ra1 cs.length rc1]) 31,am aM ra1 rc1 3 1 cl,box b3 (mxC (List.replicate 16 (0:Int)) [.slice none 0 0]) 31,box b2 (mxC rs [.slice la n c]) 31,box b1 (ba p) 28] w21→WA prog 12 97 R K12_2 (fun w_=>Sep w [box b4 (mxC rl [.slice ra1 cs.length rc1]) 31,box b3 (mxC (List.replicate 16 (0:Int)) [.slice none 0 0]) 31,box b2 (mxC rs [.slice la n c]) 31,box b1 (ba p) 28] w_) 7 (bA 14 127) [(3,pv b1),(6,pv b3),(9,pv b4),(11,iv k),(61,.agg (eb p)),(62,.agg (mxA rl [.slice ra1 cs.length rc1])),(67,.agg (dm (p.aC.getD (k).toNat bq)))] w21:=by
    intro w21 S24
    refine WA.all [7,11] kr rfl ⟨?_,?_,trivial⟩
    refine WO.set (bA 14 255) kr ?_
    have S25:Sep w [am aM ra1 rc1 3 1 cl,box b4 (mxC rl [.slice ra1 cs.length rc1]) 31,box b3 (mxC (List.replicate 16 (0:Int)) [.slice none 0 0]) 31,box b2 (mxC rs [.slice la n c]) 31,box b1 (ba p) 28] w21:=S24.front 1 rfl
    clear S24
    refine WO.callF 68 16 #[.agg (eb p),.agg (mxA rl [.slice ra1 cs.length rc1]),.agg (dm (p.aC.getD (k).toNat bq))] hb16 kr (rmdo_any p (p.aC.getD (k).toNat bq) rl ra1 cs.length rc1 cl _ _ _ S25 aS0 oz hp hel2 hv (by first | exact hf | exact hfi _ om) om) ?_
    rintro _ w22 ⟨rfl,S26⟩
    replace S26:Sep w [am aM ra1 rc1 3 1 (exC (p.aC.getD (k).toNat bq) rl cl),box b4 (mxC rl [.slice ra1 cs.length rc1]) 31,box b3 (mxC (List.replicate 16 (0:Int)) [.slice none 0 0]) 31,box b2 (mxC rs [.slice la n c]) 31,box b1 (ba p) 28] w22:=S26
    clear S25
    have S27:Sep w [box b4 (mxC rl [.slice ra1 cs.length rc1]) 31,am aM ra1 rc1 3 1 (exC (p.aC.getD (k).toNat bq) rl cl),box b3 (mxC (List.replicate 16 (0:Int)) [.slice none 0 0]) 31,box b2 (mxC rs [.slice la n c]) 31,box b1 (ba p) 28] w22:=S26.front 1 rfl
    clear S26
    have hxr:(exR p (p.aC.getD (k).toNat bq) rl cl).length=16:=(exR_len _ _ _ _).trans (by first | assumption | omega)
    have hxc:(exC (p.aC.getD (k).toNat bq) rl cl).length=cs.length:=(exC_len _ _ _).trans (by first | assumption | omega)
    exact WB.mk (S27.erase 1)<|WA.take 8 60 (.tuple #[.agg (mxA (exR p (p.aC.getD (k).toNat bq) rl cl) [.slice ra1 cs.length rc1]),iv (exE p (p.aC.getD (k).toNat bq) rl)]) (bA 14 511) kr kr kr (fun _ _=>kr) kr<|WA.take 9 69 (.agg (mxA (exR p (p.aC.getD (k).toNat bq) rl cl) [.slice ra1 cs.length rc1])) (bA 14 1023) kr kr kr (fun _ _=>kr) kr<|WA.take 10 70 (iv (exE p (p.aC.getD (k).toNat bq) rl)) (bA 14 2047) kr kr kr (fun _ _=>kr) kr<|WA.weaken kr (W3 w22 S27)
    refine WO.set (bA 14 2175) kr<|WO.new S24 12 (mxC (List.replicate 16 (0:Int)) [.slice none 0 0]) 31 kr ?_
    intro bd11 w23 S28
    exact WB.mk ((S28.erase 2).erase 0)<|WA.weaken kr (W4 bd11 w23 S28)
   refine J.drawAny (fun w_=>Sep w [box b4 (mxC rl [.slice ra1 cs.length rc1]) 31,box b3 (mxC (List.replicate 16 (0:Int)) [.slice none 0 0]) 31,box b2 (mxC rs [.slice la n c]) 31,box b1 (ba p) 28] w_) S11 14 (bA 14 0) Tryz.mixed kr kr kr ?_
   intro w24 S29
   exact WB.mk (S29.erase 1)<|WA.takeOK 0 (bA 14 1) kr kr kr kr (fun w_ S_=>OK.ldBox S_ 3 61 28 0 (.agg (eb p)) kr rfl kr) rfl<|WA.takeOK 1 (bA 14 3) kr kr kr kr (fun w_ S_=>OK.ldM S_ 0 rfl 62 31 16 aS0) rfl<|WA.take 2 63 (pv b1) (bA 14 7) kr kr kr (fun _ _=>kr) kr<|WA.takeOK 3 (bA 14 15) kr kr kr kr (fun w_ S_=>OK.ldBox S_ 3 64 22 0 (.slice p.cJ p.bu p.dn) kr rfl kr) rfl<|WA.take 4 65 (iv k) (bA 14 31) kr kr kr (fun _ _=>kr) kr<|WA.takeOK 5 (bA 14 63) kr kr kr kr (fun w_ S_=>OK.index 66 22 5 p.cJ p4 p.bu (k).toNat k (p4.add ((k).toNat*5)) kr kr hp4 om om rfl) rfl<|WA.takeOK 6 (bA 14 127) kr kr kr kr (fun w_ S_=>OK.ldCells 67 48 (p4.add ((k).toNat*5)) (aR (p.aC.getD (k).toNat bq)) kr kr kr (fun j_ v_ hj_=>S_.cell (hc3 j_ v_ hj_))) rfl<|WA.weaken (env':=[(3,pv b1),(6,pv b3),(9,pv b4),(11,iv k),(61,.agg (eb p)),(62,.agg (mxA rl [.slice ra1 cs.length rc1])),(67,.agg (dm (p.aC.getD (k).toNat bq)))]) kr<|W5 w24 S29
   have S30:Sep w [am aM none 0 3 1 ([]),box b4 (mxC rl [.slice ra1 cs.length rc1]) 31,am aM ra1 rc1 3 1 cl,box b3 (mxC (List.replicate 16 (0:Int)) [.slice none 0 0]) 31,box b2 (mxC rs [.slice la n c]) 31,box b1 (ba p) 28] w11:=S11.nilRow 3 1
   have L12_3:∀ (mm_:Nat) (ol:List Int) (oa:Option Addr) (oc:Nat) (k2:Int) (w25:World),(0≤k2)→(k2≤(p.aI:Int))→(ol=outC p cl (k2).toNat)→Sep w [am aM oa oc 3 1 ol,box b4 (mxC rl [.slice ra1 cs.length rc1]) 31,am aM ra1 rc1 3 1 cl,box b3 (mxC (List.replicate 16 (0:Int)) [.slice none 0 0]) 31,box b2 (mxC rs [.slice la n c]) 31,box b1 (ba p) 28] w25→((p.aI:Int)-k2).toNat=mm_→J prog 12 97 R K12_3 [(15,iv k2),(14,.slice oa ol.length oc),(9,pv b4),(6,pv b3),(3,pv b1)] w25:=by
    intro mm3
    induction mm3 using Nat.strongRecOn with
    | _ mm3 ih3 =>
    intro ol oa oc k2 w25 j0 j1 hol S31 hm3
    have hon:ol.length=k2.toNat:=by rw[hol];exact outC_len om
    have hok:k2<(p.aI:Int)→_:=fun h_=>hou k2.toNat om
    refine J.lb 5 [] [(76,iv k2)] [] S31 5 rfl 78 (.slice p.bB p.aI p.bC)<|J.c 3 [] [] [] 80 (k2<(p.aI:Int)) (fun fk6=>?_) fun fk6=>?_
    refine J.r 4 [true] [] [] ?_
    obtain ⟨p5,hp5,hc4⟩:=q21.at 0 (k2).toNat om
    have hel3:=aX q22 0 (n:=(k2).toNat) (by have:=q21.len_eq;omega)
    obtain ⟨p6,hp6⟩:=ck (S31.nth 2 rfl) (show 0<(cl).length by first | omega | (simp;omega))
    refine J.drawPlan (fun w_=>Sep w [box b4 (mxC rl [.slice ra1 cs.length rc1]) 31,am aM ra1 rc1 3 1 cl,box b3 (mxC (List.replicate 16 (0:Int)) [.slice none 0 0]) 31,box b2 (mxC rs [.slice la n c]) 31,box b1 (ba p) 28] w_) [(0,true),(1,true),(2,true),(3,true),(4,true),(5,true),(6,true),(7,true),(8,true),(9,true),(10,false),(11,false),(12,true)] S31 Tryz.mixed kr (aF (T:=[(0,some 83,16384),(0,some 84,512),(2,some 85,19342813113834066795298816),(0,some 86,8),(8,some 87,77371252455336267181195264),(0,some 88,32768),(48,some 89,464227514732017603087171584),(64,some 90,618970019642690137449562112),(132,some 91,1276625665513048408489721856),(256,some 92,2475880078570760549798248448),(512,some 93,4951760157141521099596496896),(1025,some 94,9913191720839959232590643200),(4095,some 14,19807040628566084398385987584)]) kr kr) ?_
    intro w26 S32
    refine PB.mk (S32.erase 0)<|PL.take 0 83 (.slice oa ol.length oc) (fun _ _=>kr)<|PL.take 1 84 (.pointer (some ⟨b4,16,none⟩)) (fun _ _=>kr)<|PL.takeOK 2 (fun w_ S_=>OK.ldMt S_ 0 rfl 85 26 16 aS0) rfl<|PL.take 3 86 (.pointer (some ⟨b1,7,none⟩)) (fun _ _=>kr)<|PL.takeOK 4 (fun w_ S_=>OK.ldBox S_ 4 87 26 7 (.slice p.bB p.aI p.bC) kr rfl kr) rfl<|PL.take 5 88 (iv k2) (fun _ _=>kr)<|PL.takeOK 6 (fun w_ S_=>OK.index 89 26 1 p.bB p5 p.aI (k2).toNat k2 (p5.add (k2).toNat) kr kr hp5 om om nO) rfl<|PL.takeOK 7 (fun w_ S_=>OK.ldCell 90 3 (p5.add (k2).toNat) (iv (p.aN.getD (k2).toNat 0)) kr kr (S_.cell hc4)) rfl<|PL.takeOK 8 (fun w_ S_=>OK.index 91 26 1 ra1 p6 cs.length (p.aN.getD (k2).toNat 0).toNat (p.aN.getD (k2).toNat 0) (p6.add (p.aN.getD (k2).toNat 0).toNat) kr kr hp6 om oz nO) rfl<|PL.takeOK 9 (fun w_ S_=>OK.ldCell 92 3 (p6.add (p.aN.getD (k2).toNat 0).toNat) (iv (cl.getD (p.aN.getD (k2).toNat 0).toNat 0)) kr kr (cQ (g:=(Value.int .i64)) S_ 1 rfl hp6 0 (p.aN.getD (k2).toNat 0).toNat oz)) rfl ?_
    refine PL.newSlice S32 93 1 [iv (cl.getD (p.aN.getD (k2).toNat 0).toNat 0)] 3 kr ?_
    intro b5 w27 S33
    refine PB.mk ((S33.erase 1).erase 0)<|PL.append aM S33 1 ol (cl.getD (p.aN.getD (k2).toNat 0).toNat 0) 94 26 (iv 0) 8 ⟨b5,0,none⟩ 1 rfl kr kr kr kr dE (bS (S33.nth 0 rfl)) kr kr (⟨om,om⟩) ?_
    intro ra2 rc2 w28 S34
    replace S34:Sep w [box b5 [iv (cl.getD (p.aN.getD (k2).toNat 0).toNat 0)] 3,am aM ra2 rc2 3 1 (ol++[cl.getD (p.aN.getD (k2).toNat 0).toNat 0]),box b4 (mxC rl [.slice ra1 cs.length rc1]) 31,am aM ra1 rc1 3 1 cl,box b3 (mxC (List.replicate 16 (0:Int)) [.slice none 0 0]) 31,box b2 (mxC rs [.slice la n c]) 31,box b1 (ba p) 28] w28:=S34
    have S35:Sep w [am aM ra2 rc2 3 1 (ol++[cl.getD (p.aN.getD (k2).toNat 0).toNat 0]),box b4 (mxC rl [.slice ra1 cs.length rc1]) 31,am aM ra1 rc1 3 1 cl,box b3 (mxC (List.replicate 16 (0:Int)) [.slice none 0 0]) 31,box b2 (mxC rs [.slice la n c]) 31,box b1 (ba p) 28] w28:=S34.erase 0
    clear S34
    exact PB.mk (S35.erase 0)<|PL.take 12 14 (.slice ra2 ((ol++[cl.getD (p.aN.getD (k2).toNat 0).toNat 0]).length) rc2) (fun _ _=>kr)<|PL.done<|J.wi 4 [] [] [] 82 (k2+1)<|J.t 3 (ih3 _ (show((p.aI:Int)-(k2+1)).toNat<mm3 from by omega) (ol++[cl.getD (p.aN.getD (k2).toNat 0).toNat 0]) ra2 rc2 (k2+1) w28 om om (by rw[show(k2+1).toNat=k2.toNat+1 by omega,outC_succ om,← hol]) S35 rfl)
    refine J.r 4 [false] [] []<|J.ok (OK.ldM S31 1 rfl 95 31 16 aS0)<|J.r 1 [] [(96,.slice oa ol.length oc)] []<|J.stM S31 3 rfl 16 rl [.slice ra1 cs.length rc1] rfl rfl aS0 fun w29 S36=>J.r 3 [] [(8,iv 0),(7,.slice oa ol.length oc)] []<|J.ret Tryz.f12 [.agg (mxA rl [.slice ra1 cs.length rc1]),.slice oa ol.length oc,iv 0] func12 ⟨⟨⟨b3,0,none⟩,kr,aT (S36.nth 3 rfl) (fc (n:=16) kr kr aS0)⟩,kr,kr,trivial⟩<|hR _ _ ?_
    have e4:rgE p n cs xs=0:=(rg_in hv om om).trans (by rw[show p.bu=k.toNat by omega];exact he)
    obtain ⟨e1,e2,e3⟩:=run_ok e4
    have e5:rgS p cs xs=(rl,cl):=by unfold rgS;rw[show p.bu=k.toNat by omega,hrl,hcl2]
    have e6:outC p cl p.aI=ol:=by rw[hol,show p.aI=k2.toNat by omega]
    rw[e5] at e1 e2 e3
    rw[e6] at e3
    exact⟨_,_,_,_,by rw[e1,e2,e3,e4,hcn,← hcl];rfl,by rw[e2,e3];exact S36.two 0 2 rfl rfl dE⟩
   exact J.t 13 (L12_3 _ ([]) none 0 0 w11 om om (rfl) S30 rfl)
  exact J.t 9 (L12_2 _ (List.replicate 16 (0:Int)) cl 0 w8 om om (rfl) (hcl2.trans (by rw[show k.toNat=p.aE by omega];rfl)) (rfl) S8 rfl)
 exact J.t 8 (L12_1 _ cs 0 w7 om om (rfl) S7 rfl)
 refine J.r 4 [true] [(30,.agg #[iv 0,iv 0,iv 0,iv 0,iv 0,iv 0,iv 0,iv 0,iv 0,iv 0,iv 0,iv 0,iv 0,iv 0,iv 0,iv 0,.slice none 0 0])] []<|J.stM S3 0 rfl 16 (List.replicate 16 (0:Int)) [.slice none 0 0] rfl rfl rfl fun w30 S37=>J.r 3 [] [(8,iv 1),(7,.slice none 0 0)] []<|J.ret Tryz.f12 [.agg (mxA (List.replicate 16 (0:Int)) [.slice none 0 0]),.slice none 0 0,iv 1] func12 ⟨⟨⟨b3,0,none⟩,kr,aT (S37.nth 0 rfl) (fc (n:=16) kr kr rfl)⟩,kr,kr,trivial⟩<|hR _ _ ?_
 have e0:rgE p n cs xs=1:=rg_bad om
 obtain ⟨e1,e2,e3⟩:=run_bad e0 om
 exact⟨none,0,none,0,by rw[e0,e1,e2,e3];rfl,by rw[e2,e3];exact(S37.nil.nilRow 3 1).nilRow 3 1⟩
 refine J.r 12 [true] [(30,.agg #[iv 0,iv 0,iv 0,iv 0,iv 0,iv 0,iv 0,iv 0,iv 0,iv 0,iv 0,iv 0,iv 0,iv 0,iv 0,iv 0,.slice none 0 0])] []<|J.stM S3 0 rfl 16 (List.replicate 16 (0:Int)) [.slice none 0 0] rfl rfl rfl fun w31 S38=>J.r 3 [] [(8,iv 1),(7,.slice none 0 0)] []<|J.ret Tryz.f12 [.agg (mxA (List.replicate 16 (0:Int)) [.slice none 0 0]),.slice none 0 0,iv 1] func12 ⟨⟨⟨b3,0,none⟩,kr,aT (S38.nth 0 rfl) (fc (n:=16) kr kr rfl)⟩,kr,kr,trivial⟩<|hR _ _ ?_
 have e0:rgE p n cs xs=1:=rg_bad om
 obtain ⟨e1,e2,e3⟩:=run_bad e0 om
 exact⟨none,0,none,0,by rw[e0,e1,e2,e3];rfl,by rw[e2,e3];exact(S38.nil.nilRow 3 1).nilRow 3 1⟩

end
end Go.Proofs.YtaoolgcddapegaaGreatDoor

namespace Go.Proofs.YtaoolgcddapegaaGreatDoor
noncomputable section
open Go.Eng Go.RowKit Go.Proofs.Tryz
set_option maxRecDepth 20000
set_option maxHeartbeats 20000000
theorem hb18:af prog 18:=fun _ _=>by kernel_rfl

theorem encode_any (i:Ins) (w:World) (hi:insQ w i):Ret prog 18 #[.agg (dm i)] w (fun v w'=>∃ a cap,v=.tuple #[.slice a (encX i).length cap,iv (encE i)]∧Sep w [am (di (Value.int .u8)) a cap 5 1 (encX i)] w'):=by
 refine Ret.st (N:=36) func18 fun R hR S0=>?_
 obtain ⟨q1,q2,q3,q4,q5,_⟩:=id hi
 have hu:0≤aO i.gK∧aO i.gK<18446744073709551616:=by unfold aO;omega
 refine J.nw 2 [] [] [] S0 1 (aR i) 48 fun b1 w1 S1=>J.lb 6 [] [] [] S1 0 rfl 6 (.agg (dm i))<|J.c0 0 [] [] [] S1 7 hb49 (formed_any i _ (df hi S1)) fun w2 S2=>J.bn 2 [] [] [] 8 (dh i) (fun fk1=>?_) fun fk1=>?_
 refine J.lb 5 [false] [] [] S2 0 rfl 10 (iv i.gOp)<|J.h 1 [] [] [] 11 (.int .u8 (IntKind.wrap .u8 i.gOp)) (.int .u8 (i.gOp%256)) (congrArg (Value.int .u8) (wrapB _))<|J.lb 1 [] [] [] S2 0 rfl 13 (iv i.gA)<|J.h 1 [] [] [] 14 (.int .u8 (IntKind.wrap .u8 i.gA)) (.int .u8 (i.gA%256)) (congrArg (Value.int .u8) (wrapB _))<|J.lb 1 [] [] [] S2 0 rfl 16 (iv i.gB)<|J.h 1 [] [] [] 17 (.int .u8 (IntKind.wrap .u8 i.gB)) (.int .u8 (i.gB%256)) (congrArg (Value.int .u8) (wrapB _))<|J.lb 1 [] [] [] S2 0 rfl 19 (iv i.gC)<|J.h 1 [] [] [] 20 (.int .u8 (IntKind.wrap .u8 i.gC)) (.int .u8 (i.gC%256)) (congrArg (Value.int .u8) (wrapB _))<|J.newSlice S2 21 4 [.int .u8 (i.gOp%256),.int .u8 (i.gA%256),.int .u8 (i.gB%256),.int .u8 (i.gC%256)] 5 kr ?_
 intro b2 w3 S3
 refine J.lb 22 [true] [(26,.slice (some ⟨b2,0,none⟩) 4 4),(5,iv 56)] [] S3 1 rfl 28 (iv i.gK)<|J.h 1 [] [] [] 29 (.int .u64 (IntKind.wrap .u64 i.gK)) (.int .u64 (aO i.gK)) (congrArg (Value.int .u64) (wrapU _))<|J.h 2 [] [] [] 31 (.int .u64 (Int.fdiv (aO i.gK) (2^56))) (.int .u64 ((aO i.gK)/72057594037927936)) (congrArg (Value.int .u64) (cA _ _ dE))<|J.h 1 [] [] [] 32 (.int .u8 (IntKind.wrap .u8 ((aO i.gK)/72057594037927936))) (.int .u8 (((aO i.gK)/72057594037927936)%256)) (congrArg (Value.int .u8) (wrapB _))<|J.newSlice S3 33 1 [.int .u8 (((aO i.gK)/72057594037927936)%256)] 5 kr ?_
 intro b3 w4 S4
 have S5:Sep w [box b3 [.int .u8 (((aO i.gK)/72057594037927936)%256)] 5,am (di (Value.int .u8)) (some ⟨b2,0,none⟩) 4 5 1 ([i.gOp%256,i.gA%256,i.gB%256,i.gC%256]),box b1 (aR i) 48] w4:=box_row (di (Value.int .u8)) S4 1 [i.gOp%256,i.gA%256,i.gB%256,i.gC%256] 1 rfl rfl rfl (by simp[maxLen]) (.inr trivial)
 refine J.append (di (Value.int .u8)) S5 1 ([i.gOp%256,i.gA%256,i.gB%256,i.gC%256]) (((aO i.gK)/72057594037927936)%256) 34 52 (.int .u8 0) 1 ⟨b3,0,none⟩ 1 rfl kr kr kr kr dE (bS (S5.nth 0 rfl)) kr kr (⟨by (try simp only[List.length_append,List.length_cons,List.length_nil]);omega,by (try simp only[List.length_append,List.length_cons,List.length_nil]);omega⟩) ?_
 intro ra1 rc1 w5 S6
 replace S6:Sep w [box b3 [.int .u8 (((aO i.gK)/72057594037927936)%256)] 5,am (di (Value.int .u8)) ra1 rc1 5 1 (([i.gOp%256,i.gA%256,i.gB%256,i.gC%256])++[((aO i.gK)/72057594037927936)%256]),box b1 (aR i) 48] w5:=S6
 refine J.lb 22 [true] [(26,.slice ra1 ((([i.gOp%256,i.gA%256,i.gB%256,i.gC%256])++[((aO i.gK)/72057594037927936)%256]).length) rc1),(5,iv 48)] [] (S6.erase 0) 1 rfl 28 (iv i.gK)<|J.h 1 [] [] [29] 29 (.int .u64 (IntKind.wrap .u64 i.gK)) (.int .u64 (aO i.gK)) (congrArg (Value.int .u64) (wrapU _))<|J.h 2 [] [] [31] 31 (.int .u64 (Int.fdiv (aO i.gK) (2^48))) (.int .u64 ((aO i.gK)/281474976710656)) (congrArg (Value.int .u64) (cA _ _ dE))<|J.h 1 [] [] [32] 32 (.int .u8 (IntKind.wrap .u8 ((aO i.gK)/281474976710656))) (.int .u8 (((aO i.gK)/281474976710656)%256)) (congrArg (Value.int .u8) (wrapB _))<|J.newSlice (S6.erase 0) 33 1 [.int .u8 (((aO i.gK)/281474976710656)%256)] 5 kr ?_
 intro b4 w6 S7
 refine J.append (di (Value.int .u8)) S7 1 (([i.gOp%256,i.gA%256,i.gB%256,i.gC%256])++[((aO i.gK)/72057594037927936)%256]) (((aO i.gK)/281474976710656)%256) 34 52 (.int .u8 0) 1 ⟨b4,0,none⟩ 1 rfl kr kr kr kr dE (bS (S7.nth 0 rfl)) kr kr (⟨by (try simp only[List.length_append,List.length_cons,List.length_nil]);omega,by (try simp only[List.length_append,List.length_cons,List.length_nil]);omega⟩) ?_
 intro ra2 rc2 w7 S8
 replace S8:Sep w [box b4 [.int .u8 (((aO i.gK)/281474976710656)%256)] 5,am (di (Value.int .u8)) ra2 rc2 5 1 ((([i.gOp%256,i.gA%256,i.gB%256,i.gC%256])++[((aO i.gK)/72057594037927936)%256])++[((aO i.gK)/281474976710656)%256]),box b1 (aR i) 48] w7:=S8
 refine J.lb 22 [true] [(26,.slice ra2 (((([i.gOp%256,i.gA%256,i.gB%256,i.gC%256])++[((aO i.gK)/72057594037927936)%256])++[((aO i.gK)/281474976710656)%256]).length) rc2),(5,iv 40)] [] (S8.erase 0) 1 rfl 28 (iv i.gK)<|J.h 1 [] [] [29] 29 (.int .u64 (IntKind.wrap .u64 i.gK)) (.int .u64 (aO i.gK)) (congrArg (Value.int .u64) (wrapU _))<|J.h 2 [] [] [31] 31 (.int .u64 (Int.fdiv (aO i.gK) (2^40))) (.int .u64 ((aO i.gK)/1099511627776)) (congrArg (Value.int .u64) (cA _ _ dE))<|J.h 1 [] [] [32] 32 (.int .u8 (IntKind.wrap .u8 ((aO i.gK)/1099511627776))) (.int .u8 (((aO i.gK)/1099511627776)%256)) (congrArg (Value.int .u8) (wrapB _))<|J.newSlice (S8.erase 0) 33 1 [.int .u8 (((aO i.gK)/1099511627776)%256)] 5 kr ?_
 intro b5 w8 S9
 refine J.append (di (Value.int .u8)) S9 1 ((([i.gOp%256,i.gA%256,i.gB%256,i.gC%256])++[((aO i.gK)/72057594037927936)%256])++[((aO i.gK)/281474976710656)%256]) (((aO i.gK)/1099511627776)%256) 34 52 (.int .u8 0) 1 ⟨b5,0,none⟩ 1 rfl kr kr kr kr dE (bS (S9.nth 0 rfl)) kr kr (⟨by (try simp only[List.length_append,List.length_cons,List.length_nil]);omega,by (try simp only[List.length_append,List.length_cons,List.length_nil]);omega⟩) ?_
 intro ra3 rc3 w9 S10
 replace S10:Sep w [box b5 [.int .u8 (((aO i.gK)/1099511627776)%256)] 5,am (di (Value.int .u8)) ra3 rc3 5 1 (((([i.gOp%256,i.gA%256,i.gB%256,i.gC%256])++[((aO i.gK)/72057594037927936)%256])++[((aO i.gK)/281474976710656)%256])++[((aO i.gK)/1099511627776)%256]),box b1 (aR i) 48] w9:=S10
 refine J.lb 22 [true] [(26,.slice ra3 ((((([i.gOp%256,i.gA%256,i.gB%256,i.gC%256])++[((aO i.gK)/72057594037927936)%256])++[((aO i.gK)/281474976710656)%256])++[((aO i.gK)/1099511627776)%256]).length) rc3),(5,iv 32)] [] (S10.erase 0) 1 rfl 28 (iv i.gK)<|J.h 1 [] [] [29] 29 (.int .u64 (IntKind.wrap .u64 i.gK)) (.int .u64 (aO i.gK)) (congrArg (Value.int .u64) (wrapU _))<|J.h 2 [] [] [31] 31 (.int .u64 (Int.fdiv (aO i.gK) (2^32))) (.int .u64 ((aO i.gK)/4294967296)) (congrArg (Value.int .u64) (cA _ _ dE))<|J.h 1 [] [] [32] 32 (.int .u8 (IntKind.wrap .u8 ((aO i.gK)/4294967296))) (.int .u8 (((aO i.gK)/4294967296)%256)) (congrArg (Value.int .u8) (wrapB _))<|J.newSlice (S10.erase 0) 33 1 [.int .u8 (((aO i.gK)/4294967296)%256)] 5 kr ?_
 intro b6 w10 S11
 refine J.append (di (Value.int .u8)) S11 1 (((([i.gOp%256,i.gA%256,i.gB%256,i.gC%256])++[((aO i.gK)/72057594037927936)%256])++[((aO i.gK)/281474976710656)%256])++[((aO i.gK)/1099511627776)%256]) (((aO i.gK)/4294967296)%256) 34 52 (.int .u8 0) 1 ⟨b6,0,none⟩ 1 rfl kr kr kr kr dE (bS (S11.nth 0 rfl)) kr kr (⟨by (try simp only[List.length_append,List.length_cons,List.length_nil]);omega,by (try simp only[List.length_append,List.length_cons,List.length_nil]);omega⟩) ?_
 intro ra4 rc4 w11 S12
 replace S12:Sep w [box b6 [.int .u8 (((aO i.gK)/4294967296)%256)] 5,am (di (Value.int .u8)) ra4 rc4 5 1 ((((([i.gOp%256,i.gA%256,i.gB%256,i.gC%256])++[((aO i.gK)/72057594037927936)%256])++[((aO i.gK)/281474976710656)%256])++[((aO i.gK)/1099511627776)%256])++[((aO i.gK)/4294967296)%256]),box b1 (aR i) 48] w11:=S12
 refine J.lb 22 [true] [(26,.slice ra4 (((((([i.gOp%256,i.gA%256,i.gB%256,i.gC%256])++[((aO i.gK)/72057594037927936)%256])++[((aO i.gK)/281474976710656)%256])++[((aO i.gK)/1099511627776)%256])++[((aO i.gK)/4294967296)%256]).length) rc4),(5,iv 24)] [] (S12.erase 0) 1 rfl 28 (iv i.gK)<|J.h 1 [] [] [29] 29 (.int .u64 (IntKind.wrap .u64 i.gK)) (.int .u64 (aO i.gK)) (congrArg (Value.int .u64) (wrapU _))<|J.h 2 [] [] [31] 31 (.int .u64 (Int.fdiv (aO i.gK) (2^24))) (.int .u64 ((aO i.gK)/16777216)) (congrArg (Value.int .u64) (cA _ _ dE))<|J.h 1 [] [] [32] 32 (.int .u8 (IntKind.wrap .u8 ((aO i.gK)/16777216))) (.int .u8 (((aO i.gK)/16777216)%256)) (congrArg (Value.int .u8) (wrapB _))<|J.newSlice (S12.erase 0) 33 1 [.int .u8 (((aO i.gK)/16777216)%256)] 5 kr ?_
 intro b7 w12 S13
 refine J.append (di (Value.int .u8)) S13 1 ((((([i.gOp%256,i.gA%256,i.gB%256,i.gC%256])++[((aO i.gK)/72057594037927936)%256])++[((aO i.gK)/281474976710656)%256])++[((aO i.gK)/1099511627776)%256])++[((aO i.gK)/4294967296)%256]) (((aO i.gK)/16777216)%256) 34 52 (.int .u8 0) 1 ⟨b7,0,none⟩ 1 rfl kr kr kr kr dE (bS (S13.nth 0 rfl)) kr kr (⟨by (try simp only[List.length_append,List.length_cons,List.length_nil]);omega,by (try simp only[List.length_append,List.length_cons,List.length_nil]);omega⟩) ?_
 intro ra5 rc5 w13 S14
 replace S14:Sep w [box b7 [.int .u8 (((aO i.gK)/16777216)%256)] 5,am (di (Value.int .u8)) ra5 rc5 5 1 (((((([i.gOp%256,i.gA%256,i.gB%256,i.gC%256])++[((aO i.gK)/72057594037927936)%256])++[((aO i.gK)/281474976710656)%256])++[((aO i.gK)/1099511627776)%256])++[((aO i.gK)/4294967296)%256])++[((aO i.gK)/16777216)%256]),box b1 (aR i) 48] w13:=S14
 refine J.lb 22 [true] [(26,.slice ra5 ((((((([i.gOp%256,i.gA%256,i.gB%256,i.gC%256])++[((aO i.gK)/72057594037927936)%256])++[((aO i.gK)/281474976710656)%256])++[((aO i.gK)/1099511627776)%256])++[((aO i.gK)/4294967296)%256])++[((aO i.gK)/16777216)%256]).length) rc5),(5,iv 16)] [] (S14.erase 0) 1 rfl 28 (iv i.gK)<|J.h 1 [] [] [29] 29 (.int .u64 (IntKind.wrap .u64 i.gK)) (.int .u64 (aO i.gK)) (congrArg (Value.int .u64) (wrapU _))<|J.h 2 [] [] [31] 31 (.int .u64 (Int.fdiv (aO i.gK) (2^16))) (.int .u64 ((aO i.gK)/65536)) (congrArg (Value.int .u64) (cA _ _ dE))<|J.h 1 [] [] [32] 32 (.int .u8 (IntKind.wrap .u8 ((aO i.gK)/65536))) (.int .u8 (((aO i.gK)/65536)%256)) (congrArg (Value.int .u8) (wrapB _))<|J.newSlice (S14.erase 0) 33 1 [.int .u8 (((aO i.gK)/65536)%256)] 5 kr ?_
 intro b8 w14 S15
 refine J.append (di (Value.int .u8)) S15 1 (((((([i.gOp%256,i.gA%256,i.gB%256,i.gC%256])++[((aO i.gK)/72057594037927936)%256])++[((aO i.gK)/281474976710656)%256])++[((aO i.gK)/1099511627776)%256])++[((aO i.gK)/4294967296)%256])++[((aO i.gK)/16777216)%256]) (((aO i.gK)/65536)%256) 34 52 (.int .u8 0) 1 ⟨b8,0,none⟩ 1 rfl kr kr kr kr dE (bS (S15.nth 0 rfl)) kr kr (⟨by (try simp only[List.length_append,List.length_cons,List.length_nil]);omega,by (try simp only[List.length_append,List.length_cons,List.length_nil]);omega⟩) ?_
 intro ra6 rc6 w15 S16
 replace S16:Sep w [box b8 [.int .u8 (((aO i.gK)/65536)%256)] 5,am (di (Value.int .u8)) ra6 rc6 5 1 ((((((([i.gOp%256,i.gA%256,i.gB%256,i.gC%256])++[((aO i.gK)/72057594037927936)%256])++[((aO i.gK)/281474976710656)%256])++[((aO i.gK)/1099511627776)%256])++[((aO i.gK)/4294967296)%256])++[((aO i.gK)/16777216)%256])++[((aO i.gK)/65536)%256]),box b1 (aR i) 48] w15:=S16
 refine J.lb 22 [true] [(26,.slice ra6 (((((((([i.gOp%256,i.gA%256,i.gB%256,i.gC%256])++[((aO i.gK)/72057594037927936)%256])++[((aO i.gK)/281474976710656)%256])++[((aO i.gK)/1099511627776)%256])++[((aO i.gK)/4294967296)%256])++[((aO i.gK)/16777216)%256])++[((aO i.gK)/65536)%256]).length) rc6),(5,iv 8)] [] (S16.erase 0) 1 rfl 28 (iv i.gK)<|J.h 1 [] [] [29] 29 (.int .u64 (IntKind.wrap .u64 i.gK)) (.int .u64 (aO i.gK)) (congrArg (Value.int .u64) (wrapU _))<|J.h 2 [] [] [31] 31 (.int .u64 (Int.fdiv (aO i.gK) (2^8))) (.int .u64 ((aO i.gK)/256)) (congrArg (Value.int .u64) (cA _ _ dE))<|J.h 1 [] [] [32] 32 (.int .u8 (IntKind.wrap .u8 ((aO i.gK)/256))) (.int .u8 (((aO i.gK)/256)%256)) (congrArg (Value.int .u8) (wrapB _))<|J.newSlice (S16.erase 0) 33 1 [.int .u8 (((aO i.gK)/256)%256)] 5 kr ?_
 intro b9 w16 S17
 refine J.append (di (Value.int .u8)) S17 1 ((((((([i.gOp%256,i.gA%256,i.gB%256,i.gC%256])++[((aO i.gK)/72057594037927936)%256])++[((aO i.gK)/281474976710656)%256])++[((aO i.gK)/1099511627776)%256])++[((aO i.gK)/4294967296)%256])++[((aO i.gK)/16777216)%256])++[((aO i.gK)/65536)%256]) (((aO i.gK)/256)%256) 34 52 (.int .u8 0) 1 ⟨b9,0,none⟩ 1 rfl kr kr kr kr dE (bS (S17.nth 0 rfl)) kr kr (⟨by (try simp only[List.length_append,List.length_cons,List.length_nil]);omega,by (try simp only[List.length_append,List.length_cons,List.length_nil]);omega⟩) ?_
 intro ra7 rc7 w17 S18
 replace S18:Sep w [box b9 [.int .u8 (((aO i.gK)/256)%256)] 5,am (di (Value.int .u8)) ra7 rc7 5 1 (((((((([i.gOp%256,i.gA%256,i.gB%256,i.gC%256])++[((aO i.gK)/72057594037927936)%256])++[((aO i.gK)/281474976710656)%256])++[((aO i.gK)/1099511627776)%256])++[((aO i.gK)/4294967296)%256])++[((aO i.gK)/16777216)%256])++[((aO i.gK)/65536)%256])++[((aO i.gK)/256)%256]),box b1 (aR i) 48] w17:=S18
 refine J.lb 22 [true] [(26,.slice ra7 ((((((((([i.gOp%256,i.gA%256,i.gB%256,i.gC%256])++[((aO i.gK)/72057594037927936)%256])++[((aO i.gK)/281474976710656)%256])++[((aO i.gK)/1099511627776)%256])++[((aO i.gK)/4294967296)%256])++[((aO i.gK)/16777216)%256])++[((aO i.gK)/65536)%256])++[((aO i.gK)/256)%256]).length) rc7),(5,iv 0)] [] (S18.erase 0) 1 rfl 28 (iv i.gK)<|J.h 1 [] [] [29] 29 (.int .u64 (IntKind.wrap .u64 i.gK)) (.int .u64 (aO i.gK)) (congrArg (Value.int .u64) (wrapU _))<|J.h 2 [] [] [31] 31 (.int .u64 (Int.fdiv (aO i.gK) (2^0))) (.int .u64 ((aO i.gK)/1)) (congrArg (Value.int .u64) (cA _ _ dE))<|J.h 1 [] [] [32] 32 (.int .u8 (IntKind.wrap .u8 ((aO i.gK)/1))) (.int .u8 (((aO i.gK)/1)%256)) (congrArg (Value.int .u8) (wrapB _))<|J.newSlice (S18.erase 0) 33 1 [.int .u8 (((aO i.gK)/1)%256)] 5 kr ?_
 intro b10 w18 S19
 refine J.append (di (Value.int .u8)) S19 1 (((((((([i.gOp%256,i.gA%256,i.gB%256,i.gC%256])++[((aO i.gK)/72057594037927936)%256])++[((aO i.gK)/281474976710656)%256])++[((aO i.gK)/1099511627776)%256])++[((aO i.gK)/4294967296)%256])++[((aO i.gK)/16777216)%256])++[((aO i.gK)/65536)%256])++[((aO i.gK)/256)%256]) (((aO i.gK)/1)%256) 34 52 (.int .u8 0) 1 ⟨b10,0,none⟩ 1 rfl kr kr kr kr dE (bS (S19.nth 0 rfl)) kr kr (⟨by (try simp only[List.length_append,List.length_cons,List.length_nil]);omega,by (try simp only[List.length_append,List.length_cons,List.length_nil]);omega⟩) ?_
 intro ra8 rc8 w19 S20
 replace S20:Sep w [box b10 [.int .u8 (((aO i.gK)/1)%256)] 5,am (di (Value.int .u8)) ra8 rc8 5 1 ((((((((([i.gOp%256,i.gA%256,i.gB%256,i.gC%256])++[((aO i.gK)/72057594037927936)%256])++[((aO i.gK)/281474976710656)%256])++[((aO i.gK)/1099511627776)%256])++[((aO i.gK)/4294967296)%256])++[((aO i.gK)/16777216)%256])++[((aO i.gK)/65536)%256])++[((aO i.gK)/256)%256])++[((aO i.gK)/1)%256]),box b1 (aR i) 48] w19:=S20
 refine J.e 23 [.slice ra8 (((((((((([i.gOp%256,i.gA%256,i.gB%256,i.gC%256])++[((aO i.gK)/72057594037927936)%256])++[((aO i.gK)/281474976710656)%256])++[((aO i.gK)/1099511627776)%256])++[((aO i.gK)/4294967296)%256])++[((aO i.gK)/16777216)%256])++[((aO i.gK)/65536)%256])++[((aO i.gK)/256)%256])++[((aO i.gK)/1)%256]).length) rc8,iv 0] func18 (hR _ _ ?_)
 obtain ⟨e1,e2⟩:=encX_yes (i:=i) fk1
 exact⟨_,_,by rw[e1,e2];rfl,by rw[e1];exact(S20.erase 0).pick 0 rfl⟩
 refine J.e 6 [.slice none 0 0,iv 1] func18 (hR _ _ ?_)
 obtain ⟨e1,e2⟩:=encX_no (i:=i) fk1
 exact⟨none,0,by rw[e1,e2];rfl,by rw[e1];exact S2.nil.nilRow 5 1⟩
abbrev kvW25_1:List Value:=[.string ByteArray.empty,.string ByteArray.empty,iv 0]
theorem hb21:af prog 21:=fun _ _=>by kernel_rfl
def K21_0:=adv 15 [false] (bo Tryz.f21)
def K21_1:=adv 17 [] (cL (adv 15 [false] (bo Tryz.f21)))
theorem mtext_any (i:Ins) (w:World) (hi:insQ w i) (hW:TabW w):Ret prog 21 #[.agg (dm i)] w (fun v w'=>v=.string (textI i)∧Sep w [] w'):=by
 refine Ret.st (N:=39) func21 fun R hR S0=>?_
 obtain ⟨q1,q2,q3,q4,q5,_⟩:=id hi
 have hrl_:=rows_len
 refine J.nw 2 [] [] [] S0 1 (aR i) 48 fun b1 w1 S1=>J.lb 5 [] [] [] S1 0 rfl 7 (.agg (dm i))<|J.c0 0 [] [] [] S1 8 hb49 (formed_any i _ (df hi S1)) fun w2 S2=>J.bn 2 [] [] [] 9 (dh i) (fun fk1=>?_) fun fk1=>?_
 have hfp:=dO.1 fk1
 have hrs:=rows_size (op:=i.gOp) om
 refine J.r 3 [false] [] [] ?_
 have W1:∀ (bd5:Nat) (bd0:Nat) (w3:World),Sep w [box bd0 (aw.flatMap de) 109,box bd5 (rwoC (aw.getD ((i.gOp).toNat) aZ)) 109,box b1 (aR i) 48] w3→WA prog 21 39 R K21_0 (fun w_=>Sep w [box b1 (aR i) 48] w_) 0 #[true,true,true,true,true,true,true] [(1,pv b1),(3,pv bd5)] w3:=by
  intro bd5 bd0 w3 S3
  refine WA.done kr<|J.lb 3 [] [] [] S3 1 rfl 16 (.string ((aw.getD ((i.gOp).toNat) aZ).gname))<|J.lb 6 [] [(4,.string ((aw.getD ((i.gOp).toNat) aZ).gname))] [] S3 1 rfl 18 (.string ((aw.getD ((i.gOp).toNat) aZ).gfields))<|J.strBytes S3 19 9 52 5 ((aw.getD ((i.gOp).toNat) aZ).gfields) kr kr ?_
  intro b2 cq1 w4 S4
  have L21_1:∀ (mm_:Nat) (t:ByteArray) (k:Int) (w5:World),(0≤k)→(k≤((aw.getD i.gOp.toNat aZ).gfields.size:Int))→(((t).size:Int)≤7+22*k)→(ls t=ls (aw.getD i.gOp.toNat aZ).gname++((ls (aw.getD i.gOp.toNat aZ).gfields).take (k).toNat).flatMap (partL i))→Sep w [rows8 b2 ((aw.getD ((i.gOp).toNat) aZ).gfields),box bd0 (aw.flatMap de) 109,box bd5 (rwoC (aw.getD ((i.gOp).toNat) aZ)) 109,box b1 (aR i) 48] w5→(((aw.getD i.gOp.toNat aZ).gfields.size:Int)-k).toNat=mm_→J prog 21 39 R K21_1 [(21,iv k),(20,iv (((aw.getD ((i.gOp).toNat) aZ).gfields).size:Int)),(19,.slice (some ⟨b2,0,none⟩) (((aw.getD ((i.gOp).toNat) aZ).gfields).size) cq1),(4,.string t),(1,pv b1)] w5:=by
   intro mm1
   induction mm1 using Nat.strongRecOn with
   | _ mm1 ih1 =>
   intro t k w5 h0 h1 hz ht S5 hm1
   refine J.c 5 [] [] [] 22 (k<(((aw.getD ((i.gOp).toNat) aZ).gfields).size:Int)) (fun fk2=>?_) fun fk2=>?_
   refine J.r 6 [true] [] [] ?_
   obtain ⟨p1,hp1,hc1⟩:=rows8_at (S5.nth 0 rfl) (k).toNat oz
   have:=ee ((aw.getD ((i.gOp).toNat) aZ).gfields) (k).toNat
   refine J.ok (OK.index 23 52 1 (some ⟨b2,0,none⟩) p1 (((aw.getD ((i.gOp).toNat) aZ).gfields).size) (k).toNat k (p1.add (k).toNat) kr kr hp1 om oz nO)<|J.ok (OK.ldCell 24 5 (p1.add (k).toNat) (.int .u8 (bD ((aw.getD ((i.gOp).toNat) aZ).gfields) (k).toNat)) kr kr hc1)<|J.r 5 [] [(25,.string t),(6,.int .u8 (bD ((aw.getD ((i.gOp).toNat) aZ).gfields) (k).toNat))] []<|J.ok (OK.cat 26 t (⟨#[32]⟩:ByteArray) (t++(⟨#[32]⟩:ByteArray)) kr (by first | (simp only[ByteArray.size_append,lit_size,List.size_toArray,List.length_cons,List.length_nil];omega)) (rfl))<|J.cn 8 [] [(4,.string (t++(⟨#[32]⟩:ByteArray)))] [] 28 ((bD ((aw.getD ((i.gOp).toNat) aZ).gfields) (k).toNat)=75) (fun fk3=>?_) fun fk3=>?_
   refine J.lb 4 [false] [(31,.string (t++(⟨#[32]⟩:ByteArray)))] [] S5 3 rfl 32 (.agg (dm i))<|J.r 1 [] [(33,.int .u8 (bD ((aw.getD ((i.gOp).toNat) aZ).gfields) (k).toNat))] []<|J.c0 0 [] [] [] S5 34 hb57 (field_any i (bD ((aw.getD ((i.gOp).toNat) aZ).gfields) (k).toNat) _) fun w6 S6=>?_
   have hfb:=fld_bd (i:=i) ⟨om,om,om,om⟩ (bD ((aw.getD ((i.gOp).toNat) aZ).gfields) (k).toNat)
   refine J.c0 0 [] [] [] S6 35 hb56 (itoa_any (ek i (bD ((aw.getD ((i.gOp).toNat) aZ).gfields) (k).toNat)) _ om (tabW_sep hW S6)) fun w7 S7=>?_
   have:=itoaB_size (n:=(ek i (bD ((aw.getD ((i.gOp).toNat) aZ).gfields) (k).toNat))) om
   exact J.ok (OK.cat 36 (t++(⟨#[32]⟩:ByteArray)) (itoaB (ek i (bD ((aw.getD ((i.gOp).toNat) aZ).gfields) (k).toNat))) ((t++(⟨#[32]⟩:ByteArray))++(itoaB (ek i (bD ((aw.getD ((i.gOp).toNat) aZ).gfields) (k).toNat)))) kr (by first | (simp only[ByteArray.size_append,lit_size,List.size_toArray,List.length_cons,List.length_nil];omega)) (rfl))<|J.wi 5 [] [(4,.string ((t++(⟨#[32]⟩:ByteArray))++(itoaB (ek i (bD ((aw.getD ((i.gOp).toNat) aZ).gfields) (k).toNat)))))] [] 37 (k+1)<|J.t 3 (ih1 _ (show(((aw.getD i.gOp.toNat aZ).gfields.size:Int)-(k+1)).toNat<mm1 from by omega) ((t++(⟨#[32]⟩:ByteArray))++(itoaB (ek i (bD ((aw.getD ((i.gOp).toNat) aZ).gfields) (k).toNat)))) (k+1) w7 om om (by simp only[ByteArray.size_append,lit_size,List.size_toArray,List.length_cons,List.length_nil];omega) (text_step h0 om ht (part_k om)) S7 rfl)
   refine J.r 3 [true] [(29,.string (t++(⟨#[32]⟩:ByteArray)))] []<|J.ok (OK.cat 30 (t++(⟨#[32]⟩:ByteArray)) (⟨#[114]⟩:ByteArray) ((t++(⟨#[32]⟩:ByteArray))++(⟨#[114]⟩:ByteArray)) kr (by first | (simp only[ByteArray.size_append,lit_size,List.size_toArray,List.length_cons,List.length_nil];omega)) (rfl))<|J.lb 4 [] [(31,.string ((t++(⟨#[32]⟩:ByteArray))++(⟨#[114]⟩:ByteArray)))] [4] S5 3 rfl 32 (.agg (dm i))<|J.r 1 [] [(33,.int .u8 (bD ((aw.getD ((i.gOp).toNat) aZ).gfields) (k).toNat))] []<|J.c0 0 [] [] [] S5 34 hb57 (field_any i (bD ((aw.getD ((i.gOp).toNat) aZ).gfields) (k).toNat) _) fun w8 S8=>?_
   have hfb:=fld_bd (i:=i) ⟨om,om,om,om⟩ (bD ((aw.getD ((i.gOp).toNat) aZ).gfields) (k).toNat)
   refine J.c0 0 [] [] [] S8 35 hb56 (itoa_any (ek i (bD ((aw.getD ((i.gOp).toNat) aZ).gfields) (k).toNat)) _ om (tabW_sep hW S8)) fun w9 S9=>?_
   have:=itoaB_size (n:=(ek i (bD ((aw.getD ((i.gOp).toNat) aZ).gfields) (k).toNat))) om
   exact J.ok (OK.cat 36 ((t++(⟨#[32]⟩:ByteArray))++(⟨#[114]⟩:ByteArray)) (itoaB (ek i (bD ((aw.getD ((i.gOp).toNat) aZ).gfields) (k).toNat))) (((t++(⟨#[32]⟩:ByteArray))++(⟨#[114]⟩:ByteArray))++(itoaB (ek i (bD ((aw.getD ((i.gOp).toNat) aZ).gfields) (k).toNat)))) kr (by first | (simp only[ByteArray.size_append,lit_size,List.size_toArray,List.length_cons,List.length_nil];omega)) (rfl))<|J.wi 5 [] [(4,.string (((t++(⟨#[32]⟩:ByteArray))++(⟨#[114]⟩:ByteArray))++(itoaB (ek i (bD ((aw.getD ((i.gOp).toNat) aZ).gfields) (k).toNat)))))] [] 37 (k+1)<|J.t 3 (ih1 _ (show(((aw.getD i.gOp.toNat aZ).gfields.size:Int)-(k+1)).toNat<mm1 from by omega) (((t++(⟨#[32]⟩:ByteArray))++(⟨#[114]⟩:ByteArray))++(itoaB (ek i (bD ((aw.getD ((i.gOp).toNat) aZ).gfields) (k).toNat)))) (k+1) w9 om om (by simp only[ByteArray.size_append,lit_size,List.size_toArray,List.length_cons,List.length_nil];omega) (text_step h0 om ht (part_r om)) S9 rfl)
   refine J.e 7 [.string t] func21 (hR _ _ ?_)
   rw[show k.toNat=(aw.getD i.gOp.toNat aZ).gfields.size by omega] at ht
   exact⟨congrArg Value.string (text_done fk1 ht),S5.nil⟩
  exact J.t 5 (L21_1 _ ((aw.getD ((i.gOp).toNat) aZ).gname) 0 w4 om om om (by simp) S4 rfl)
 have W2:∀ (bd5:Nat) (bd0:Nat) (w10:World),Sep w [box bd0 (aw.flatMap de) 109,box bd5 kvW25_1 109,box b1 (aR i) 48] w10→WA prog 21 39 R K21_0 (fun w_=>Sep w [box b1 (aR i) 48] w_) 1 #[true,true,true,true,true,true,false] [(1,pv b1),(3,pv bd5),(14,.agg (rwoA (aw.getD ((i.gOp).toNat) aZ)))] w10:=by
  intro bd5 bd0 w10 S10
  refine WA.all [6] kr rfl ⟨?_,trivial⟩
  refine WO.set #[true,true,true,true,true,true,true] kr<|WO.stBox S10 1 109 0 (.agg (rwoA (aw.getD ((i.gOp).toNat) aZ))) (rwoC (aw.getD ((i.gOp).toNat) aZ)) [box bd0 (aw.flatMap de) 109,box bd5 (rwoC (aw.getD ((i.gOp).toNat) aZ)) 109,box b1 (aR i) 48] kr rfl kr kr rfl ?_
  intro w11 S11
  exact WB.mk ((S11.erase 1).erase 0)<|WA.weaken (env':=[(1,pv b1),(3,pv bd5)]) kr<|W1 bd5 bd0 w11 S11
 have W3:∀ (bd5:Nat) (bd0:Nat) (w12:World),Sep w [box bd0 (aw.flatMap de) 109,box bd5 kvW25_1 109,box b1 (aR i) 48] w12→WA prog 21 39 R K21_0 (fun w_=>Sep w [box b1 (aR i) 48] w_) 2 #[true,true,true,true,false,true,false] [(1,pv b1),(3,pv bd5),(13,.pointer (some ⟨bd0,((i.gOp).toNat)*3,none⟩))] w12:=by
  intro bd5 bd0 w12 S12
  refine WA.all [4] kr rfl ⟨?_,trivial⟩
  exact WO.set #[true,true,true,true,true,true,false] kr<|WO.ok (OK.ldCells 14 109 ⟨bd0,((i.gOp).toNat)*3,none⟩ (rwoC (aw.getD ((i.gOp).toNat) aZ)) kr kr kr (box_rec_at (s:=3) (S12.nth 0 rfl) (fun _=>rfl) dE aZ ((i.gOp).toNat) oz))<|WB.mk ((S12.erase 1).erase 0)<|WA.weaken (env':=[(1,pv b1),(3,pv bd5),(14,.agg (rwoA (aw.getD ((i.gOp).toNat) aZ)))]) kr<|W2 bd5 bd0 w12 S12
 have W4:∀ (bd0:Nat) (w13:World),Sep w [box bd0 (aw.flatMap de) 109,box b1 (aR i) 48] w13→WA prog 21 39 R K21_0 (fun w_=>Sep w [box b1 (aR i) 48] w_) 2 #[true,true,true,true,true,false,false] [(1,pv b1),(14,.agg (rwoA (aw.getD ((i.gOp).toNat) aZ)))] w13:=by
  intro bd0 w13 S13
  refine WA.all [5] kr rfl ⟨?_,trivial⟩
  refine WO.set #[true,true,true,true,true,true,false] kr<|WO.new S13 3 kvW25_1 109 kr ?_
  intro bd5 w14 S14
  refine WB.mk ((S14.erase 1).erase 0)<|WA.weaken (env':=[(1,pv b1),(3,pv bd5),(14,.agg (rwoA (aw.getD ((i.gOp).toNat) aZ)))]) kr ?_
  have S15:Sep w [box bd5 kvW25_1 109,box bd0 (aw.flatMap de) 109,box b1 (aR i) 48] w14:=S14.front 0 rfl
  have S16:Sep w [box bd0 (aw.flatMap de) 109,box bd5 kvW25_1 109,box b1 (aR i) 48] w14:=S15.front 1 rfl
  exact W2 bd5 bd0 w14 S16
 have W5:∀ (bd0:Nat) (w15:World),Sep w [box bd0 (aw.flatMap de) 109,box b1 (aR i) 48] w15→WA prog 21 39 R K21_0 (fun w_=>Sep w [box b1 (aR i) 48] w_) 3 #[true,true,true,true,false,false,false] [(1,pv b1),(13,.pointer (some ⟨bd0,((i.gOp).toNat)*3,none⟩))] w15:=by
  intro bd0 w15 S17
  refine WA.all [4,5] kr rfl ⟨?_,?_,trivial⟩
  exact WO.set #[true,true,true,true,true,false,false] kr<|WO.ok (OK.ldCells 14 109 ⟨bd0,((i.gOp).toNat)*3,none⟩ (rwoC (aw.getD ((i.gOp).toNat) aZ)) kr kr kr (box_rec_at (s:=3) (S17.nth 0 rfl) (fun _=>rfl) dE aZ ((i.gOp).toNat) oz))<|WB.mk (S17.erase 0)<|WA.weaken (env':=[(1,pv b1),(14,.agg (rwoA (aw.getD ((i.gOp).toNat) aZ)))]) kr<|W4 bd0 w15 S17
  refine WO.set #[true,true,true,true,false,true,false] kr<|WO.new S17 3 kvW25_1 109 kr ?_
  intro bd5 w16 S18
  refine WB.mk ((S18.erase 1).erase 0)<|WA.weaken (env':=[(1,pv b1),(3,pv bd5),(13,.pointer (some ⟨bd0,((i.gOp).toNat)*3,none⟩))]) kr ?_
  have S19:Sep w [box bd5 kvW25_1 109,box bd0 (aw.flatMap de) 109,box b1 (aR i) 48] w16:=S18.front 0 rfl
  have S20:Sep w [box bd0 (aw.flatMap de) 109,box bd5 kvW25_1 109,box b1 (aR i) 48] w16:=S19.front 1 rfl
  exact W3 bd5 bd0 w16 S20
 have W6:∀ (bd5:Nat) (w17:World),Sep w [box bd5 kvW25_1 109,box b1 (aR i) 48] w17→WA prog 21 39 R K21_0 (fun w_=>Sep w [box b1 (aR i) 48] w_) 4 #[false,true,true,false,false,true,false] [(1,pv b1),(3,pv bd5),(12,iv i.gOp)] w17:=by
  intro bd5 w17 S21
  refine WA.all [0] kr rfl ⟨?_,trivial⟩
  refine WO.set #[true,true,true,false,false,true,false] kr<|WO.callF 10 52 #[] hb52 kr (rows_any _) ?_
  rintro _ w18 ⟨bd0,rfl,T1⟩
  have S22:Sep w [box bd0 (aw.flatMap de) 109,box bd5 kvW25_1 109,box b1 (aR i) 48] w18:=S21.trans T1
  clear T1 S21
  exact WB.mk ((S22.erase 1).erase 0)<|WA.takeOK 3 #[true,true,true,true,false,true,false] kr kr kr kr (fun w_ S_=>OK.index 13 107 3 (some ⟨bd0,0,none⟩) ⟨bd0,0,none⟩ 23 (i.gOp).toNat i.gOp ⟨bd0,((i.gOp).toNat)*3,none⟩ kr kr rfl om oz (by rw[eF,Nat.zero_add])) rfl<|WA.weaken (env':=[(1,pv b1),(3,pv bd5),(13,.pointer (some ⟨bd0,((i.gOp).toNat)*3,none⟩))]) kr<|W3 bd5 bd0 w18 S22
 have W7:∀ (w19:World),Sep w [box b1 (aR i) 48] w19→WA prog 21 39 R K21_0 (fun w_=>Sep w [box b1 (aR i) 48] w_) 5 #[false,true,true,false,false,false,false] [(1,pv b1),(12,iv i.gOp)] w19:=by
  intro w19 S23
  refine WA.all [0,5] kr rfl ⟨?_,?_,trivial⟩
  refine WO.set #[true,true,true,false,false,false,false] kr<|WO.callF 10 52 #[] hb52 kr (rows_any _) ?_
  rintro _ w20 ⟨bd0,rfl,T2⟩
  have S24:Sep w [box bd0 (aw.flatMap de) 109,box b1 (aR i) 48] w20:=S23.trans T2
  clear T2 S23
  exact WB.mk (S24.erase 0)<|WA.takeOK 3 #[true,true,true,true,false,false,false] kr kr kr kr (fun w_ S_=>OK.index 13 107 3 (some ⟨bd0,0,none⟩) ⟨bd0,0,none⟩ 23 (i.gOp).toNat i.gOp ⟨bd0,((i.gOp).toNat)*3,none⟩ kr kr rfl om oz (by rw[eF,Nat.zero_add])) rfl<|WA.weaken (env':=[(1,pv b1),(13,.pointer (some ⟨bd0,((i.gOp).toNat)*3,none⟩))]) kr<|W5 bd0 w20 S24
  refine WO.set #[false,true,true,false,false,true,false] kr<|WO.new S23 3 kvW25_1 109 kr ?_
  intro bd5 w21 S25
  exact WB.mk (S25.erase 0)<|WA.weaken (env':=[(1,pv b1),(3,pv bd5),(12,iv i.gOp)]) kr<|W6 bd5 w21 S25
 refine J.drawAny (fun w_=>Sep w [box b1 (aR i) 48] w_) S2 7 #[false,false,false,false,false,false,false] Tryz.mixed kr kr kr ?_
 intro w22 S26
 exact WB.mk S26<|WA.take 1 11 (pv b1) #[false,true,false,false,false,false,false] kr kr kr (fun _ _=>kr) kr<|WA.takeOK 2 #[false,true,true,false,false,false,false] kr kr kr kr (fun w_ S_=>OK.ldBox S_ 0 12 3 0 (iv i.gOp) kr rfl kr) rfl<|WA.weaken (env':=[(1,pv b1),(12,iv i.gOp)]) kr<|W7 w22 S26
 refine J.e 5 [.string ByteArray.empty] func21 (hR _ _ ?_)
 exact⟨congrArg Value.string (textI_no fk1).symm,S2.nil⟩

theorem atM_bd (l:List UInt8): -9223372036854775808≤(atM l).getD 0∧(atM l).getD 0≤9223372036854775807:=by
  unfold atM
  split
  · rename_i n h
    have:=Lib.atoiAll_bounds h
    simp only[Option.getD_some];omega
  · simp only[Option.getD_none];omega
theorem index_rows (W:ByteArray): -1≤bR (fun r:Rwo=>r.gname.toList==W.toList) aw∧bR (fun r:Rwo=>r.gname.toList==W.toList) aw<23 ∧
    (bR (fun r:Rwo=>r.gname.toList==W.toList) aw<1→opW (ls W)=0)∧(1≤bR (fun r:Rwo=>r.gname.toList==W.toList) aw→opW (ls W)=bR (fun r:Rwo=>r.gname.toList==W.toList) aw):=by
  have hl:=rows_len
  by_cases h:0≤bR (fun r:Rwo=>r.gname.toList==W.toList) aw
  · obtain ⟨h1,h2,_⟩:=indexF_at aZ h
    generalize bR (fun r:Rwo=>r.gname.toList==W.toList) aw=m at h h1 h2
    rw[beq_ls,beq_iff_eq] at h2
    refine⟨om,om,fun h3=>?_,fun h3=>?_⟩
    · have e:m=0:=by omega
      subst e
      rw[← h2];decide +kernel
    · rw[← h2,(rows_at (op:=m) om).1];exact opW_name om
  · have ha:aw.any (fun r:Rwo=>r.gname.toList==W.toList)=false:=by
      rw[← cV];exact decide_eq_false h
    refine⟨?_,om,fun _=>?_,fun h3=>absurd h3 om⟩
    · rcases indexF_bounds (fun r:Rwo=>r.gname.toList==W.toList) aw with h1 | h1<;>omega
    · refine opN_zero fun j hj h0 e=>?_
      rw[List.any_eq_false] at ha
      have hm:aw.getD j aZ ∈ aw:=by rw[List.getD_eq_getElem?_getD,List.getElem?_eq_getElem om];exact List.getElem_mem _
      apply ha _ hm
      rw[beq_ls,beq_iff_eq,← e]
      have:=(rows_at (op:=(j:Int)) om).1
      rw[Int.toNat_natCast] at this;rw[this]
theorem goW_step {f:UInt8→List UInt8→Option Int} {cs:List UInt8} {ws:List (List UInt8)} {i:Ins} {k:Nat} (hk:k<cs.length) :
    goW f (cs.drop k) (ws.drop (k+1)) i=match f (cs.getD k 0) (ws.getD (k+1) []) with
      | none=>none
      | some n=>goW f (cs.drop (k+1)) (ws.drop (k+2)) (setI i ((cs.getD k 0).toNat:Int) n):=by
  rw[List.drop_eq_getElem_cons hk,goW,List.getD_eq_getElem?_getD,List.getElem?_eq_getElem hk,Option.getD_some]
  have e1:(ws.drop (k+1)).headD []=ws.getD (k+1) []:=by
    rw[List.headD_eq_head?_getD,List.head?_drop,List.getD_eq_getElem?_getD]
  have e2:(ws.drop (k+1)).tail=ws.drop (k+2):=by rw[List.tail_drop]
  rw[e1,e2]<;>rfl
def atW (f:UInt8→List UInt8→Option Int) (s:ByteArray) (op:Int) (k:Int) (i:Ins):Prop :=
  ef f (ls s)=goW f ((ls (aW op)).drop k.toNat) ((aQ 32 (ls s)).drop (k.toNat+1)) i
theorem atW_start {f:UInt8→List UInt8→Option Int} {s:ByteArray} {op:Int} {w0:ByteArray} (h0:(az 32 s).getD 0 ByteArray.empty=w0) (h1:opW (ls w0)=op) (h2:1≤op) (h3:((az 32 s).length:Int)=1+((aW op).size:Int)):atW f s op 0 ⟨op,0,0,0,0⟩:=by
  have hp:=eY 32 s
  have hne:=eV 32 (ls s)
  have e0:ls w0=(aQ 32 (ls s)).headD []:=by
    rw[← h0,piecesB_getD 32 s 0 (List.length_pos_iff.2 hne)]
    cases aQ 32 (ls s) with
    | nil=>rfl
    | cons a b=>rfl
  rw[e0] at h1
  unfold atW
  rw[readI_yes om (by rw[h1];omega),h1];simp
theorem readI_not {f:UInt8→List UInt8→Option Int} {s:ByteArray} {w0:ByteArray} (h0:(az 32 s).getD 0 ByteArray.empty=w0) (h:opW (ls w0)<1∨((az 32 s).length:Int)≠1+((aW (opW (ls w0))).size:Int)):ef f (ls s)=none:=by
  have hp:=eY 32 s
  have hne:=eV 32 (ls s)
  have e0:ls w0=(aQ 32 (ls s)).headD []:=by
    rw[← h0,piecesB_getD 32 s 0 (List.length_pos_iff.2 hne)]
    cases aQ 32 (ls s) with
    | nil=>rfl
    | cons a b=>rfl
  rw[e0] at h
  unfold ef;rw[if_pos (by rcases h with h | h;left;exact h;right;omega)]
theorem atW_none {f:UInt8→List UInt8→Option Int} {s w:ByteArray} {op k:Int} {i:Ins} (h:atW f s op k i) (h0:0≤k) (hk:k<((aW op).size:Int)) (hw:w=(az 32 s).getD (k+1).toNat ByteArray.empty) (hp:((az 32 s).length:Int)=1+((aW op).size:Int))
    (hf:f ((ls (aW op)).getD k.toNat 0) (ls w)=none):ef f (ls s)=none:=by
  have hl:=cm (aW op);have hpl:=eY 32 s
  rw[hw,piecesB_getD 32 s _ om,show(k+1).toNat=k.toNat+1 by omega] at hf
  unfold atW at h
  rw[h,goW_step om,hf]
theorem atW_next {f:UInt8→List UInt8→Option Int} {s w:ByteArray} {op k n:Int} {i:Ins} (h:atW f s op k i) (h0:0≤k) (hk:k<((aW op).size:Int)) (hw:w=(az 32 s).getD (k+1).toNat ByteArray.empty) (hp:((az 32 s).length:Int)=1+((aW op).size:Int))
    (hf:f ((ls (aW op)).getD k.toNat 0) (ls w)=some n):atW f s op (k+1) (setI i (bD (aW op) k.toNat) n):=by
  have hl:=cm (aW op);have hpl:=eY 32 s
  rw[hw,piecesB_getD 32 s _ om,show(k+1).toNat=k.toNat+1 by omega] at hf
  unfold atW at h ⊢
  rw[h,goW_step om,hf,fg,show(k+1).toNat=k.toNat+1 by omega]
theorem atW_end {f:UInt8→List UInt8→Option Int} {s:ByteArray} {op k:Int} {i:Ins} (h:atW f s op k i) (hk:k=((aW op).size:Int)):ef f (ls s)=some i:=by
  unfold atW at h
  rw[h,List.drop_eq_nil_of_le (by rw[cm];omega)];rfl
theorem set_val {i:Ins} {c n:Int}:(c=65→setI i c n={ i with gA:=n })∧(c=66→setI i c n={ i with gB:=n })∧(c=67→setI i c n={ i with gC:=n })∧(c≠65→c≠66→c≠67→setI i c n={ i with gK:=n }):=by
  unfold setI
  refine⟨fun h=>by rw[if_pos h],fun h=>by rw[if_neg om,if_pos h],fun h=>by rw[if_neg om,if_neg om,if_pos h],fun h1 h2 h3=>by rw[if_neg h1,if_neg h2,if_neg h3]⟩
theorem byte_dec {F:ByteArray} {k:Nat}:((ls F).getD k 0=75)↔bD F k=75:=(byte_eq (c:=75) dE).symm
theorem trim_size (w p:ByteArray):(⟨(Lib.trimPrefix (ls w) (ls p)).toArray⟩:ByteArray).size≤w.size:=by
  rw[← cm,ls_mk,← cm w]
  unfold Lib.trimPrefix
  split
  · rw[List.length_drop];omega
  · exact Nat.le_refl _
theorem mat_k {F w:ByteArray} {k:Nat} (h:bD F k=75):matW ((ls F).getD k 0) (ls w)=atM (ls w):=by unfold matW;rw[if_pos (byte_dec.2 h)]
theorem mat_r {F w t:ByteArray} {k:Nat} (h:bD F k≠75) (ht:t=⟨(Lib.trimPrefix (ls w) (ls (⟨#[114]⟩:ByteArray))).toArray⟩):matW ((ls F).getD k 0) (ls w)=atM (ls t):=by
  unfold matW;rw[if_neg (fun e=>h (byte_dec.1 e)),ht,ls_mk,show ls (⟨#[114]⟩:ByteArray)=[114] from rfl,trim_eq]
theorem at_some {l:List UInt8} (h:(atM l).isSome=true):atM l=some ((atM l).getD 0):=by
  cases hh:atM l with
  | none=>rw[hh] at h;cases h
  | some n=>rfl
theorem at_none {l:List UInt8} (h:(atM l).isSome=false):atM l=none:=by
  cases hh:atM l with
  | none=>rfl
  | some n=>rw[hh] at h;cases h
theorem atoi_some (s:ByteArray) (w:World) (hs:s.size≤281474976710656) (h:(atM (ls s)).isSome=true):Ret prog 55 #[.string s] w (fun v w'=>v=.tuple #[iv ((atM (ls s)).getD 0),.nilIface]∧Sep w [] w'):=by
  cases hh:Lib.atoiAll (ls s) with
  | ok n =>
    refine Ret.of_calls (Tryz.strconv_Atoi_ok s om n hh w) fun w' hw=>⟨?_,by rcases hw with rfl | ⟨t,rfl⟩;exact .refl _;exact .of_below (Lib.bytesWorld_below _ _ _)⟩
    unfold atM;rw[hh];rfl
  | _=>unfold atM at h;rw[hh] at h;cases h
theorem atoi_none (s:ByteArray) (w:World) (hs:s.size≤281474976710656) (h:(atM (ls s)).isSome=false) (hW:TabW w):Ret prog 55 #[.string s] w (fun v w'=>∃ x N,v=.tuple #[iv x,.iface 168 (pv N)]∧Sep w [] w'):=by
  cases hh:Lib.atoiAll (ls s) with
  | ok n=>unfold atM at h;rw[hh] at h;cases h
  | range =>
    obtain ⟨ev,hv,hev⟩:=hW.2.2.1
    exact Calls.mono (Tryz.strconv_Atoi_range s hs hh ev w hv hev) fun e w' ⟨N,he,_,_,hb⟩=>⟨_,he,_,N,rfl,.of_below hb⟩
  | _ =>
    obtain ⟨ev,hv,hev⟩:=hW.2.1
    exact Calls.mono (Tryz.strconv_Atoi_syntax s hs hh ev w hv hev) fun e w' ⟨N,he,_,_,hb⟩=>⟨_,he,_,N,rfl,.of_below hb⟩
theorem hb50:af prog 50:=fun _ _=>by kernel_rfl
theorem split32_any (s:ByteArray) (w:World) (hs:s.size<4294967281) (hW:TabW w):Ret prog 50 #[.string s,.string ⟨#[32]⟩] w (fun v w'=>∃ b,v=.slice (some ⟨b,0,none⟩) (az 32 s).length (az 32 s).length∧Sep w [box b ((az 32 s).map Value.string) 9] w'):=by
  obtain ⟨m,hm⟩:=hW.2.2.2
  refine Calls.mono (Tryz.strings_Split s ⟨#[32]⟩ m w hs hm (Nat.le_refl 1)) fun e w' ⟨he,hw⟩=>?_
  subst he hw
  rw[splitB_len,splitB_pieces]
  exact⟨_,rfl,_,rfl,Sep.of_alloc _ _ _⟩
theorem hb53:af prog 53:=fun _ _=>by kernel_rfl

theorem parse1_any (r:Rwo) (bx:Nat) (pa:Option Addr) (pn pc:Nat) (l:List ByteArray) (w:World) (hI:Ones Value.string w pa pn l) (hpn:0<pn) (hb:(box bx [.slice pa pn pc] 104).holds w):Ret prog 53 #[.agg (rwoA r),pv bx] w (fun v w'=>v=.bool (r.gname.toList==(l.getD 0 ByteArray.empty).toList)∧Sep w [] w'):=by
 refine Ret.st (N:=10) func53 fun R hR S0=>J.nw 2 [] [] [] S0 2 (rwoC r) 109 fun b1 w1 S1=>J.r 3 [] [] [] ?_
 obtain ⟨p1,hp1,hc1⟩:=hI.at ByteArray.empty 0 om
 refine J.drawStill S1 7 Tryz.mixed kr kr kr ?_
 intro w2 S2
 refine SL.r 4 (pv b1)<|SL.lb S2 0 rfl 5 (.string r.gname)<|SL.ok dE (OK.ldRo S2 hb 6 104 0 (.slice pa pn pc) kr kr)<|SL.ok dE (OK.index 7 104 1 pa p1 pn 0 0 (p1.add 0) kr kr hp1 om om nO)<|SL.ok dE (OK.ldCell 8 9 (p1.add 0) (.string (l.getD 0 ByteArray.empty)) kr kr (S2.cell hc1))<|SL.r 9 (.bool (r.gname.toList==(l.getD 0 ByteArray.empty).toList))<|SL.r 3 (.bool (r.gname.toList==(l.getD 0 ByteArray.empty).toList))<|SL.done<|TL.done kr<|J.e 0 [.bool (r.gname.toList==(l.getD 0 ByteArray.empty).toList)] func53 (hR _ _ ?_)
 exact⟨rfl,S2.nil⟩

theorem hb51:af prog 51:=fun _ _=>by kernel_rfl
def K51_0:=adv 13 [] (bo Tryz.f51)
theorem indexRW1 (la:Option Addr) (len cap:Nat) (l:List Rwo) (g:FuncId) (c1:Value) (q:Rwo→Bool) (w:World) (hI:Recs de 3 w la len l) (hlen:len≤9223372036854775807) (hbg:af prog g) (hcall:∀ (i:Nat) (w2:World),i<l.length→Sep w [] w2→Ret prog g #[.agg (rwoA (l.getD i aZ)),c1] w2 (fun v w3=>v=.bool (q (l.getD i aZ))∧Sep w2 [] w3)):Ret prog 51 #[.slice la len cap,.func (.func g) #[] #[c1]] w (fun v w'=>v=iv (bR q l)∧Sep w [] w'):=by
 refine Ret.st (N:=19) func51 fun R hR S0=>?_
 have L51_1:∀ (mm_:Nat) (i:Int) (w1:World),(0≤i)→(i≤(len:Int))→(∀ j,j<(i).toNat→q (l.getD j aZ)=false)→Sep w [] w1→((len:Int)-i).toNat=mm_→J prog 51 19 R K51_0 [(8,iv i),(7,iv (len:Int)),(0,.slice la len cap),(1,.func (.func g) #[] #[c1])] w1:=by
  intro mm1
  induction mm1 using Nat.strongRecOn with
  | _ mm1 ih1 =>
  intro i w1 h0 h1 hq S1 hm1
  refine J.c 5 [] [] [] 9 (i<(len:Int)) (fun fk1=>?_) fun fk1=>?_
  refine J.r 14 [true] [(13,iv i),(12,.slice la len cap),(11,.func (.func g) #[] #[c1]),(5,iv i)] [] ?_
  obtain ⟨p1,hp1,hc1⟩:=hI.at aZ (i).toNat om
  refine J.ok (OK.index 14 107 3 la p1 len (i).toNat i (p1.add ((i).toNat*3)) kr kr hp1 om om rfl)<|J.ok (OK.ldCells 15 109 (p1.add ((i).toNat*3)) (rwoC (l.getD (i).toNat aZ)) kr kr kr (fun j_ v_ hj_=>S1.cell (hc1 j_ v_ hj_)))<|J.callF 16 g #[.agg (rwoA (l.getD (i).toNat aZ)),c1] hbg kr (hcall (i).toNat w1 (by have:=hI.len_eq;omega) S1.nil) ?_
  rintro _ w2 ⟨rfl,T1⟩
  have S2:Sep w [] w2:=S1.trans T1
  refine J.b 1 [] [] [] 16 (q (l.getD (i).toNat aZ)) (fun fk2=>?_) fun fk2=>?_
  refine J.e 6 [iv i] func51 (hR _ _ ?_)
  exact⟨by rw[cG,dq aZ i.toNat (by have:=hI.len_eq;omega) hq fk2,Int.toNat_of_nonneg h0],S2.nil⟩
  exact J.wi 5 [false] [] [] 18 (i+1)<|J.t 3 (ih1 _ (show((len:Int)-(i+1)).toNat<mm1 from by omega) (i+1) w2 om om (by intro j hj;by_cases e:j=i.toNat;(subst e;exact fk2);exact hq j om) S2 rfl)
  refine J.e 6 [iv (-1)] func51 (hR _ _ ?_)
  exact⟨by rw[cG,dH aZ fun j hj=>hq j (by have:=hI.len_eq;omega)],S1.nil⟩
 exact J.t 13 (L51_1 _ 0 w om om (by intro j hj;simp at hj) S0 rfl)
end
end Go.Proofs.YtaoolgcddapegaaGreatDoor
