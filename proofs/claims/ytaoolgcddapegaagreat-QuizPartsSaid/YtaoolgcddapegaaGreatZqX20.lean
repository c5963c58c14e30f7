/- Walks of functions of this seat, printed by a program over the engine. Conditions: as each theorem says. -/
import Derived.Test.YtaoolgcddapegaaGreatZqX17
set_option linter.unusedSimpArgs false
set_option linter.unusedVariables false
namespace Go.Proofs.YtaoolgcddapegaaGreat
noncomputable section
open Go.Eng Go.RowKit Go.Proofs.Tryz
set_option maxRecDepth 20000
set_option maxHeartbeats 20000000
theorem hb12:af prog 12:=fun _ _=>by kernel_rfl
def K12_0:=adv 34 [false] (bi Tryz.f12)
theorem new_any (p:Prg) (w:World) (hp:prgQ w p):Ret prog 12 #[.agg (dq p)] w (fun v w'=>∃ a cap,v=.tuple #[.agg #[iv 0,iv 0,iv 0,iv 0,iv 0,iv 0,iv 0,iv 0,iv 0,iv 0,iv 0,iv 0,iv 0,iv 0,iv 0,iv 0,.slice a (newX p).length cap],iv (newE p)]∧Sep w [ak aA a cap 3 1 (newX p)] w'):=by
 refine Ret.st (N:=34) func12 fun R hR S0=>?_
 obtain ⟨q1,q2,q3,q4,q5,q6,q7,q8,q9,q10,q11,q12,q13,q14,q15,q16,q17,q18,q19,q20,q21,q22,q23,q24,q25,_⟩:=id hp
 have ql1:=q2.len_eq
 have ql2:=q5.len_eq
 have ql3:=q8.len_eq
 have ql4:=q11.len_eq
 have ql5:=q15.len_eq
 have ql6:=q18.len_eq
 have ql7:=q21.len_eq
 have ql8:=q24.len_eq
 refine J.nw 2 [] [] [] S0 1 (aO p) 28 fun b1 w1 S1=>J.nw 0 [] [] [] S1 2 [iv 0,iv 0,iv 0,iv 0,iv 0,iv 0,iv 0,iv 0,iv 0,iv 0,iv 0,iv 0,iv 0,iv 0,iv 0,iv 0,.slice none 0 0] 44 fun b2 w2 S2=>J.lb 5 [] [] [] S2 1 rfl 7 (.agg (dq p))<|J.c0 0 [] [] [] S2 8 hb26 (pvalid_any p _ (cS hp S2)) fun w3 S3=>J.bn 2 [] [] [] 9 (bX p) (fun fk1=>?_) fun fk1=>?_
 have hv:=fk1
 obtain ⟨hv1,hv2,hv3,hv4,hv5,hv6,hv7,hv8,hv9,hv10,hv11⟩:=ci hv
 have hst:=(bY hv8).2
 have hrp:(List.replicate (p.ap).toNat (0:Int)).length=p.ap.toNat:=List.length_replicate
 refine J.lb 5 [false] [] [] S3 1 rfl 12 (iv p.ap)<|J.make aA (0:Int) S3 13 26 3 1 p.ap p.ap ((p.ap).toNat) (iv 0) 8 kr om om kr kr kr rF om ?_
 intro b3 w4 S4
 refine J.nw 1 [] [(14,.agg #[iv 0,iv 0,iv 0,iv 0,iv 0,iv 0,iv 0,iv 0,iv 0,iv 0,iv 0,iv 0,iv 0,iv 0,iv 0,iv 0,.slice (some ⟨b3,0,none⟩) ((List.replicate ((p.ap).toNat) (0:Int)).length) ((p.ap).toNat)])] [] S4 4 [iv 0,iv 0,iv 0,iv 0,iv 0,iv 0,iv 0,iv 0,iv 0,iv 0,iv 0,iv 0,iv 0,iv 0,iv 0,iv 0,.slice none 0 0] 44 fun b4 w5 S5=>J.sb 0 [] [] [] S5 0 rfl [iv 0,iv 0,iv 0,iv 0,iv 0,iv 0,iv 0,iv 0,iv 0,iv 0,iv 0,iv 0,iv 0,iv 0,iv 0,iv 0,.slice (some ⟨b3,0,none⟩) ((List.replicate ((p.ap).toNat) (0:Int)).length) ((p.ap).toNat)] rfl fun w6 S6=>J.lb 5 [] [] [] S6 3 rfl 16 (.slice p.aY p.aH p.ba) ?_
 have L12_1:∀ (mm_:Nat) (cs:List Int) (k:Int) (w7:World),(0≤k)→(k≤(p.aH:Int))→(cs=newN p (k).toNat)→Sep w [box b4 [iv 0,iv 0,iv 0,iv 0,iv 0,iv 0,iv 0,iv 0,iv 0,iv 0,iv 0,iv 0,iv 0,iv 0,iv 0,iv 0,.slice (some ⟨b3,0,none⟩) ((List.replicate ((p.ap).toNat) (0:Int)).length) ((p.ap).toNat)] 44,ak aA (some ⟨b3,0,none⟩) ((p.ap).toNat) 3 1 cs,box b2 [iv 0,iv 0,iv 0,iv 0,iv 0,iv 0,iv 0,iv 0,iv 0,iv 0,iv 0,iv 0,iv 0,iv 0,iv 0,iv 0,.slice none 0 0] 44,box b1 (aO p) 28] w7→((p.aH:Int)-k).toNat=mm_→J prog 12 34 R K12_0 [(18,iv k),(17,iv (p.aH:Int)),(16,.slice p.aY p.aH p.ba),(4,pv b4),(2,pv b2),(1,pv b1)] w7:=by
  intro mm1
  induction mm1 using Nat.strongRecOn with
  | _ mm1 ih1 =>
  intro cs k w7 k0 k1 hcs S7 hm1
  have hcl:cs.length=p.ap.toNat:=by rw[hcs];exact newN_len p _
  have hsk:k<(p.aH:Int)→_:=fun h_=>hst k.toNat om
  refine J.c 5 [] [] [] 19 (k<(p.aH:Int)) (fun fk2=>?_) fun fk2=>?_
  refine J.r 7 [true] [(20,iv k)] [] ?_
  obtain ⟨p1,hp1,hc1⟩:=q18.at 0 (k).toNat om
  have hel1:=aP q19 0 (n:=(k).toNat) (by have:=q18.len_eq;omega)
  refine J.ok (OK.index 21 26 1 p.aY p1 p.aH (k).toNat k (p1.add (k).toNat) kr kr hp1 om om nO)<|J.ok (OK.ldCell 22 3 (p1.add (k).toNat) (iv (p.ao.getD (k).toNat 0)) kr kr (S7.cell hc1))<|J.r 3 [] [(6,iv (p.ao.getD (k).toNat 0)),(5,iv k)] [] ?_
  obtain ⟨p2,hp2,hc2⟩:=q24.at 0 (k).toNat om
  have hel2:=aP q25 0 (n:=(k).toNat) (by have:=q24.len_eq;omega)
  obtain ⟨p3,hp3⟩:=bK (S7.nth 1 rfl) (show 0<(cs).length by first | omega | (simp;omega))
  refine J.drawTail S7 9 Tryz.mixed kr kr ?_
  intro w8 S8
  refine SL.r 23 (.pointer (some ⟨b4,16,none⟩))<|SL.lb S8 0 rfl 24 (.slice (some ⟨b3,0,none⟩) ((List.replicate ((p.ap).toNat) (0:Int)).length) ((p.ap).toNat))<|SL.r 25 (iv (p.ao.getD (k).toNat 0))<|SL.r 26 (.pointer (some ⟨b1,8,none⟩))<|SL.lb S8 3 rfl 27 (.slice p.bU p.bc p.co)<|SL.r 28 (iv k)<|SL.ok dE (OK.index 29 26 1 p.bU p2 p.bc (k).toNat k (p2.add (k).toNat) kr kr hp2 om om nO)<|SL.ok dE (OK.ldCell 30 3 (p2.add (k).toNat) (iv (p.bf.getD (k).toNat 0)) kr kr (S8.cell hc2))<|SL.ok dE (OK.index 31 26 1 (some ⟨b3,0,none⟩) p3 ((List.replicate ((p.ap).toNat) (0:Int)).length) (p.ao.getD (k).toNat 0).toNat (p.ao.getD (k).toNat 0) (p3.add (p.ao.getD (k).toNat 0).toNat) kr kr hp3 om oz nO)<|SL.done<|TL.stRow1 (Value.int .i64) (dO _) S8 1 cs 3 p3 (p.ao.getD (k).toNat 0).toNat (p.bf.getD (k).toNat 0) rfl kr hp3 oz kr ?_
  intro w9 S9
  replace S9:Sep w [box b4 [iv 0,iv 0,iv 0,iv 0,iv 0,iv 0,iv 0,iv 0,iv 0,iv 0,iv 0,iv 0,iv 0,iv 0,iv 0,iv 0,.slice (some ⟨b3,0,none⟩) ((List.replicate ((p.ap).toNat) (0:Int)).length) ((p.ap).toNat)] 44,ak aA (some ⟨b3,0,none⟩) ((p.ap).toNat) 3 1 (cs.set (p.ao.getD (k).toNat 0).toNat (p.bf.getD (k).toNat 0)),box b2 [iv 0,iv 0,iv 0,iv 0,iv 0,iv 0,iv 0,iv 0,iv 0,iv 0,iv 0,iv 0,iv 0,iv 0,iv 0,iv 0,.slice none 0 0] 44,box b1 (aO p) 28] w9:=S9
  exact TL.done kr<|J.wi 3 [] [] [] 32 (k+1)<|J.t 3 (ih1 _ (show((p.aH:Int)-(k+1)).toNat<mm1 from by omega) (cs.set (p.ao.getD (k).toNat 0).toNat (p.bf.getD (k).toNat 0)) (k+1) w9 om om (by rw[show(k+1).toNat=k.toNat+1 by omega,newN,← hcs]) S9 rfl)
  refine J.lb 4 [false] [] [] S7 0 rfl 33 (.agg #[iv 0,iv 0,iv 0,iv 0,iv 0,iv 0,iv 0,iv 0,iv 0,iv 0,iv 0,iv 0,iv 0,iv 0,iv 0,iv 0,.slice (some ⟨b3,0,none⟩) ((List.replicate ((p.ap).toNat) (0:Int)).length) ((p.ap).toNat)])<|J.sb 0 [] [] [] S7 2 rfl [iv 0,iv 0,iv 0,iv 0,iv 0,iv 0,iv 0,iv 0,iv 0,iv 0,iv 0,iv 0,iv 0,iv 0,iv 0,iv 0,.slice (some ⟨b3,0,none⟩) ((List.replicate ((p.ap).toNat) (0:Int)).length) ((p.ap).toNat)] rfl fun w10 S10=>J.r 2 [] [(3,iv 0)] []<|J.ret Tryz.f12 [.agg #[iv 0,iv 0,iv 0,iv 0,iv 0,iv 0,iv 0,iv 0,iv 0,iv 0,iv 0,iv 0,iv 0,iv 0,iv 0,iv 0,.slice (some ⟨b3,0,none⟩) ((List.replicate ((p.ap).toNat) (0:Int)).length) ((p.ap).toNat)],iv 0] func12 ⟨⟨⟨b2,0,none⟩,kr,aS (S10.nth 2 rfl) kr⟩,kr,trivial⟩<|hR _ _ ?_
  obtain ⟨e1,e2⟩:=newX_yes hv
  have e3:cs=newN p p.ao.length:=by rw[hcs,show k.toNat=p.ao.length by omega]
  have e4:(List.replicate (p.ap).toNat (0:Int)).length=(newN p p.ao.length).length:=by rw[newN_len,List.length_replicate]
  exact⟨_,_,by rw[e1,e2,← e4];rfl,by rw[e1,← e3];exact S10.pick 1 rfl⟩
 exact J.t 5 (L12_1 _ (List.replicate ((p.ap).toNat) (0:Int)) 0 w6 om om (rfl) S6 rfl)
 refine J.sb 4 [true] [] [] S3 0 rfl [iv 0,iv 0,iv 0,iv 0,iv 0,iv 0,iv 0,iv 0,iv 0,iv 0,iv 0,iv 0,iv 0,iv 0,iv 0,iv 0,.slice none 0 0] rfl fun w11 S11=>J.r 2 [] [(3,iv 1)] []<|J.ret Tryz.f12 [.agg #[iv 0,iv 0,iv 0,iv 0,iv 0,iv 0,iv 0,iv 0,iv 0,iv 0,iv 0,iv 0,iv 0,iv 0,iv 0,iv 0,.slice none 0 0],iv 1] func12 ⟨⟨⟨b2,0,none⟩,kr,aS (S11.nth 0 rfl) kr⟩,kr,trivial⟩<|hR _ _ ?_
 obtain ⟨e1,e2⟩:=newX_no fk1
 exact⟨none,0,by rw[e1,e2];rfl,by rw[e1];exact S11.nil.nilRow 3 1⟩

theorem hb22:af prog 22:=fun _ _=>by kernel_rfl
def K22_0:=adv 21 [] (bi Tryz.f22)
theorem rnew_any (p:Prg) (w:World) (hp:prgQ w p) (hv:bX p=true):Ret prog 22 #[.agg (dq p)] w (fun v w'=>∃ a cap,v=.agg #[iv 0,iv 0,iv 0,iv 0,iv 0,iv 0,iv 0,iv 0,iv 0,iv 0,iv 0,iv 0,iv 0,iv 0,iv 0,iv 0,.slice a (newN p p.ao.length).length cap]∧Sep w [ak aA a cap 3 1 (newN p p.ao.length)] w'):=by
 refine Ret.st (N:=30) func22 fun R hR S0=>?_
 obtain ⟨q1,q2,q3,q4,q5,q6,q7,q8,q9,q10,q11,q12,q13,q14,q15,q16,q17,q18,q19,q20,q21,q22,q23,q24,q25,_⟩:=id hp
 have ql1:=q2.len_eq
 have ql2:=q5.len_eq
 have ql3:=q8.len_eq
 have ql4:=q11.len_eq
 have ql5:=q15.len_eq
 have ql6:=q18.len_eq
 have ql7:=q21.len_eq
 have ql8:=q24.len_eq
 skip
 obtain ⟨hv1,hv2,hv3,hv4,hv5,hv6,hv7,hv8,hv9,hv10,hv11⟩:=ci hv
 have hst:=(bY hv8).2
 have hrp:(List.replicate (p.ap).toNat (0:Int)).length=p.ap.toNat:=List.length_replicate
 refine J.nw 2 [] [] [] S0 1 (aO p) 28 fun b1 w1 S1=>J.nw 0 [] [] [] S1 2 [iv 0,iv 0,iv 0,iv 0,iv 0,iv 0,iv 0,iv 0,iv 0,iv 0,iv 0,iv 0,iv 0,iv 0,iv 0,iv 0,.slice none 0 0] 44 fun b2 w2 S2=>J.lb 4 [] [] [] S2 1 rfl 6 (iv p.ap)<|J.make aA (0:Int) S2 7 26 3 1 p.ap p.ap ((p.ap).toNat) (iv 0) 8 kr om om kr kr kr rF om ?_
 intro b3 w3 S3
 refine J.nw 1 [] [(8,.agg #[iv 0,iv 0,iv 0,iv 0,iv 0,iv 0,iv 0,iv 0,iv 0,iv 0,iv 0,iv 0,iv 0,iv 0,iv 0,iv 0,.slice (some ⟨b3,0,none⟩) ((List.replicate ((p.ap).toNat) (0:Int)).length) ((p.ap).toNat)])] [] S3 3 [iv 0,iv 0,iv 0,iv 0,iv 0,iv 0,iv 0,iv 0,iv 0,iv 0,iv 0,iv 0,iv 0,iv 0,iv 0,iv 0,.slice none 0 0] 44 fun b4 w4 S4=>J.sb 0 [] [] [] S4 0 rfl [iv 0,iv 0,iv 0,iv 0,iv 0,iv 0,iv 0,iv 0,iv 0,iv 0,iv 0,iv 0,iv 0,iv 0,iv 0,iv 0,.slice (some ⟨b3,0,none⟩) ((List.replicate ((p.ap).toNat) (0:Int)).length) ((p.ap).toNat)] rfl fun w5 S5=>?_
 have L22_1:∀ (mm_:Nat) (cs:List Int) (k:Int) (w6:World),(0≤k)→(k≤(p.aH:Int))→(cs=newN p (k).toNat)→Sep w [box b4 [iv 0,iv 0,iv 0,iv 0,iv 0,iv 0,iv 0,iv 0,iv 0,iv 0,iv 0,iv 0,iv 0,iv 0,iv 0,iv 0,.slice (some ⟨b3,0,none⟩) ((List.replicate ((p.ap).toNat) (0:Int)).length) ((p.ap).toNat)] 44,ak aA (some ⟨b3,0,none⟩) ((p.ap).toNat) 3 1 cs,box b2 [iv 0,iv 0,iv 0,iv 0,iv 0,iv 0,iv 0,iv 0,iv 0,iv 0,iv 0,iv 0,iv 0,iv 0,iv 0,iv 0,.slice none 0 0] 44,box b1 (aO p) 28] w6→((p.aH:Int)-k).toNat=mm_→J prog 22 30 R K22_0 [(4,iv k),(3,pv b4),(2,pv b2),(1,pv b1)] w6:=by
  intro mm1
  induction mm1 using Nat.strongRecOn with
  | _ mm1 ih1 =>
  intro cs k w6 k0 k1 hcs S6 hm1
  have hcl:cs.length=p.ap.toNat:=by rw[hcs];exact newN_len p _
  have hsk:k<(p.aH:Int)→_:=fun h_=>hst k.toNat om
  refine J.lb 5 [] [(9,iv k)] [] S6 3 rfl 11 (.slice p.aY p.aH p.ba)<|J.c 3 [] [] [] 13 (k<(p.aH:Int)) (fun fk1=>?_) fun fk1=>?_
  refine J.r 4 [true] [] [] ?_
  obtain ⟨p1,hp1,hc1⟩:=q18.at 0 (k).toNat om
  have hel1:=aP q19 0 (n:=(k).toNat) (by have:=q18.len_eq;omega)
  obtain ⟨p2,hp2,hc2⟩:=q24.at 0 (k).toNat om
  have hel2:=aP q25 0 (n:=(k).toNat) (by have:=q24.len_eq;omega)
  obtain ⟨p3,hp3⟩:=bK (S6.nth 1 rfl) (show 0<(cs).length by first | omega | (simp;omega))
  refine J.drawTail S6 13 Tryz.mixed kr kr ?_
  intro w7 S7
  refine SL.r 16 (.pointer (some ⟨b4,16,none⟩))<|SL.lb S7 0 rfl 17 (.slice (some ⟨b3,0,none⟩) ((List.replicate ((p.ap).toNat) (0:Int)).length) ((p.ap).toNat))<|SL.r 18 (.pointer (some ⟨b1,6,none⟩))<|SL.lb S7 3 rfl 19 (.slice p.aY p.aH p.ba)<|SL.r 20 (iv k)<|SL.ok dE (OK.index 21 26 1 p.aY p1 p.aH (k).toNat k (p1.add (k).toNat) kr kr hp1 om om nO)<|SL.ok dE (OK.ldCell 22 3 (p1.add (k).toNat) (iv (p.ao.getD (k).toNat 0)) kr kr (S7.cell hc1))<|SL.r 23 (.pointer (some ⟨b1,8,none⟩))<|SL.lb S7 3 rfl 24 (.slice p.bU p.bc p.co)<|SL.r 25 (iv k)<|SL.ok dE (OK.index 26 26 1 p.bU p2 p.bc (k).toNat k (p2.add (k).toNat) kr kr hp2 om om nO) ?_
  refine SL.ok dE (OK.ldCell 27 3 (p2.add (k).toNat) (iv (p.bf.getD (k).toNat 0)) kr kr (S7.cell hc2))<|SL.ok dE (OK.index 28 26 1 (some ⟨b3,0,none⟩) p3 ((List.replicate ((p.ap).toNat) (0:Int)).length) (p.ao.getD (k).toNat 0).toNat (p.ao.getD (k).toNat 0) (p3.add (p.ao.getD (k).toNat 0).toNat) kr kr hp3 om oz nO)<|SL.done<|TL.stRow1 (Value.int .i64) (dO _) S7 1 cs 3 p3 (p.ao.getD (k).toNat 0).toNat (p.bf.getD (k).toNat 0) rfl kr hp3 oz kr ?_
  intro w8 S8
  replace S8:Sep w [box b4 [iv 0,iv 0,iv 0,iv 0,iv 0,iv 0,iv 0,iv 0,iv 0,iv 0,iv 0,iv 0,iv 0,iv 0,iv 0,iv 0,.slice (some ⟨b3,0,none⟩) ((List.replicate ((p.ap).toNat) (0:Int)).length) ((p.ap).toNat)] 44,ak aA (some ⟨b3,0,none⟩) ((p.ap).toNat) 3 1 (cs.set (p.ao.getD (k).toNat 0).toNat (p.bf.getD (k).toNat 0)),box b2 [iv 0,iv 0,iv 0,iv 0,iv 0,iv 0,iv 0,iv 0,iv 0,iv 0,iv 0,iv 0,iv 0,iv 0,iv 0,iv 0,.slice none 0 0] 44,box b1 (aO p) 28] w8:=S8
  exact TL.done kr<|J.wi 4 [] [] [] 15 (k+1)<|J.t 3 (ih1 _ (show((p.aH:Int)-(k+1)).toNat<mm1 from by omega) (cs.set (p.ao.getD (k).toNat 0).toNat (p.bf.getD (k).toNat 0)) (k+1) w8 om om (by rw[show(k+1).toNat=k.toNat+1 by omega,newN,← hcs]) S8 rfl)
  refine J.lb 4 [false] [] [] S6 0 rfl 29 (.agg #[iv 0,iv 0,iv 0,iv 0,iv 0,iv 0,iv 0,iv 0,iv 0,iv 0,iv 0,iv 0,iv 0,iv 0,iv 0,iv 0,.slice (some ⟨b3,0,none⟩) ((List.replicate ((p.ap).toNat) (0:Int)).length) ((p.ap).toNat)])<|J.sb 0 [] [] [] S6 2 rfl [iv 0,iv 0,iv 0,iv 0,iv 0,iv 0,iv 0,iv 0,iv 0,iv 0,iv 0,iv 0,iv 0,iv 0,iv 0,iv 0,.slice (some ⟨b3,0,none⟩) ((List.replicate ((p.ap).toNat) (0:Int)).length) ((p.ap).toNat)] rfl fun w9 S9=>J.r 1 [] [] []<|J.ret Tryz.f22 [.agg #[iv 0,iv 0,iv 0,iv 0,iv 0,iv 0,iv 0,iv 0,iv 0,iv 0,iv 0,iv 0,iv 0,iv 0,iv 0,iv 0,.slice (some ⟨b3,0,none⟩) ((List.replicate ((p.ap).toNat) (0:Int)).length) ((p.ap).toNat)]] func22 ⟨⟨⟨b2,0,none⟩,kr,aS (S9.nth 2 rfl) kr⟩,trivial⟩<|hR _ _ ?_
  have e3:cs=newN p p.ao.length:=by rw[hcs,show k.toNat=p.ao.length by omega]
  have e4:(List.replicate (p.ap).toNat (0:Int)).length=(newN p p.ao.length).length:=by rw[newN_len,List.length_replicate]
  exact⟨_,_,by rw[← e4];rfl,by rw[← e3];exact S9.pick 1 rfl⟩
 exact J.t 8 (L22_1 _ (List.replicate ((p.ap).toNat) (0:Int)) 0 w5 om om (rfl) S5 rfl)

theorem list_ext_getD {l m:List Int} (h:l.length=m.length) (h2:∀ k,k<l.length→l.getD k 0=m.getD k 0):l=m:=by
  apply List.ext_getElem h
  intro k h3 h4
  have:=h2 k h3
  simpa [List.getD,h3,h4] using this
theorem beq_no {l m:List Int} {n k:Nat} (h:l.length=n) (h2:m.length=k) (hne:(n:Int)≠k):(l==m)=false:=by
  rw[beq_eq_false_iff_ne];intro e;rw[e] at h;omega
theorem beq_at {l m:List Int} {i:Nat} (h:l.getD i 0≠m.getD i 0):(l==m)=false:=by
  rw[beq_eq_false_iff_ne];intro e;rw[e] at h;exact h rfl
theorem beq_all {l m:List Int} (h:l.length=m.length) (h2:∀ j,j<l.length→l.getD j 0=m.getD j 0):(l==m)=true:=by rw[beq_iff_eq];exact list_ext_getD h h2

end
end Go.Proofs.YtaoolgcddapegaaGreat

namespace Go.Proofs.YtaoolgcddapegaaGreat
noncomputable section
open Go.Eng Go.RowKit Go.Proofs.Tryz
set_option maxRecDepth 20000
set_option maxHeartbeats 20000000
theorem hb21:af prog 21:=fun _ _=>by kernel_rfl
def K21_0:=adv 21 [false] (bi Tryz.f21)
theorem rcells_any (p:Prg) (la:Option Addr) (len cap:Nat) (l:List Int) (w:World) (hI:dj w la len l):Ret prog 21 #[.agg (dq p),.slice la len cap] w (fun v w'=>v=.bool (cH p.ap l)∧Sep w [] w'):=by
 refine Ret.st (N:=29) func21 fun R hR S0=>?_
 have hll:=hI.len_eq
 refine J.nw 2 [] [] [] S0 2 (aO p) 28 fun b1 w1 S1=>J.c 9 [] [] [] 8 ((len:Int)>1000) (fun fk1=>?_) fun fk1=>?_
 refine J.e 5 [.bool false] func21 (hR _ _ ?_)
 exact⟨congrArg Value.bool (cellsL_long om).symm,S1.nil⟩
 have L21_1:∀ (mm_:Nat) (i:Int) (w2:World),(0≤i)→(i≤(len:Int))→(∀ j,j<(i).toNat→0≤l.getD j 0∧l.getD j 0<p.ap)→Sep w [box b1 (aO p) 28] w2→((len:Int)-i).toNat=mm_→J prog 21 29 R K21_0 [(5,iv i),(2,pv b1),(1,.slice la len cap)] w2:=by
  intro mm1
  induction mm1 using Nat.strongRecOn with
  | _ mm1 ih1 =>
  intro i w2 h0 h1 hq S2 hm1
  refine J.c 8 [] [] [] 12 (i<(len:Int)) (fun fk2=>?_) fun fk2=>?_
  refine J.r 5 [true] [] [] ?_
  by_cases fk3:(l.getD (i).toNat 0)<0
  obtain ⟨p1,hp1,hc1⟩:=hI.at 0 (i).toNat om
  refine J.drawStill S2 14 Tryz.mixed kr kr kr ?_
  intro w3 S3
  refine SL.r 15 (.slice la len cap)<|SL.r 16 (iv i)<|SL.ok dE (OK.index 17 26 1 la p1 len (i).toNat i (p1.add (i).toNat) kr kr hp1 om om nO)<|SL.ok dE (OK.ldCell 18 3 (p1.add (i).toNat) (iv (l.getD (i).toNat 0)) kr kr (S3.cell hc1))<|SL.r 19 (.bool (decide ((l.getD (i).toNat 0)<0)))<|SL.head (.bool true) (congrArg Value.bool (decide_eq_true fk3))<|SL.r 20 (.bool true)<|SL.p (some 21)<|SL.p (some 22)<|SL.p (some 23)<|SL.p (some 24) ?_
  refine SL.p (some 25)<|SL.p (some 26)<|SL.p (some 27)<|SL.r 28 (.bool true)<|SL.done<|TL.done kr<|J.e 5 [.bool false] func21 (hR _ _ ?_)
  exact⟨congrArg Value.bool (cellsL_bad (j:=i.toNat) om om).symm,S3.nil⟩
  obtain ⟨p2,hp2,hc2⟩:=hI.at 0 (i).toNat om
  refine J.drawStill S2 14 Tryz.mixed kr kr kr ?_
  intro w4 S4
  refine SL.r 15 (.slice la len cap)<|SL.r 16 (iv i)<|SL.ok dE (OK.index 17 26 1 la p2 len (i).toNat i (p2.add (i).toNat) kr kr hp2 om om nO)<|SL.ok dE (OK.ldCell 18 3 (p2.add (i).toNat) (iv (l.getD (i).toNat 0)) kr kr (S4.cell hc2))<|SL.r 19 (.bool (decide ((l.getD (i).toNat 0)<0)))<|SL.head (.bool false) (congrArg Value.bool (decide_eq_false fk3))<|SL.r 20 (.bool false)<|SL.r 21 (.slice la len cap)<|SL.r 22 (iv i)<|SL.ok dE (OK.index 23 26 1 la p2 len (i).toNat i (p2.add (i).toNat) kr kr hp2 om om nO)<|SL.ok dE (OK.ldCell 24 3 (p2.add (i).toNat) (iv (l.getD (i).toNat 0)) kr kr (S4.cell hc2)) ?_
  refine SL.r 25 (.pointer (some ⟨b1,4,none⟩))<|SL.lb S4 0 rfl 26 (iv p.ap)<|SL.r 27 (.bool (decide ((l.getD (i).toNat 0)≥p.ap)))<|SL.r 28 (.bool (decide ((l.getD (i).toNat 0)≥p.ap)))<|SL.done<|TL.done kr<|J.c 0 [] [] [] 28 ((l.getD (i).toNat 0)≥p.ap) (fun fk4=>?_) fun fk4=>?_
  refine J.e 5 [.bool false] func21 (hR _ _ ?_)
  exact⟨congrArg Value.bool (cellsL_bad (j:=i.toNat) om om).symm,S4.nil⟩
  exact J.wi 6 [false] [] [] 14 (i+1)<|J.t 3 (ih1 _ (show((len:Int)-(i+1)).toNat<mm1 from by omega) (i+1) w4 om om (cW (q:=fun j=>0≤l.getD j 0∧l.getD j 0<p.ap) h0 hq om) S4 rfl)
  refine J.e 6 [.bool true] func21 (hR _ _ ?_)
  exact⟨congrArg Value.bool (cellsL_yes om fun j hj=>hq j om).symm,S2.nil⟩
 exact J.t 9 (L21_1 _ 0 w1 om om (by intro j hj;simp at hj) S1 rfl)

theorem eI {p:Prg} {i:Ins} (h:ec i.gOp) (hn:¬ (i.gK/16384<(p.am:Int)∧(i.gOp=9∨i.gOp=10∨i.gK/128%128<(p.am:Int))∧(i.gOp=13∨i.gOp=14∨i.gK%128<(p.am:Int)))):cm p i=false:=by
  unfold cm;(repeat first | rw[if_pos om] | rw[if_neg om]);rw[show tyOK p i.gOp i.gK=false from decide_eq_false om];rfl
theorem named_arith {p:Prg} {i:Ins} (h:i.gOp=5∨i.gOp=6∨i.gOp=7∨i.gOp=8) (hk:i.gK/16384<(p.am:Int)∧i.gK/128%128<(p.am:Int)∧i.gK%128<(p.am:Int)):cm p i=(unRB (i.gOp-4) (az (tyN p (i.gK/16384))) (az (tyN p (i.gK/128%128)))&&cj (dp (i.gOp-4) (az (tyN p (i.gK/16384))) (az (tyN p (i.gK/128%128)))) (az (tyN p (i.gK%128)))):=by
  have e0:tyOK p i.gOp i.gK=true:=dD.2 om
  obtain ⟨e1,e2,e3⟩:=ty_yes e0
  rw[if_pos om] at e2 e3
  unfold cm;(repeat first | rw[if_pos om] | rw[if_neg om]);rw[e0,Bool.true_and,e1,e2,e3]
  unfold cQ unRB dp
  rcases h with h | h | h | h<;>rw[h]<;>rfl
theorem named_one {p:Prg} {i:Ins} (h:i.gOp=9∨i.gOp=10) (hk:i.gK/16384<(p.am:Int)∧i.gK%128<(p.am:Int)):cm p i=cj (az (tyN p (i.gK/16384))) (az (tyN p (i.gK%128))):=by
  have e0:tyOK p i.gOp i.gK=true:=dD.2 om
  obtain ⟨e1,e2,e3⟩:=ty_yes e0
  rw[if_pos om] at e3
  unfold cm;(repeat first | rw[if_pos om] | rw[if_neg om]);rw[e0,Bool.true_and,e1,e3];unfold cQ;(repeat first | rw[if_pos om] | rw[if_neg om])
theorem named_cmp {p:Prg} {i:Ins} (h:i.gOp=13∨i.gOp=14) (hk:i.gK/16384<(p.am:Int)∧i.gK/128%128<(p.am:Int)):cm p i=cj (az (tyN p (i.gK/16384))) (az (tyN p (i.gK/128%128))):=by
  have e0:tyOK p i.gOp i.gK=true:=dD.2 om
  obtain ⟨e1,e2,e3⟩:=ty_yes e0
  rw[if_pos om] at e2
  unfold cm;(repeat first | rw[if_pos om] | rw[if_neg om]);rw[e0,Bool.true_and,e1,e2];unfold cQ;(repeat first | rw[if_pos om] | rw[if_neg om])
theorem hb20:af prog 20:=fun _ _=>by kernel_rfl
def K20_0:=List.drop 1 (adv 40 [] (bi Tryz.f20))
def K20_1:=List.drop 1 (adv 7 [false] K20_0)
def K20_2:=adv 21 [true,false] K20_1
def K20_3:=List.drop 1 (adv 7 [false] K20_1)
def K20_4:=List.drop 1 (adv 7 [false] K20_3)
theorem rnamed_any (p:Prg) (i:Ins) (w:World) (hp:prgQ w p) (hi:insQ w i) (hfm:formB i=true):Ret prog 20 #[.agg (dq p),.agg (dP i)] w (fun v w'=>v=.bool (cm p i)∧Sep w [] w'):=by
 refine Ret.st (N:=157) func20 fun R hR S0=>?_
 obtain ⟨q1,q2,q3,q4,q5,q6,q7,q8,q9,q10,q11,q12,q13,q14,q15,q16,q17,q18,q19,q20,q21,q22,q23,q24,q25,_⟩:=id hp
 have ql1:=q2.len_eq
 have ql2:=q5.len_eq
 have ql3:=q8.len_eq
 have ql4:=q11.len_eq
 have ql5:=q15.len_eq
 have ql6:=q18.len_eq
 have ql7:=q21.len_eq
 have ql8:=q24.len_eq
 obtain ⟨q26,q27,q28,q29,q30,_⟩:=id hi
 have hfp:=formB_iff.1 hfm
 refine J.nw 2 [] [] [] S0 2 (aO p) 28 fun b1 w1 S1=>J.nw 0 [] [] [] S1 3 (aZ i) 64 fun b2 w2 S2=>J.lb 5 [] [] [] S2 0 rfl 13 (iv i.gK) ?_
 by_cases fk1:i.gK≥0
 refine J.h 1 [] [] [] 14 (iv (if 0>i.gK then 0 else i.gK)) (iv i.gK) (congrArg (Value.int .i64) om)<|J.c0 0 [] [] [] S2 15 hb37 (rtypes_any i.gK _ om) fun w3 S3=>J.lb 11 [] [(7,iv (i.gK%128)),(6,iv (i.gK/128%128)),(5,iv (i.gK/16384))] [] S3 1 rfl 20 (.slice p.aJ p.am p.bj)<|J.lb 7 [] [(8,iv (p.am:Int))] [] S3 0 rfl 23 (iv i.gOp) ?_
 have X1:∀ (tj24:Bool) (w4:World),((tj24=true→(i.gOp=2∨i.gOp=3))∧(tj24=false→¬ (i.gOp=2∨i.gOp=3)))→Sep w [box b2 (aZ i) 64,box b1 (aO p) 28] w4→J prog 20 157 R K20_0 [(23,iv i.gOp),(8,iv (p.am:Int)),(7,iv (i.gK%128)),(6,iv (i.gK/128%128)),(5,iv (i.gK/16384)),(3,pv b2),(2,pv b1),(24,.bool tj24)] w4:=by
  intro tj24 w4 htj24 S4
  refine J.b 0 [] [] [] 24 tj24 (fun fk2=>?_) fun fk2=>?_
  have fb1:=htj24.1 fk2
  refine J.lb 4 [true] [] [] S4 0 rfl 28 (iv i.gK)<|J.lb 1 [] [] [] S4 1 rfl 30 (iv p.ap)<|J.e 3 [.bool (decide (i.gK<p.ap))] func20 (hR _ _ ?_)
  exact⟨congrArg Value.bool (by unfold cm;(repeat first | rw[if_pos om] | rw[if_neg om]);all_goals first | rfl | exact(decide_eq_true om).symm | exact(decide_eq_false om).symm),S4.nil⟩
  have fb2:=htj24.2 fk2
  have X2:∀ (tj32:Bool) (w5:World),((tj32=true→(i.gOp=5∨i.gOp=6∨i.gOp=7∨i.gOp=8))∧(tj32=false→¬ (i.gOp=5∨i.gOp=6∨i.gOp=7∨i.gOp=8)))→Sep w [box b2 (aZ i) 64,box b1 (aO p) 28] w5→J prog 20 157 R K20_1 [(23,iv i.gOp),(8,iv (p.am:Int)),(7,iv (i.gK%128)),(6,iv (i.gK/128%128)),(5,iv (i.gK/16384)),(3,pv b2),(2,pv b1),(32,.bool tj32)] w5:=by
   intro tj32 w5 htj32 S5
   refine J.b 0 [] [] [] 32 tj32 (fun fk3=>?_) fun fk3=>?_
   have fb3:=htj32.1 fk3
   refine J.c 8 [true] [] [] 40 ((i.gK/16384)≥(p.am:Int)) (fun fk4=>?_) fun fk4=>?_
   refine J.e 15 [.bool false] func20 (hR _ _ ?_)
   exact⟨congrArg Value.bool (eI om om).symm,S5.nil⟩
   refine J.c 5 [] [] [] 45 ((i.gK/128%128)≥(p.am:Int)) (fun fk5=>?_) fun fk5=>?_
   refine J.e 10 [.bool false] func20 (hR _ _ ?_)
   exact⟨congrArg Value.bool (eI om om).symm,S5.nil⟩
   refine J.c 5 [] [] [] 49 ((i.gK%128)≥(p.am:Int)) (fun fk6=>?_) fun fk6=>?_
   refine J.e 5 [.bool false] func20 (hR _ _ ?_)
   exact⟨congrArg Value.bool (eI om om).symm,S5.nil⟩
   refine J.r 3 [false] [] [] ?_
   obtain ⟨p1,hp1,hc1⟩:=q5.at fx0 (i.gK/16384).toNat om
   have hel1:=aP q6 fx0 (n:=(i.gK/16384).toNat) (by have:=q5.len_eq;omega)
   obtain ⟨q31,q32,q33,q34,q35,q36,q37,q38,q39,_⟩:=id hel1
   obtain ⟨p2,hp2,hc2⟩:=q5.at fx0 (i.gK/128%128).toNat om
   have hel2:=aP q6 fx0 (n:=(i.gK/128%128).toNat) (by have:=q5.len_eq;omega)
   obtain ⟨q40,q41,q42,q43,q44,q45,q46,q47,q48,_⟩:=id hel2
   have W1:∀ (bd19:Nat) (w6:World),Sep w [box bd19 (bu (dp (i.gOp-4) (az (tyN p (i.gK/16384))) (az (tyN p (i.gK/128%128))))) 52,box b2 (aZ i) 64,box b1 (aO p) 28] w6→WA prog 20 157 R K20_2 (fun w_=>Sep w [box b2 (aZ i) 64,box b1 (aO p) 28] w_) 0 #[true,true,true,true,true,true,true,true,true,true,true,true,true,true,true,true,true,true,true,true,true,true] [(2,pv b1),(7,iv (i.gK%128)),(9,pv bd19),(10,.bool (unRB (i.gOp-4) (az (tyN p (i.gK/16384))) (az (tyN p (i.gK/128%128)))))] w6:=by
    intro bd19 w6 S6
    refine WA.done kr<|J.r 1 [] [] [] ?_
    rcases Bool.eq_false_or_eq_true (unRB (i.gOp-4) (az (tyN p (i.gK/16384))) (az (tyN p (i.gK/128%128)))) with fk7 | fk7
    obtain ⟨p3,hp3,hc3⟩:=q5.at fx0 (i.gK%128).toNat om
    have hel3:=aP q6 fx0 (n:=(i.gK%128).toNat) (by have:=q5.len_eq;omega)
    obtain ⟨q49,q50,q51,q52,q53,q54,q55,q56,q57,_⟩:=id hel3
    refine J.drawStill S6 12 Tryz.mixed kr kr kr ?_
    intro w7 S7
    refine SL.r 69 (.bool (unRB (i.gOp-4) (az (tyN p (i.gK/16384))) (az (tyN p (i.gK/128%128)))))<|SL.head (.bool true) (congrArg Value.bool fk7)<|SL.r 70 (.bool true)<|SL.lb S7 0 rfl 71 (.agg (bD (dp (i.gOp-4) (az (tyN p (i.gK/16384))) (az (tyN p (i.gK/128%128))))))<|SL.r 72 (.pointer (some ⟨b1,1,none⟩))<|SL.lb S7 2 rfl 73 (.slice p.aJ p.am p.bj)<|SL.r 74 (iv (i.gK%128))<|SL.ok dE (OK.index 75 23 10 p.aJ p3 p.am (i.gK%128).toNat (i.gK%128) (p3.add ((i.gK%128).toNat*10)) kr kr hp3 om om rfl)<|SL.r 76 (.pointer (some ((p3.add ((i.gK%128).toNat*10)).add 5)))<|SL.ok dE (OK.ldCells 77 52 ((p3.add ((i.gK%128).toNat*10)).add 5) (fuC (p.av.getD (i.gK%128).toNat fx0)) kr kr kr (fun j_ v_ hj_=>by rw[de];exact((fun j_ v_ hj_=>S7.cell (hc3 j_ v_ hj_))) (5+j_) v_ (by rcases j_ with _ | _ | _ | _ | _ | j_<;>first | exact hj_ | (cases hj_;done) | (simp at hj_;done))))<|SL.ok dE (OK.eqUnt 78 (dp (i.gOp-4) (az (tyN p (i.gK/16384))) (az (tyN p (i.gK/128%128)))) (az (tyN p (i.gK%128))) kr) ?_
    refine SL.r 79 (.bool (cj (dp (i.gOp-4) (az (tyN p (i.gK/16384))) (az (tyN p (i.gK/128%128)))) (az (tyN p (i.gK%128)))))<|SL.r 4 (.bool (cj (dp (i.gOp-4) (az (tyN p (i.gK/16384))) (az (tyN p (i.gK/128%128)))) (az (tyN p (i.gK%128)))))<|SL.done<|TL.done kr<|J.e 0 [.bool (cj (dp (i.gOp-4) (az (tyN p (i.gK/16384))) (az (tyN p (i.gK/128%128)))) (az (tyN p (i.gK%128))))] func20 (hR _ _ ?_)
    exact⟨congrArg Value.bool (by rw[named_arith om om,fk7];rfl),S7.nil⟩
    refine J.drawStill S6 12 Tryz.mixed kr kr kr ?_
    intro w8 S8
    refine SL.r 69 (.bool (unRB (i.gOp-4) (az (tyN p (i.gK/16384))) (az (tyN p (i.gK/128%128)))))<|SL.head (.bool false) (congrArg Value.bool fk7)<|SL.r 70 (.bool false)<|SL.p (some 71)<|SL.p (some 72)<|SL.p (some 73)<|SL.p (some 74)<|SL.p (some 75)<|SL.p (some 76)<|SL.p (some 77)<|SL.p (some 78) ?_
    refine SL.r 79 (.bool false)<|SL.r 4 (.bool false)<|SL.done<|TL.done kr<|J.e 0 [.bool false] func20 (hR _ _ ?_)
    exact⟨congrArg Value.bool (by rw[named_arith om om,fk7];rfl),S8.nil⟩
   have W2:∀ (bd19:Nat) (w9:World),Sep w [box bd19 [iv 0,iv 0,iv 0,iv 0,iv 0] 52,box b2 (aZ i) 64,box b1 (aO p) 28] w9→WA prog 20 157 R K20_2 (fun w_=>Sep w [box b2 (aZ i) 64,box b1 (aO p) 28] w_) 2 #[true,true,true,true,true,true,true,true,true,true,true,true,true,true,true,true,true,true,true,true,false,false] [(2,pv b1),(7,iv (i.gK%128)),(9,pv bd19),(67,.agg (bD (dp (i.gOp-4) (az (tyN p (i.gK/16384))) (az (tyN p (i.gK/128%128)))))),(68,.bool (unRB (i.gOp-4) (az (tyN p (i.gK/16384))) (az (tyN p (i.gK/128%128)))))] w9:=by
    intro bd19 w9 S9
    refine WA.all [20] kr rfl ⟨?_,trivial⟩
    refine WO.set #[true,true,true,true,true,true,true,true,true,true,true,true,true,true,true,true,true,true,true,true,true,false] kr<|WO.stBox S9 0 52 0 (.agg (bD (dp (i.gOp-4) (az (tyN p (i.gK/16384))) (az (tyN p (i.gK/128%128)))))) (bu (dp (i.gOp-4) (az (tyN p (i.gK/16384))) (az (tyN p (i.gK/128%128))))) [box bd19 (bu (dp (i.gOp-4) (az (tyN p (i.gK/16384))) (az (tyN p (i.gK/128%128))))) 52,box b2 (aZ i) 64,box b1 (aO p) 28] kr rfl kr kr rfl ?_
    intro w10 S10
    exact WB.mk (S10.erase 0)<|WA.take 21 10 (.bool (unRB (i.gOp-4) (az (tyN p (i.gK/16384))) (az (tyN p (i.gK/128%128))))) #[true,true,true,true,true,true,true,true,true,true,true,true,true,true,true,true,true,true,true,true,true,true] kr kr kr (fun _ _=>kr) kr<|WA.weaken (env':=[(2,pv b1),(7,iv (i.gK%128)),(9,pv bd19),(10,.bool (unRB (i.gOp-4) (az (tyN p (i.gK/16384))) (az (tyN p (i.gK/128%128)))))]) kr<|W1 bd19 w10 S10
   have W3:∀ (w11:World),Sep w [box b2 (aZ i) 64,box b1 (aO p) 28] w11→WA prog 20 157 R K20_2 (fun w_=>Sep w [box b2 (aZ i) 64,box b1 (aO p) 28] w_) 3 #[true,true,true,true,true,true,true,true,true,true,true,true,true,true,true,true,true,true,true,false,false,false] [(2,pv b1),(7,iv (i.gK%128)),(67,.agg (bD (dp (i.gOp-4) (az (tyN p (i.gK/16384))) (az (tyN p (i.gK/128%128)))))),(68,.bool (unRB (i.gOp-4) (az (tyN p (i.gK/16384))) (az (tyN p (i.gK/128%128)))))] w11:=by
    intro w11 S11
    refine WA.all [19] kr rfl ⟨?_,trivial⟩
    refine WO.set #[true,true,true,true,true,true,true,true,true,true,true,true,true,true,true,true,true,true,true,true,false,false] kr<|WO.new S11 9 [iv 0,iv 0,iv 0,iv 0,iv 0] 52 kr ?_
    intro bd19 w12 S12
    exact WB.mk (S12.erase 0)<|WA.weaken (env':=[(2,pv b1),(7,iv (i.gK%128)),(9,pv bd19),(67,.agg (bD (dp (i.gOp-4) (az (tyN p (i.gK/16384))) (az (tyN p (i.gK/128%128)))))),(68,.bool (unRB (i.gOp-4) (az (tyN p (i.gK/16384))) (az (tyN p (i.gK/128%128)))))]) kr<|W2 bd19 w12 S12
   have W4:∀ (bd19:Nat) (w13:World),Sep w [box bd19 [iv 0,iv 0,iv 0,iv 0,iv 0] 52,box b2 (aZ i) 64,box b1 (aO p) 28] w13→WA prog 20 157 R K20_2 (fun w_=>Sep w [box b2 (aZ i) 64,box b1 (aO p) 28] w_) 6 #[true,true,true,true,true,true,true,true,true,true,true,true,true,true,true,false,false,false,false,true,false,false] [(2,pv b1),(7,iv (i.gK%128)),(9,pv bd19),(53,iv (i.gOp-4)),(59,.agg (fuA (p.av.getD (i.gK/16384).toNat fx0))),(65,.agg (fuA (p.av.getD (i.gK/128%128).toNat fx0)))] w13:=by
    intro bd19 w13 S13
    refine WA.all [15] kr rfl ⟨?_,trivial⟩
    refine WO.set #[true,true,true,true,true,true,true,true,true,true,true,true,true,true,true,true,false,false,false,true,false,false] kr<|WO.callF 66 38 #[iv (i.gOp-4),.agg (fuA (p.av.getD (i.gK/16384).toNat fx0)),.agg (fuA (p.av.getD (i.gK/128%128).toNat fx0))] hb38 kr (runits_any (i.gOp-4) (az (tyN p (i.gK/16384))) (az (tyN p (i.gK/128%128))) _) ?_
    rintro _ w14 ⟨rfl,T1⟩
    have S14:Sep w [box bd19 [iv 0,iv 0,iv 0,iv 0,iv 0] 52,box b2 (aZ i) 64,box b1 (aO p) 28] w14:=S13.trans T1
    clear T1 S13
    exact WB.mk (S14.erase 0)<|WA.take 16 50 (.tuple #[.agg (bD (dp (i.gOp-4) (az (tyN p (i.gK/16384))) (az (tyN p (i.gK/128%128))))),.bool (unRB (i.gOp-4) (az (tyN p (i.gK/16384))) (az (tyN p (i.gK/128%128))))]) #[true,true,true,true,true,true,true,true,true,true,true,true,true,true,true,true,true,false,false,true,false,false] kr kr kr (fun _ _=>kr) kr<|WA.take 17 67 (.agg (bD (dp (i.gOp-4) (az (tyN p (i.gK/16384))) (az (tyN p (i.gK/128%128)))))) #[true,true,true,true,true,true,true,true,true,true,true,true,true,true,true,true,true,true,false,true,false,false] kr kr kr (fun _ _=>kr) kr<|WA.take 18 68 (.bool (unRB (i.gOp-4) (az (tyN p (i.gK/16384))) (az (tyN p (i.gK/128%128))))) #[true,true,true,true,true,true,true,true,true,true,true,true,true,true,true,true,true,true,true,true,false,false] kr kr kr (fun _ _=>kr) kr<|WA.weaken (env':=[(2,pv b1),(7,iv (i.gK%128)),(9,pv bd19),(67,.agg (bD (dp (i.gOp-4) (az (tyN p (i.gK/16384))) (az (tyN p (i.gK/128%128)))))),(68,.bool (unRB (i.gOp-4) (az (tyN p (i.gK/16384))) (az (tyN p (i.gK/128%128)))))]) kr<|W2 bd19 w14 S14
   have W5:∀ (w15:World),Sep w [box b2 (aZ i) 64,box b1 (aO p) 28] w15→WA prog 20 157 R K20_2 (fun w_=>Sep w [box b2 (aZ i) 64,box b1 (aO p) 28] w_) 7 #[true,true,true,true,true,true,true,true,true,true,true,true,true,true,true,false,false,false,false,false,false,false] [(2,pv b1),(7,iv (i.gK%128)),(53,iv (i.gOp-4)),(59,.agg (fuA (p.av.getD (i.gK/16384).toNat fx0))),(65,.agg (fuA (p.av.getD (i.gK/128%128).toNat fx0)))] w15:=by
    intro w15 S15
    refine WA.all [15,19] kr rfl ⟨?_,?_,trivial⟩
    refine WO.set #[true,true,true,true,true,true,true,true,true,true,true,true,true,true,true,true,false,false,false,false,false,false] kr<|WO.callF 66 38 #[iv (i.gOp-4),.agg (fuA (p.av.getD (i.gK/16384).toNat fx0)),.agg (fuA (p.av.getD (i.gK/128%128).toNat fx0))] hb38 kr (runits_any (i.gOp-4) (az (tyN p (i.gK/16384))) (az (tyN p (i.gK/128%128))) _) ?_
    rintro _ w16 ⟨rfl,T2⟩
    have S16:Sep w [box b2 (aZ i) 64,box b1 (aO p) 28] w16:=S15.trans T2
    clear T2 S15
    exact WB.mk S16<|WA.take 16 50 (.tuple #[.agg (bD (dp (i.gOp-4) (az (tyN p (i.gK/16384))) (az (tyN p (i.gK/128%128))))),.bool (unRB (i.gOp-4) (az (tyN p (i.gK/16384))) (az (tyN p (i.gK/128%128))))]) #[true,true,true,true,true,true,true,true,true,true,true,true,true,true,true,true,true,false,false,false,false,false] kr kr kr (fun _ _=>kr) kr<|WA.take 17 67 (.agg (bD (dp (i.gOp-4) (az (tyN p (i.gK/16384))) (az (tyN p (i.gK/128%128)))))) #[true,true,true,true,true,true,true,true,true,true,true,true,true,true,true,true,true,true,false,false,false,false] kr kr kr (fun _ _=>kr) kr<|WA.take 18 68 (.bool (unRB (i.gOp-4) (az (tyN p (i.gK/16384))) (az (tyN p (i.gK/128%128))))) #[true,true,true,true,true,true,true,true,true,true,true,true,true,true,true,true,true,true,true,false,false,false] kr kr kr (fun _ _=>kr) kr<|WA.weaken (env':=[(2,pv b1),(7,iv (i.gK%128)),(67,.agg (bD (dp (i.gOp-4) (az (tyN p (i.gK/16384))) (az (tyN p (i.gK/128%128)))))),(68,.bool (unRB (i.gOp-4) (az (tyN p (i.gK/16384))) (az (tyN p (i.gK/128%128)))))]) kr<|W3 w16 S16
    refine WO.set #[true,true,true,true,true,true,true,true,true,true,true,true,true,true,true,false,false,false,false,true,false,false] kr<|WO.new S15 9 [iv 0,iv 0,iv 0,iv 0,iv 0] 52 kr ?_
    intro bd19 w17 S17
    exact WB.mk (S17.erase 0)<|WA.weaken (env':=[(2,pv b1),(7,iv (i.gK%128)),(9,pv bd19),(53,iv (i.gOp-4)),(59,.agg (fuA (p.av.getD (i.gK/16384).toNat fx0))),(65,.agg (fuA (p.av.getD (i.gK/128%128).toNat fx0)))]) kr<|W4 bd19 w17 S17
   refine J.drawAny (fun w_=>Sep w [box b2 (aZ i) 64,box b1 (aO p) 28] w_) S5 22 #[false,false,false,false,false,false,false,false,false,false,false,false,false,false,false,false,false,false,false,false,false,false] Tryz.mixed kr kr kr ?_
   intro w18 S18
   refine WB.mk S18<|WA.take 0 51 (pv b2) #[true,false,false,false,false,false,false,false,false,false,false,false,false,false,false,false,false,false,false,false,false,false] kr kr kr (fun _ _=>kr) kr<|WA.takeOK 1 #[true,true,false,false,false,false,false,false,false,false,false,false,false,false,false,false,false,false,false,false,false,false] kr kr kr kr (fun w_ S_=>OK.ldBox S_ 0 52 3 0 (iv i.gOp) kr rfl kr) rfl<|WA.take 2 53 (iv (IntKind.wrap .i64 (i.gOp-4))) #[true,true,true,false,false,false,false,false,false,false,false,false,false,false,false,false,false,false,false,false,false,false] kr kr kr (fun _ _=>kr) kr<|WA.head (iv (i.gOp-4)) (congrArg (Value.int .i64) (IntWalk.i64_in _ om))<|WA.take 3 54 (.pointer (some ⟨b1,1,none⟩)) #[true,true,true,true,false,false,false,false,false,false,false,false,false,false,false,false,false,false,false,false,false,false] kr kr kr (fun _ _=>kr) kr<|WA.takeOK 4 #[true,true,true,true,true,false,false,false,false,false,false,false,false,false,false,false,false,false,false,false,false,false] kr kr kr kr (fun w_ S_=>OK.ldBox S_ 1 55 23 1 (.slice p.aJ p.am p.bj) kr rfl kr) rfl<|WA.take 5 56 (iv (i.gK/16384)) #[true,true,true,true,true,true,false,false,false,false,false,false,false,false,false,false,false,false,false,false,false,false] kr kr kr (fun _ _=>kr) kr<|WA.takeOK 6 #[true,true,true,true,true,true,true,false,false,false,false,false,false,false,false,false,false,false,false,false,false,false] kr kr kr kr (fun w_ S_=>OK.index 57 23 10 p.aJ p1 p.am (i.gK/16384).toNat (i.gK/16384) (p1.add ((i.gK/16384).toNat*10)) kr kr hp1 om om rfl) rfl<|WA.take 7 58 (.pointer (some ((p1.add ((i.gK/16384).toNat*10)).add 5))) #[true,true,true,true,true,true,true,true,false,false,false,false,false,false,false,false,false,false,false,false,false,false] kr kr kr (fun _ _=>kr) kr<|WA.takeOK 8 #[true,true,true,true,true,true,true,true,true,false,false,false,false,false,false,false,false,false,false,false,false,false] kr kr kr kr (fun w_ S_=>OK.ldCells 59 52 ((p1.add ((i.gK/16384).toNat*10)).add 5) (fuC (p.av.getD (i.gK/16384).toNat fx0)) kr kr kr (fun j_ v_ hj_=>by rw[de];exact((fun j_ v_ hj_=>S_.cell (hc1 j_ v_ hj_))) (5+j_) v_ (by rcases j_ with _ | _ | _ | _ | _ | j_<;>first | exact hj_ | (cases hj_;done) | (simp at hj_;done)))) rfl ?_
   exact WA.take 9 60 (.pointer (some ⟨b1,1,none⟩)) #[true,true,true,true,true,true,true,true,true,true,false,false,false,false,false,false,false,false,false,false,false,false] kr kr kr (fun _ _=>kr) kr<|WA.takeOK 10 #[true,true,true,true,true,true,true,true,true,true,true,false,false,false,false,false,false,false,false,false,false,false] kr kr kr kr (fun w_ S_=>OK.ldBox S_ 1 61 23 1 (.slice p.aJ p.am p.bj) kr rfl kr) rfl<|WA.take 11 62 (iv (i.gK/128%128)) #[true,true,true,true,true,true,true,true,true,true,true,true,false,false,false,false,false,false,false,false,false,false] kr kr kr (fun _ _=>kr) kr<|WA.takeOK 12 #[true,true,true,true,true,true,true,true,true,true,true,true,true,false,false,false,false,false,false,false,false,false] kr kr kr kr (fun w_ S_=>OK.index 63 23 10 p.aJ p2 p.am (i.gK/128%128).toNat (i.gK/128%128) (p2.add ((i.gK/128%128).toNat*10)) kr kr hp2 om om rfl) rfl<|WA.take 13 64 (.pointer (some ((p2.add ((i.gK/128%128).toNat*10)).add 5))) #[true,true,true,true,true,true,true,true,true,true,true,true,true,true,false,false,false,false,false,false,false,false] kr kr kr (fun _ _=>kr) kr<|WA.takeOK 14 #[true,true,true,true,true,true,true,true,true,true,true,true,true,true,true,false,false,false,false,false,false,false] kr kr kr kr (fun w_ S_=>OK.ldCells 65 52 ((p2.add ((i.gK/128%128).toNat*10)).add 5) (fuC (p.av.getD (i.gK/128%128).toNat fx0)) kr kr kr (fun j_ v_ hj_=>by rw[de];exact((fun j_ v_ hj_=>S_.cell (hc2 j_ v_ hj_))) (5+j_) v_ (by rcases j_ with _ | _ | _ | _ | _ | j_<;>first | exact hj_ | (cases hj_;done) | (simp at hj_;done)))) rfl<|WA.weaken (env':=[(2,pv b1),(7,iv (i.gK%128)),(53,iv (i.gOp-4)),(59,.agg (fuA (p.av.getD (i.gK/16384).toNat fx0))),(65,.agg (fuA (p.av.getD (i.gK/128%128).toNat fx0)))]) kr<|W5 w18 S18
   have fb4:=htj32.2 fk3
   have X3:∀ (tj80:Bool) (w19:World),((tj80=true→(i.gOp=9∨i.gOp=10))∧(tj80=false→¬ (i.gOp=9∨i.gOp=10)))→Sep w [box b2 (aZ i) 64,box b1 (aO p) 28] w19→J prog 20 157 R K20_3 [(23,iv i.gOp),(8,iv (p.am:Int)),(7,iv (i.gK%128)),(6,iv (i.gK/128%128)),(5,iv (i.gK/16384)),(3,pv b2),(2,pv b1),(80,.bool tj80)] w19:=by
    intro tj80 w19 htj80 S19
    refine J.b 0 [] [] [] 80 tj80 (fun fk8=>?_) fun fk8=>?_
    have fb5:=htj80.1 fk8
    refine J.r 2 [true] [] [] ?_
    by_cases fk9:(i.gK/16384)<(p.am:Int)
    by_cases fk10:(i.gK%128)<(p.am:Int)
    obtain ⟨p4,hp4,hc4⟩:=q5.at fx0 (i.gK/16384).toNat om
    have hel4:=aP q6 fx0 (n:=(i.gK/16384).toNat) (by have:=q5.len_eq;omega)
    obtain ⟨q58,q59,q60,q61,q62,q63,q64,q65,q66,_⟩:=id hel4
    obtain ⟨p5,hp5,hc5⟩:=q5.at fx0 (i.gK%128).toNat om
    have hel5:=aP q6 fx0 (n:=(i.gK%128).toNat) (by have:=q5.len_eq;omega)
    obtain ⟨q67,q68,q69,q70,q71,q72,q73,q74,q75,_⟩:=id hel5
    refine J.drawStill S19 24 Tryz.mixed kr kr kr ?_
    intro w20 S20
    refine SL.r 83 (iv (i.gK/16384))<|SL.r 84 (iv (p.am:Int))<|SL.r 85 (.bool (decide ((i.gK/16384)<(p.am:Int))))<|SL.head (.bool true) (congrArg Value.bool (decide_eq_true fk9))<|SL.r 86 (.bool true)<|SL.r 87 (iv (i.gK%128))<|SL.r 88 (iv (p.am:Int))<|SL.r 89 (.bool (decide ((i.gK%128)<(p.am:Int))))<|SL.head (.bool true) (congrArg Value.bool (decide_eq_true fk10))<|SL.r 90 (.bool true)<|SL.r 91 (.bool true) ?_
    refine SL.r 92 (.pointer (some ⟨b1,1,none⟩))<|SL.lb S20 1 rfl 93 (.slice p.aJ p.am p.bj)<|SL.r 94 (iv (i.gK/16384))<|SL.ok dE (OK.index 95 23 10 p.aJ p4 p.am (i.gK/16384).toNat (i.gK/16384) (p4.add ((i.gK/16384).toNat*10)) kr kr hp4 om om rfl)<|SL.r 96 (.pointer (some ((p4.add ((i.gK/16384).toNat*10)).add 5)))<|SL.ok dE (OK.ldCells 97 52 ((p4.add ((i.gK/16384).toNat*10)).add 5) (fuC (p.av.getD (i.gK/16384).toNat fx0)) kr kr kr (fun j_ v_ hj_=>by rw[de];exact((fun j_ v_ hj_=>S20.cell (hc4 j_ v_ hj_))) (5+j_) v_ (by rcases j_ with _ | _ | _ | _ | _ | j_<;>first | exact hj_ | (cases hj_;done) | (simp at hj_;done))))<|SL.r 98 (.pointer (some ⟨b1,1,none⟩))<|SL.lb S20 1 rfl 99 (.slice p.aJ p.am p.bj)<|SL.r 100 (iv (i.gK%128))<|SL.ok dE (OK.index 101 23 10 p.aJ p5 p.am (i.gK%128).toNat (i.gK%128) (p5.add ((i.gK%128).toNat*10)) kr kr hp5 om om rfl)<|SL.r 102 (.pointer (some ((p5.add ((i.gK%128).toNat*10)).add 5))) ?_
    refine SL.ok dE (OK.ldCells 103 52 ((p5.add ((i.gK%128).toNat*10)).add 5) (fuC (p.av.getD (i.gK%128).toNat fx0)) kr kr kr (fun j_ v_ hj_=>by rw[de];exact((fun j_ v_ hj_=>S20.cell (hc5 j_ v_ hj_))) (5+j_) v_ (by rcases j_ with _ | _ | _ | _ | _ | j_<;>first | exact hj_ | (cases hj_;done) | (simp at hj_;done))))<|SL.ok dE (OK.eqUnt 104 (az (tyN p (i.gK/16384))) (az (tyN p (i.gK%128))) kr)<|SL.r 105 (.bool (cj (az (tyN p (i.gK/16384))) (az (tyN p (i.gK%128)))))<|SL.r 4 (.bool (cj (az (tyN p (i.gK/16384))) (az (tyN p (i.gK%128)))))<|SL.done<|TL.done kr<|J.e 0 [.bool (cj (az (tyN p (i.gK/16384))) (az (tyN p (i.gK%128))))] func20 (hR _ _ ?_)
    exact⟨congrArg Value.bool (named_one om om).symm,S20.nil⟩
    refine J.drawStill S19 24 Tryz.mixed kr kr kr ?_
    intro w21 S21
    refine SL.r 83 (iv (i.gK/16384))<|SL.r 84 (iv (p.am:Int))<|SL.r 85 (.bool (decide ((i.gK/16384)<(p.am:Int))))<|SL.head (.bool true) (congrArg Value.bool (decide_eq_true fk9))<|SL.r 86 (.bool true)<|SL.r 87 (iv (i.gK%128))<|SL.r 88 (iv (p.am:Int))<|SL.r 89 (.bool (decide ((i.gK%128)<(p.am:Int))))<|SL.head (.bool false) (congrArg Value.bool (decide_eq_false fk10))<|SL.r 90 (.bool false)<|SL.r 91 (.bool false) ?_
    refine SL.p (some 92)<|SL.p (some 93)<|SL.p (some 94)<|SL.p (some 95)<|SL.p (some 96)<|SL.p (some 97)<|SL.p (some 98)<|SL.p (some 99)<|SL.p (some 100)<|SL.p (some 101)<|SL.p (some 102) ?_
    refine SL.p (some 103)<|SL.p (some 104)<|SL.r 105 (.bool false)<|SL.r 4 (.bool false)<|SL.done<|TL.done kr<|J.e 0 [.bool false] func20 (hR _ _ ?_)
    exact⟨congrArg Value.bool (eI om om).symm,S21.nil⟩
    refine J.drawStill S19 24 Tryz.mixed kr kr kr ?_
    intro w22 S22
    refine SL.r 83 (iv (i.gK/16384))<|SL.r 84 (iv (p.am:Int))<|SL.r 85 (.bool (decide ((i.gK/16384)<(p.am:Int))))<|SL.head (.bool false) (congrArg Value.bool (decide_eq_false fk9))<|SL.r 86 (.bool false)<|SL.p (some 87)<|SL.p (some 88)<|SL.p (some 89)<|SL.r 90 (.bool false)<|SL.r 91 (.bool false)<|SL.p (some 92) ?_
    refine SL.p (some 93)<|SL.p (some 94)<|SL.p (some 95)<|SL.p (some 96)<|SL.p (some 97)<|SL.p (some 98)<|SL.p (some 99)<|SL.p (some 100)<|SL.p (some 101)<|SL.p (some 102)<|SL.p (some 103) ?_
    refine SL.p (some 104)<|SL.r 105 (.bool false)<|SL.r 4 (.bool false)<|SL.done<|TL.done kr<|J.e 0 [.bool false] func20 (hR _ _ ?_)
    exact⟨congrArg Value.bool (eI om om).symm,S22.nil⟩
    have fb6:=htj80.2 fk8
    have X4:∀ (tj106:Bool) (w23:World),((tj106=true→(i.gOp=13∨i.gOp=14))∧(tj106=false→¬ (i.gOp=13∨i.gOp=14)))→Sep w [box b2 (aZ i) 64,box b1 (aO p) 28] w23→J prog 20 157 R K20_4 [(23,iv i.gOp),(8,iv (p.am:Int)),(6,iv (i.gK/128%128)),(5,iv (i.gK/16384)),(3,pv b2),(2,pv b1),(106,.bool tj106)] w23:=by
     intro tj106 w23 htj106 S23
     refine J.b 0 [] [] [] 106 tj106 (fun fk11=>?_) fun fk11=>?_
     have fb7:=htj106.1 fk11
     refine J.r 2 [true] [] [] ?_
     by_cases fk12:(i.gK/16384)<(p.am:Int)
     by_cases fk13:(i.gK/128%128)<(p.am:Int)
     obtain ⟨p6,hp6,hc6⟩:=q5.at fx0 (i.gK/16384).toNat om
     have hel6:=aP q6 fx0 (n:=(i.gK/16384).toNat) (by have:=q5.len_eq;omega)
     obtain ⟨q76,q77,q78,q79,q80,q81,q82,q83,q84,_⟩:=id hel6
     obtain ⟨p7,hp7,hc7⟩:=q5.at fx0 (i.gK/128%128).toNat om
     have hel7:=aP q6 fx0 (n:=(i.gK/128%128).toNat) (by have:=q5.len_eq;omega)
     obtain ⟨q85,q86,q87,q88,q89,q90,q91,q92,q93,_⟩:=id hel7
     refine J.drawStill S23 24 Tryz.mixed kr kr kr ?_
     intro w24 S24
     refine SL.r 109 (iv (i.gK/16384))<|SL.r 110 (iv (p.am:Int))<|SL.r 111 (.bool (decide ((i.gK/16384)<(p.am:Int))))<|SL.head (.bool true) (congrArg Value.bool (decide_eq_true fk12))<|SL.r 112 (.bool true)<|SL.r 113 (iv (i.gK/128%128))<|SL.r 114 (iv (p.am:Int))<|SL.r 115 (.bool (decide ((i.gK/128%128)<(p.am:Int))))<|SL.head (.bool true) (congrArg Value.bool (decide_eq_true fk13))<|SL.r 116 (.bool true)<|SL.r 117 (.bool true) ?_
     refine SL.r 118 (.pointer (some ⟨b1,1,none⟩))<|SL.lb S24 1 rfl 119 (.slice p.aJ p.am p.bj)<|SL.r 120 (iv (i.gK/16384))<|SL.ok dE (OK.index 121 23 10 p.aJ p6 p.am (i.gK/16384).toNat (i.gK/16384) (p6.add ((i.gK/16384).toNat*10)) kr kr hp6 om om rfl)<|SL.r 122 (.pointer (some ((p6.add ((i.gK/16384).toNat*10)).add 5)))<|SL.ok dE (OK.ldCells 123 52 ((p6.add ((i.gK/16384).toNat*10)).add 5) (fuC (p.av.getD (i.gK/16384).toNat fx0)) kr kr kr (fun j_ v_ hj_=>by rw[de];exact((fun j_ v_ hj_=>S24.cell (hc6 j_ v_ hj_))) (5+j_) v_ (by rcases j_ with _ | _ | _ | _ | _ | j_<;>first | exact hj_ | (cases hj_;done) | (simp at hj_;done))))<|SL.r 124 (.pointer (some ⟨b1,1,none⟩))<|SL.lb S24 1 rfl 125 (.slice p.aJ p.am p.bj)<|SL.r 126 (iv (i.gK/128%128))<|SL.ok dE (OK.index 127 23 10 p.aJ p7 p.am (i.gK/128%128).toNat (i.gK/128%128) (p7.add ((i.gK/128%128).toNat*10)) kr kr hp7 om om rfl)<|SL.r 128 (.pointer (some ((p7.add ((i.gK/128%128).toNat*10)).add 5))) ?_
     refine SL.ok dE (OK.ldCells 129 52 ((p7.add ((i.gK/128%128).toNat*10)).add 5) (fuC (p.av.getD (i.gK/128%128).toNat fx0)) kr kr kr (fun j_ v_ hj_=>by rw[de];exact((fun j_ v_ hj_=>S24.cell (hc7 j_ v_ hj_))) (5+j_) v_ (by rcases j_ with _ | _ | _ | _ | _ | j_<;>first | exact hj_ | (cases hj_;done) | (simp at hj_;done))))<|SL.ok dE (OK.eqUnt 130 (az (tyN p (i.gK/16384))) (az (tyN p (i.gK/128%128))) kr)<|SL.r 131 (.bool (cj (az (tyN p (i.gK/16384))) (az (tyN p (i.gK/128%128)))))<|SL.r 4 (.bool (cj (az (tyN p (i.gK/16384))) (az (tyN p (i.gK/128%128)))))<|SL.done<|TL.done kr<|J.e 0 [.bool (cj (az (tyN p (i.gK/16384))) (az (tyN p (i.gK/128%128))))] func20 (hR _ _ ?_)
     exact⟨congrArg Value.bool (named_cmp om om).symm,S24.nil⟩
     refine J.drawStill S23 24 Tryz.mixed kr kr kr ?_
     intro w25 S25
     refine SL.r 109 (iv (i.gK/16384))<|SL.r 110 (iv (p.am:Int))<|SL.r 111 (.bool (decide ((i.gK/16384)<(p.am:Int))))<|SL.head (.bool true) (congrArg Value.bool (decide_eq_true fk12))<|SL.r 112 (.bool true)<|SL.r 113 (iv (i.gK/128%128))<|SL.r 114 (iv (p.am:Int))<|SL.r 115 (.bool (decide ((i.gK/128%128)<(p.am:Int))))<|SL.head (.bool false) (congrArg Value.bool (decide_eq_false fk13))<|SL.r 116 (.bool false)<|SL.r 117 (.bool false) ?_
     refine SL.p (some 118)<|SL.p (some 119)<|SL.p (some 120)<|SL.p (some 121)<|SL.p (some 122)<|SL.p (some 123)<|SL.p (some 124)<|SL.p (some 125)<|SL.p (some 126)<|SL.p (some 127)<|SL.p (some 128) ?_
     refine SL.p (some 129)<|SL.p (some 130)<|SL.r 131 (.bool false)<|SL.r 4 (.bool false)<|SL.done<|TL.done kr<|J.e 0 [.bool false] func20 (hR _ _ ?_)
     exact⟨congrArg Value.bool (eI om om).symm,S25.nil⟩
     refine J.drawStill S23 24 Tryz.mixed kr kr kr ?_
     intro w26 S26
     refine SL.r 109 (iv (i.gK/16384))<|SL.r 110 (iv (p.am:Int))<|SL.r 111 (.bool (decide ((i.gK/16384)<(p.am:Int))))<|SL.head (.bool false) (congrArg Value.bool (decide_eq_false fk12))<|SL.r 112 (.bool false)<|SL.p (some 113)<|SL.p (some 114)<|SL.p (some 115)<|SL.r 116 (.bool false)<|SL.r 117 (.bool false)<|SL.p (some 118) ?_
     refine SL.p (some 119)<|SL.p (some 120)<|SL.p (some 121)<|SL.p (some 122)<|SL.p (some 123)<|SL.p (some 124)<|SL.p (some 125)<|SL.p (some 126)<|SL.p (some 127)<|SL.p (some 128)<|SL.p (some 129) ?_
     refine SL.p (some 130)<|SL.r 131 (.bool false)<|SL.r 4 (.bool false)<|SL.done<|TL.done kr<|J.e 0 [.bool false] func20 (hR _ _ ?_)
     exact⟨congrArg Value.bool (eI om om).symm,S26.nil⟩
     have fb8:=htj106.2 fk11
     refine J.c 6 [false] [] [] 132 (i.gOp=20) (fun fk14=>?_) fun fk14=>?_
     refine J.lb 4 [true] [] [] S23 0 rfl 135 (iv i.gK)<|J.lb 1 [] [] [] S23 1 rfl 137 (.slice p.ce p.br p.cu)<|J.e 4 [.bool (decide (i.gK<(p.br:Int)))] func20 (hR _ _ ?_)
     exact⟨congrArg Value.bool (by unfold cm;(repeat first | rw[if_pos om] | rw[if_neg om]);all_goals first | rfl | exact(decide_eq_true om).symm | exact(decide_eq_false om).symm),S23.nil⟩
     refine J.c 6 [false] [] [] 140 (i.gOp=21) (fun fk15=>?_) fun fk15=>?_
     refine J.lb 4 [true] [] [] S23 0 rfl 143 (iv i.gK)<|J.lb 1 [] [] [] S23 1 rfl 145 (.slice p.dc p.bO p.dz)<|J.e 4 [.bool (decide (i.gK<(p.bO:Int)))] func20 (hR _ _ ?_)
     exact⟨congrArg Value.bool (by unfold cm;(repeat first | rw[if_pos om] | rw[if_neg om]);all_goals first | rfl | exact(decide_eq_true om).symm | exact(decide_eq_false om).symm),S23.nil⟩
     refine J.c 6 [false] [] [] 148 (i.gOp=22) (fun fk16=>?_) fun fk16=>?_
     refine J.lb 4 [true] [] [] S23 0 rfl 151 (iv i.gK)<|J.h 1 [] [] [] 152 (iv (IntKind.wrap .i64 (Int.tdiv i.gK 32))) (iv (i.gK/32)) (congrArg (Value.int .i64) (IntWalk.i64_quo _ _ om))<|J.wi 1 [] [] [] 153 ((i.gK/32)+1)<|J.lb 1 [] [] [] S23 1 rfl 155 (iv p.ap)<|J.e 3 [.bool (decide (((i.gK/32)+1)<p.ap))] func20 (hR _ _ ?_)
     exact⟨congrArg Value.bool (by unfold cm;(repeat first | rw[if_pos om] | rw[if_neg om]);all_goals first | rfl | exact(decide_eq_true om).symm | exact(decide_eq_false om).symm),S23.nil⟩
     refine J.e 7 [.bool true] func20 (hR _ _ ?_)
     exact⟨congrArg Value.bool (by unfold cm;(repeat first | rw[if_pos om] | rw[if_neg om]);all_goals first | rfl | exact(decide_eq_true om).symm | exact(decide_eq_false om).symm),S23.nil⟩
    refine J.c 7 [false] [] [] 106 (i.gOp=13) (fun fk17=>?_) fun fk17=>?_
    exact J.t 2 (X4 true w19 (⟨fun h_=>by first | (cases h_;done) | (have h2_:=of_decide_eq_true h_;omega) | (have h2_:=beq_iff_eq.1 h_;omega) | omega,fun h_=>by first | (cases h_;done) | (have h2_:=of_decide_eq_false h_;omega) | (have h2_:=beq_eq_false_iff_ne.1 h_;omega) | omega⟩) S19)
    exact J.t 5 (X4 (i.gOp==14) w19 (⟨fun h_=>by first | (cases h_;done) | (have h2_:=of_decide_eq_true h_;omega) | (have h2_:=beq_iff_eq.1 h_;omega) | omega,fun h_=>by first | (cases h_;done) | (have h2_:=of_decide_eq_false h_;omega) | (have h2_:=beq_eq_false_iff_ne.1 h_;omega) | omega⟩) S19)
   refine J.c 7 [false] [] [] 80 (i.gOp=9) (fun fk18=>?_) fun fk18=>?_
   exact J.t 2 (X3 true w5 (⟨fun h_=>by first | (cases h_;done) | (have h2_:=of_decide_eq_true h_;omega) | (have h2_:=beq_iff_eq.1 h_;omega) | omega,fun h_=>by first | (cases h_;done) | (have h2_:=of_decide_eq_false h_;omega) | (have h2_:=beq_eq_false_iff_ne.1 h_;omega) | omega⟩) S5)
   exact J.t 5 (X3 (i.gOp==10) w5 (⟨fun h_=>by first | (cases h_;done) | (have h2_:=of_decide_eq_true h_;omega) | (have h2_:=beq_iff_eq.1 h_;omega) | omega,fun h_=>by first | (cases h_;done) | (have h2_:=of_decide_eq_false h_;omega) | (have h2_:=beq_eq_false_iff_ne.1 h_;omega) | omega⟩) S5)
  refine J.c 7 [false] [] [] 32 (i.gOp=5) (fun fk19=>?_) fun fk19=>?_
  exact J.t 2 (X2 true w4 (⟨fun h_=>by first | (cases h_;done) | (have h2_:=of_decide_eq_true h_;omega) | (have h2_:=beq_iff_eq.1 h_;omega) | omega,fun h_=>by first | (cases h_;done) | (have h2_:=of_decide_eq_false h_;omega) | (have h2_:=beq_eq_false_iff_ne.1 h_;omega) | omega⟩) S4)
  refine J.c 6 [false] [] [32] 32 (i.gOp=6) (fun fk20=>?_) fun fk20=>?_
  exact J.t 2 (X2 true w4 (⟨fun h_=>by first | (cases h_;done) | (have h2_:=of_decide_eq_true h_;omega) | (have h2_:=beq_iff_eq.1 h_;omega) | omega,fun h_=>by first | (cases h_;done) | (have h2_:=of_decide_eq_false h_;omega) | (have h2_:=beq_eq_false_iff_ne.1 h_;omega) | omega⟩) S4)
  refine J.c 6 [false] [] [32] 32 (i.gOp=7) (fun fk21=>?_) fun fk21=>?_
  exact J.t 2 (X2 true w4 (⟨fun h_=>by first | (cases h_;done) | (have h2_:=of_decide_eq_true h_;omega) | (have h2_:=beq_iff_eq.1 h_;omega) | omega,fun h_=>by first | (cases h_;done) | (have h2_:=of_decide_eq_false h_;omega) | (have h2_:=beq_eq_false_iff_ne.1 h_;omega) | omega⟩) S4)
  exact J.t 5 (X2 (i.gOp==8) w4 (⟨fun h_=>by first | (cases h_;done) | (have h2_:=of_decide_eq_true h_;omega) | (have h2_:=beq_iff_eq.1 h_;omega) | omega,fun h_=>by first | (cases h_;done) | (have h2_:=of_decide_eq_false h_;omega) | (have h2_:=beq_eq_false_iff_ne.1 h_;omega) | omega⟩) S4)
 refine J.c 8 [] [] [] 24 (i.gOp=2) (fun fk22=>?_) fun fk22=>?_
 exact J.t 2 (X1 true w3 (⟨fun h_=>by first | (cases h_;done) | (have h2_:=of_decide_eq_true h_;omega) | (have h2_:=beq_iff_eq.1 h_;omega) | omega,fun h_=>by first | (cases h_;done) | (have h2_:=of_decide_eq_false h_;omega) | (have h2_:=beq_eq_false_iff_ne.1 h_;omega) | omega⟩) S3)
 exact J.t 5 (X1 (i.gOp==3) w3 (⟨fun h_=>by first | (cases h_;done) | (have h2_:=of_decide_eq_true h_;omega) | (have h2_:=beq_iff_eq.1 h_;omega) | omega,fun h_=>by first | (cases h_;done) | (have h2_:=of_decide_eq_false h_;omega) | (have h2_:=beq_eq_false_iff_ne.1 h_;omega) | omega⟩) S3)
 refine J.h 1 [] [] [] 14 (iv (if 0>i.gK then 0 else i.gK)) (iv 0) (congrArg (Value.int .i64) om)<|J.c0 0 [] [] [] S2 15 hb37 (rtypes_any 0 _ om) fun w27 S27=>J.lb 11 [] [(7,iv (0%128)),(6,iv (0/128%128)),(5,iv (0/16384))] [] S27 1 rfl 20 (.slice p.aJ p.am p.bj)<|J.lb 7 [] [(8,iv (p.am:Int))] [] S27 0 rfl 23 (iv i.gOp) ?_
 have fk24:¬ (i.gOp=2):=by omega
 refine J.h 8 [] [] [] 24 (.bool (i.gOp==2)) (.bool false) (congrArg Value.bool (beq_eq_false_iff_ne.2 fk24)) ?_
 have fk26:¬ (i.gOp=3):=by omega
 refine J.h 5 [false] [] [24] 24 (.bool (i.gOp==3)) (.bool false) (congrArg Value.bool (beq_eq_false_iff_ne.2 fk26)) ?_
 have fk28:¬ (i.gOp=5):=by omega
 refine J.h 7 [false] [] [] 32 (.bool (i.gOp==5)) (.bool false) (congrArg Value.bool (beq_eq_false_iff_ne.2 fk28)) ?_
 have fk30:¬ (i.gOp=6):=by omega
 refine J.h 6 [false] [] [32] 32 (.bool (i.gOp==6)) (.bool false) (congrArg Value.bool (beq_eq_false_iff_ne.2 fk30)) ?_
 have fk32:¬ (i.gOp=7):=by omega
 refine J.h 6 [false] [] [32] 32 (.bool (i.gOp==7)) (.bool false) (congrArg Value.bool (beq_eq_false_iff_ne.2 fk32)) ?_
 have fk34:¬ (i.gOp=8):=by omega
 refine J.h 5 [false] [] [32] 32 (.bool (i.gOp==8)) (.bool false) (congrArg Value.bool (beq_eq_false_iff_ne.2 fk34)) ?_
 have fk36:¬ (i.gOp=9):=by omega
 refine J.h 7 [false] [] [] 80 (.bool (i.gOp==9)) (.bool false) (congrArg Value.bool (beq_eq_false_iff_ne.2 fk36)) ?_
 have fk38:¬ (i.gOp=10):=by omega
 refine J.h 5 [false] [] [80] 80 (.bool (i.gOp==10)) (.bool false) (congrArg Value.bool (beq_eq_false_iff_ne.2 fk38)) ?_
 have fk40:¬ (i.gOp=13):=by omega
 refine J.h 7 [false] [] [] 106 (.bool (i.gOp==13)) (.bool false) (congrArg Value.bool (beq_eq_false_iff_ne.2 fk40)) ?_
 have fk42:¬ (i.gOp=14):=by omega
 refine J.h 5 [false] [] [106] 106 (.bool (i.gOp==14)) (.bool false) (congrArg Value.bool (beq_eq_false_iff_ne.2 fk42)) ?_
 have fk44:¬ (i.gOp=20):=by omega
 refine J.h 6 [false] [] [] 132 (.bool (i.gOp==20)) (.bool false) (congrArg Value.bool (beq_eq_false_iff_ne.2 fk44)) ?_
 have fk46:¬ (i.gOp=21):=by omega
 refine J.h 6 [false] [] [] 140 (.bool (i.gOp==21)) (.bool false) (congrArg Value.bool (beq_eq_false_iff_ne.2 fk46)) ?_
 have fk48:¬ (i.gOp=22):=by omega
 refine J.h 6 [false] [] [] 148 (.bool (i.gOp==22)) (.bool false) (congrArg Value.bool (beq_eq_false_iff_ne.2 fk48))<|J.e 7 [.bool true] func20 (hR _ _ ?_)
 exact⟨congrArg Value.bool (by unfold cm;(repeat first | rw[if_pos om] | rw[if_neg om]);all_goals first | rfl | exact(decide_eq_true om).symm | exact(decide_eq_false om).symm),S27.nil⟩
end
end Go.Proofs.YtaoolgcddapegaaGreat
