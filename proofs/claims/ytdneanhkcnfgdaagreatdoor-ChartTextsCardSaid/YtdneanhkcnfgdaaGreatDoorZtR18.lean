/- Walks of functions of this seat, printed by a program over the engine. Conditions: as each theorem says. -/
import Derived.Test.YtdneanhkcnfgdaaGreatDoorZtR15
set_option linter.unusedSimpArgs false
set_option linter.unusedVariables false
namespace Go.Proofs.YtdneanhkcnfgdaaGreatDoor
noncomputable section
open Go.Eng Go.RowKit Go.Proofs.Tryz
set_option maxRecDepth 20000
set_option maxHeartbeats 20000000
theorem hb31:aJ prog 31:=fun _ _=>by kernel_rfl
def K31_0:=adv 11 [] (aY Tryz.f31)
theorem qlist_ok (b:Nat) (a:Option Addr) (c:Nat) (L:List Tk) (k0:Int) (most:Int) (w0:World) (L0:List Eng.Claim) (w:World) (S0:Sep w0 (box b [.slice a L.length c,.int .i64 k0,.int .i64 0,.int .i64 0,.int .i64 0] 73::aa tkE a c 91 4 L::L0) w) (hk:0≤k0∧k0≤(L.length:Int)) (hL:1≤L.length∧L.length≤1000000) (htk:∀ j,j<L.length→1≤(L.getD j tk0).ag.size∧(L.getD j tk0).ag.size≤1000000):Ret prog 31 #[.pointer (some ⟨b,0,none⟩),.int .i64 most] w (fun v w'=>∃ e' a' l' c' ra rc out,v=.slice ra out.length rc∧Rz (lsZ L most (.ok k0)) e' a' l' c'∧(0≤a'∧a'≤(L.length:Int))∧(out.length≤1000001∧(isZ (lsZ L most (.ok k0))=true→out=lsV L most (.ok k0)))∧Sep w0 (aa (ah Value.string) ra rc 9 1 out::box b [.slice a L.length c,.int .i64 a',.int .i64 l',.int .i64 c',.int .i64 e'] 73::aa tkE a c 91 4 L::L0) w'):=by
 refine Ret.st (N:=61) func31 fun R hR _=>?_
 have S1:Sep w0 (aa (ah Value.string) none 0 9 1 ([])::box b [.slice a L.length c,.int .i64 k0,.int .i64 0,.int .i64 0,.int .i64 0] 73::aa tkE a c 91 4 L::L0) w:=S0.nilRow 9 1
 have L31_1:∀ (mm_:Nat) (ra:Option Addr) (rc:Nat) (out:List ByteArray) (k:Int) (l1:Int) (c1:Int) (e1:Int) (w1:World),(0≤k∧k≤(L.length:Int))→(e1=0→((out).length:Int)≤k)→((out).length≤L.length)→(e1=0→(l1=0∧c1=0)∧lsF L most k0 []=lsF L most k out)→(e1≠0→Rz (lsF L most k0 []).1 e1 k l1 c1)→Sep w0 (aa (ah Value.string) ra rc 9 1 out::box b [.slice a L.length c,.int .i64 k,.int .i64 l1,.int .i64 c1,.int .i64 e1] 73::aa tkE a c 91 4 L::L0) w1→L.length+1-(out).length=mm_→J prog 31 61 R K31_0 [(5,.slice ra out.length rc),(0,.pointer (some ⟨b,0,none⟩)),(1,.int .i64 most)] w1:=by
  intro mm1
  induction mm1 using Nat.strongRecOn with
  | _ mm1 ih1 =>
  intro ra rc out k l1 c1 e1 w1 hk2 hol hol2 hA hBd S2 hm1
  refine J.lb 6 [] [] [] S2 1 rfl 10 (.int .i64 e1)<|J.c 2 [] [] [] 11 (e1=0) (fun fk1=>?_) fun fk1=>?_
  subst fk1
  obtain ⟨⟨rfl,rfl⟩,hQ⟩:=hA rfl
  have holx:=hol rfl
  refine J.r 6 [true] [(12,.pointer (some ⟨b,0,none⟩))] [] ?_
  by_cases fk2:k<(L.length:Int)
  rcases Bool.eq_false_or_eq_true (aV (L.getD (k).toNat tk0).ag) with fk3 | fk3
  have S3:=S2.front 2 rfl
  have S4:Sep w0 (box b [.slice a L.length c,.int .i64 k,.int .i64 0,.int .i64 0,.int .i64 0] 73::aa tkE a c 91 4 L::aa (ah Value.string) ra rc 9 1 out::L0) w1:=S3.front 2 rfl
  refine J.callF 13 62 #[.pointer (some ⟨b,0,none⟩)] hb62 kr (qname_in b a c L k _ _ _ S4 om hL htk fk2 fk3) ?_
  rintro _ w2 ⟨rfl,S5⟩
  replace S5:Sep w0 (box b [.slice a L.length c,.int .i64 (k+1),.int .i64 0,.int .i64 0,.int .i64 0] 73::aa tkE a c 91 4 L::aa (ah Value.string) ra rc 9 1 out::L0) w2:=S5
  refine J.lb 8 [] [(6,.string ((L.getD (k).toNat tk0).ag))] [] S5 0 rfl 17 (.int .i64 0)<|J.c 8 [] [] [] 24 ((out.length:Int)=most) (fun fk4=>?_) fun fk4=>?_
  refine J.lb 6 [true] [(25,.pointer (some ⟨b,0,none⟩))] [] S5 0 rfl 29 (.int .i64 (k+1))<|J.wi 1 [] [] [] 30 ((k+1)-1)<|J.callF 31 61 #[.pointer (some ⟨b,0,none⟩),.int .i64 ((k+1)-1),.int .i64 5] hb61 kr (bv b a c L (k+1) ((k+1)-1) 5 _ _ _ S5 om hL) ?_
  rintro _ w3 ⟨rfl,S6⟩
  replace S6:Sep w0 (box b [.slice a L.length c,.int .i64 (k+1),.int .i64 (lnA L ((k+1)-1)),.int .i64 (clA L ((k+1)-1)),.int .i64 5] 73::aa tkE a c 91 4 L::aa (ah Value.string) ra rc 9 1 out::L0) w3:=S6
  rw[show(k+1)-1=k by omega] at S6
  refine J.lb 7 [] [] [] S6 0 rfl 35 (.int .i64 5)<|J.r 14 [false] [(51,.string ((L.getD (k).toNat tk0).ag)),(50,.slice ra out.length rc)] []<|J.newSlice S6 52 1 [.string ((L.getD (k).toNat tk0).ag)] 9 kr ?_
  intro b1 w4 S7
  refine J.append (ah Value.string) S7 3 out ((L.getD (k).toNat tk0).ag) 53 22 (.string ByteArray.empty) 16 ⟨b1,0,none⟩ 1 rfl kr kr kr kr dE (aU (S7.nth 0 rfl)) kr kr (⟨om,om⟩) ?_
  intro ra1 rc1 w5 S8
  replace S8:Sep w0 (box b1 [.string ((L.getD (k).toNat tk0).ag)] 9::box b [.slice a L.length c,.int .i64 (k+1),.int .i64 (lnA L k),.int .i64 (clA L k),.int .i64 5] 73::aa tkE a c 91 4 L::aa (ah Value.string) ra1 rc1 9 1 (out++[((L.getD (k).toNat tk0).ag)])::L0) w5:=S8
  refine J.r 6 [] [(54,.pointer (some ⟨b,0,none⟩)),(5,.slice ra1 ((out++[((L.getD (k).toNat tk0).ag)]).length) rc1)] []<|J.callF 55 32 #[.pointer (some ⟨b,0,none⟩)] bR kr (bt b a c L (k+1) (lnA L k) (clA L k) 5 _ _ _ (S8.erase 0) (by first | assumption | decide | omega)) ?_
  rintro _ w6 ⟨rfl,S9⟩
  replace S9:Sep w0 (box b [.slice a L.length c,.int .i64 (k+1),.int .i64 (lnA L k),.int .i64 (clA L k),.int .i64 5] 73::aa tkE a c 91 4 L::aa (ah Value.string) ra1 rc1 9 1 (out++[((L.getD (k).toNat tk0).ag)])::L0) w6:=S9
  refine J.h 1 [] [] [] 56 (.bool ((⟨#[]⟩:ByteArray).toList==(⟨#[]⟩:ByteArray).toList)) (.bool true) (congrArg Value.bool (by simp))<|J.e 7 [.slice ra1 ((out++[((L.getD (k).toNat tk0).ag)]).length) rc1] func31 (hR _ _ ?_)
  have S10:=S9.front 1 rfl
  have S11:=S10.front 1 rfl
  have S12:Sep w0 (aa (ah Value.string) ra1 rc1 9 1 (out++[((L.getD (k).toNat tk0).ag)])::box b [.slice a L.length c,.int .i64 (k+1),.int .i64 (lnA L k),.int .i64 (clA L k),.int .i64 5] 73::aa tkE a c 91 4 L::L0) w6:=S11.front 2 rfl
  have hq_:=hQ.trans (ls_full fk2 fk3 fk4)
  exact⟨_,_,_,_,_,_,_,rfl,aP (congrArg Prod.fst hq_:lsZ L most (.ok k0)=_) (bp dE),⟨om,om⟩,⟨by (try rw[List.length_append,List.length_singleton]);omega,(fun hi_=>by rw[show lsZ L most (.ok k0)=(lsF L most k0 []).1 from rfl,hq_] at hi_;cases hi_)⟩,S12⟩
  refine J.lb 8 [false] [] [] S5 0 rfl 35 (.int .i64 0)<|J.r 4 [] [(39,.string ((L.getD (k).toNat tk0).ag)),(38,.slice ra out.length rc),(37,.bool true)] [] ?_
  have:=aQ (S5.nth 2 rfl)
  refine J.c0 0 [] [] [] S5 40 hb63 (br ra out.length rc out ((L.getD (k).toNat tk0).ag) _ ((aR (S5.nth 2 rfl) out.length rO)) oz) fun w7 S13=>?_
  have hix:=cu (eqT ((L.getD (k).toNat tk0).ag)) out
  refine J.c 3 [] [] [] 42 ((ap (eqT ((L.getD (k).toNat tk0).ag)) out)≥0) (fun fk5=>?_) fun fk5=>?_
  refine J.lb 6 [true] [(43,.pointer (some ⟨b,0,none⟩))] [] S13 0 rfl 47 (.int .i64 (k+1))<|J.wi 1 [] [] [] 48 ((k+1)-1)<|J.callF 49 61 #[.pointer (some ⟨b,0,none⟩),.int .i64 ((k+1)-1),.int .i64 8] hb61 kr (bv b a c L (k+1) ((k+1)-1) 8 _ _ _ S13 om hL) ?_
  rintro _ w8 ⟨rfl,S14⟩
  replace S14:Sep w0 (box b [.slice a L.length c,.int .i64 (k+1),.int .i64 (lnA L ((k+1)-1)),.int .i64 (clA L ((k+1)-1)),.int .i64 8] 73::aa tkE a c 91 4 L::aa (ah Value.string) ra rc 9 1 out::L0) w8:=S14
  rw[show(k+1)-1=k by omega] at S14
  refine J.r 5 [] [(51,.string ((L.getD (k).toNat tk0).ag)),(50,.slice ra out.length rc)] []<|J.newSlice S14 52 1 [.string ((L.getD (k).toNat tk0).ag)] 9 kr ?_
  intro b2 w9 S15
  refine J.append (ah Value.string) S15 3 out ((L.getD (k).toNat tk0).ag) 53 22 (.string ByteArray.empty) 16 ⟨b2,0,none⟩ 1 rfl kr kr kr kr dE (aU (S15.nth 0 rfl)) kr kr (⟨om,om⟩) ?_
  intro ra2 rc2 w10 S16
  replace S16:Sep w0 (box b2 [.string ((L.getD (k).toNat tk0).ag)] 9::box b [.slice a L.length c,.int .i64 (k+1),.int .i64 (lnA L k),.int .i64 (clA L k),.int .i64 8] 73::aa tkE a c 91 4 L::aa (ah Value.string) ra2 rc2 9 1 (out++[((L.getD (k).toNat tk0).ag)])::L0) w10:=S16
  refine J.r 6 [] [(54,.pointer (some ⟨b,0,none⟩)),(5,.slice ra2 ((out++[((L.getD (k).toNat tk0).ag)]).length) rc2)] []<|J.callF 55 32 #[.pointer (some ⟨b,0,none⟩)] bR kr (bt b a c L (k+1) (lnA L k) (clA L k) 8 _ _ _ (S16.erase 0) (by first | assumption | decide | omega)) ?_
  rintro _ w11 ⟨rfl,S17⟩
  replace S17:Sep w0 (box b [.slice a L.length c,.int .i64 (k+1),.int .i64 (lnA L k),.int .i64 (clA L k),.int .i64 8] 73::aa tkE a c 91 4 L::aa (ah Value.string) ra2 rc2 9 1 (out++[((L.getD (k).toNat tk0).ag)])::L0) w11:=S17
  refine J.h 1 [] [] [] 56 (.bool ((⟨#[]⟩:ByteArray).toList==(⟨#[]⟩:ByteArray).toList)) (.bool true) (congrArg Value.bool (by simp))<|J.e 7 [.slice ra2 ((out++[((L.getD (k).toNat tk0).ag)]).length) rc2] func31 (hR _ _ ?_)
  have S18:=S17.front 1 rfl
  have S19:=S18.front 1 rfl
  have S20:Sep w0 (aa (ah Value.string) ra2 rc2 9 1 (out++[((L.getD (k).toNat tk0).ag)])::box b [.slice a L.length c,.int .i64 (k+1),.int .i64 (lnA L k),.int .i64 (clA L k),.int .i64 8] 73::aa tkE a c 91 4 L::L0) w11:=S19.front 2 rfl
  have hq_:=hQ.trans (ls_twice fk2 fk3 fk4 (any_of_index fk5))
  exact⟨_,_,_,_,_,_,_,rfl,aP (congrArg Prod.fst hq_:lsZ L most (.ok k0)=_) (bp dE),⟨om,om⟩,⟨by (try rw[List.length_append,List.length_singleton]);omega,(fun hi_=>by rw[show lsZ L most (.ok k0)=(lsF L most k0 []).1 from rfl,hq_] at hi_;cases hi_)⟩,S20⟩
  refine J.r 6 [false] [(51,.string ((L.getD (k).toNat tk0).ag)),(50,.slice ra out.length rc)] []<|J.newSlice S13 52 1 [.string ((L.getD (k).toNat tk0).ag)] 9 kr ?_
  intro b3 w12 S21
  refine J.append (ah Value.string) S21 3 out ((L.getD (k).toNat tk0).ag) 53 22 (.string ByteArray.empty) 16 ⟨b3,0,none⟩ 1 rfl kr kr kr kr dE (aU (S21.nth 0 rfl)) kr kr (⟨om,om⟩) ?_
  intro ra3 rc3 w13 S22
  replace S22:Sep w0 (box b3 [.string ((L.getD (k).toNat tk0).ag)] 9::box b [.slice a L.length c,.int .i64 (k+1),.int .i64 0,.int .i64 0,.int .i64 0] 73::aa tkE a c 91 4 L::aa (ah Value.string) ra3 rc3 9 1 (out++[((L.getD (k).toNat tk0).ag)])::L0) w13:=S22
  refine J.r 6 [] [(54,.pointer (some ⟨b,0,none⟩)),(5,.slice ra3 ((out++[((L.getD (k).toNat tk0).ag)]).length) rc3)] [] ?_
  by_cases fk6:(k+1)<(L.length:Int)
  refine J.callF 55 32 #[.pointer (some ⟨b,0,none⟩)] bR kr (cp b a c L (k+1) _ _ _ (S22.erase 0) om hL fk6) ?_
  rintro _ w14 ⟨rfl,S23⟩
  replace S23:Sep w0 (box b [.slice a L.length c,.int .i64 (k+1),.int .i64 0,.int .i64 0,.int .i64 0] 73::aa tkE a c 91 4 L::aa (ah Value.string) ra3 rc3 9 1 (out++[((L.getD (k).toNat tk0).ag)])::L0) w14:=S23
  refine J.h 1 [] [] [] 56 (.bool (((L.getD (k+1).toNat tk0).ag).toList==(⟨#[]⟩:ByteArray).toList)) (.bool ((((L.getD (k+1).toNat tk0).ag).size:Int)==0)) (congrArg Value.bool (beq_nil_eql _)) ?_
  have fk8:¬ ((((L.getD (k+1).toNat tk0).ag).size:Int)=0):=by have:=htk (k+1).toNat om;omega
  refine J.h 1 [] [] [] 56 (.bool ((((L.getD (k+1).toNat tk0).ag).size:Int)==0)) (.bool false) (congrArg Value.bool (beq_eq_false_iff_ne.2 fk8))<|J.r 4 [false] [(58,.pointer (some ⟨b,0,none⟩))] []<|J.callF 59 30 #[.pointer (some ⟨b,0,none⟩),.string ⟨#[44]⟩] hb30 kr (qword_any b a c L (.ok (k+1)) 0 (k+1) 0 0 (⟨#[44]⟩:ByteArray) _ _ _ S23 bB om hL) ?_
  rintro _ w15 ⟨ze1,za1,zl1,zc1,rfl,hz1,hzb1,S24⟩
  replace S24:Sep w0 (box b [.slice a L.length c,.int .i64 za1,.int .i64 zl1,.int .i64 zc1,.int .i64 ze1] 73::aa tkE a c 91 4 L::aa (ah Value.string) ra3 rc3 9 1 (out++[((L.getD (k).toNat tk0).ag)])::L0) w15:=S24
  have S25:=S24.front 1 rfl
  have S26:=S25.front 1 rfl
  have S27:Sep w0 (aa (ah Value.string) ra3 rc3 9 1 (out++[((L.getD (k).toNat tk0).ag)])::box b [.slice a L.length c,.int .i64 za1,.int .i64 zl1,.int .i64 zc1,.int .i64 ze1] 73::aa tkE a c 91 4 L::L0) w15:=S26.front 2 rfl
  exact J.t 3 (ih1 _ (show L.length+1-((out++[((L.getD (k).toNat tk0).ag)])).length<mm1 from by rw[List.length_append,List.length_singleton];omega) ra3 rc3 (out++[((L.getD (k).toNat tk0).ag)]) za1 zl1 zc1 ze1 w15 (hzb1) (fun he_=>by obtain ⟨⟨_,_,q3_⟩,_⟩:=(ls_back fk2 fk3 fk4 (cw fk5) fk6 hz1).1 he_;rw[List.length_append,List.length_singleton];omega) (by rw[List.length_append,List.length_singleton];omega) (fun he_=>by obtain ⟨⟨q1_,q2_,q3_⟩,q4_⟩:=(ls_back fk2 fk3 fk4 (cw fk5) fk6 hz1).1 he_;exact⟨⟨q1_,q2_⟩,by rw[q3_];exact hQ.trans q4_⟩) (fun he_=>by rw[hQ];exact(ls_back fk2 fk3 fk4 (cw fk5) fk6 hz1).2 he_) S27 rfl)
  refine J.callF 55 32 #[.pointer (some ⟨b,0,none⟩)] bR kr (ct b a c L (k+1) _ _ _ (S22.erase 0) om hL fk6) ?_
  rintro _ w16 ⟨rfl,S28⟩
  replace S28:Sep w0 (box b [.slice a L.length c,.int .i64 (k+1),.int .i64 0,.int .i64 0,.int .i64 0] 73::aa tkE a c 91 4 L::aa (ah Value.string) ra3 rc3 9 1 (out++[((L.getD (k).toNat tk0).ag)])::L0) w16:=S28
  refine J.h 1 [] [] [] 56 (.bool ((⟨#[]⟩:ByteArray).toList==(⟨#[]⟩:ByteArray).toList)) (.bool true) (congrArg Value.bool (by simp))<|J.e 7 [.slice ra3 ((out++[((L.getD (k).toNat tk0).ag)]).length) rc3] func31 (hR _ _ ?_)
  have S29:=S28.front 1 rfl
  have S30:=S29.front 1 rfl
  have S31:Sep w0 (aa (ah Value.string) ra3 rc3 9 1 (out++[((L.getD (k).toNat tk0).ag)])::box b [.slice a L.length c,.int .i64 (k+1),.int .i64 0,.int .i64 0,.int .i64 0] 73::aa tkE a c 91 4 L::L0) w16:=S30.front 2 rfl
  have hq_:=hQ.trans (ls_at fk2 fk3 fk4 (cw fk5) fk6)
  exact⟨_,_,_,_,_,_,_,rfl,aP (congrArg Prod.fst hq_:lsZ L most (.ok k0)=_) (bB),⟨om,om⟩,⟨by (try rw[List.length_append,List.length_singleton]);omega,(fun hi_=>by rw[show lsV L most (.ok k0)=(lsF L most k0 []).2 from rfl,hq_];rfl)⟩,S31⟩
  have S32:=S2.front 2 rfl
  have S33:Sep w0 (box b [.slice a L.length c,.int .i64 k,.int .i64 0,.int .i64 0,.int .i64 0] 73::aa tkE a c 91 4 L::aa (ah Value.string) ra rc 9 1 out::L0) w1:=S32.front 2 rfl
  refine J.callF 13 62 #[.pointer (some ⟨b,0,none⟩)] hb62 kr (qname_miss b a c L k _ _ _ S33 om hL htk fk2 fk3) ?_
  rintro _ w17 ⟨rfl,S34⟩
  replace S34:Sep w0 (box b [.slice a L.length c,.int .i64 (k+1),.int .i64 (lnA L k),.int .i64 (clA L k),.int .i64 3] 73::aa tkE a c 91 4 L::aa (ah Value.string) ra rc 9 1 out::L0) w17:=S34
  refine J.lb 8 [] [(6,.string ((L.getD (k).toNat tk0).ag))] [] S34 0 rfl 17 (.int .i64 3)<|J.lb 16 [false] [] [] S34 0 rfl 35 (.int .i64 3)<|J.r 14 [false] [(51,.string ((L.getD (k).toNat tk0).ag)),(50,.slice ra out.length rc)] []<|J.newSlice S34 52 1 [.string ((L.getD (k).toNat tk0).ag)] 9 kr ?_
  intro b4 w18 S35
  refine J.append (ah Value.string) S35 3 out ((L.getD (k).toNat tk0).ag) 53 22 (.string ByteArray.empty) 16 ⟨b4,0,none⟩ 1 rfl kr kr kr kr dE (aU (S35.nth 0 rfl)) kr kr (⟨om,om⟩) ?_
  intro ra4 rc4 w19 S36
  replace S36:Sep w0 (box b4 [.string ((L.getD (k).toNat tk0).ag)] 9::box b [.slice a L.length c,.int .i64 (k+1),.int .i64 (lnA L k),.int .i64 (clA L k),.int .i64 3] 73::aa tkE a c 91 4 L::aa (ah Value.string) ra4 rc4 9 1 (out++[((L.getD (k).toNat tk0).ag)])::L0) w19:=S36
  refine J.r 6 [] [(54,.pointer (some ⟨b,0,none⟩)),(5,.slice ra4 ((out++[((L.getD (k).toNat tk0).ag)]).length) rc4)] []<|J.callF 55 32 #[.pointer (some ⟨b,0,none⟩)] bR kr (bt b a c L (k+1) (lnA L k) (clA L k) 3 _ _ _ (S36.erase 0) (by first | assumption | decide | omega)) ?_
  rintro _ w20 ⟨rfl,S37⟩
  replace S37:Sep w0 (box b [.slice a L.length c,.int .i64 (k+1),.int .i64 (lnA L k),.int .i64 (clA L k),.int .i64 3] 73::aa tkE a c 91 4 L::aa (ah Value.string) ra4 rc4 9 1 (out++[((L.getD (k).toNat tk0).ag)])::L0) w20:=S37
  refine J.h 1 [] [] [] 56 (.bool ((⟨#[]⟩:ByteArray).toList==(⟨#[]⟩:ByteArray).toList)) (.bool true) (congrArg Value.bool (by simp))<|J.e 7 [.slice ra4 ((out++[((L.getD (k).toNat tk0).ag)]).length) rc4] func31 (hR _ _ ?_)
  have S38:=S37.front 1 rfl
  have S39:=S38.front 1 rfl
  have S40:Sep w0 (aa (ah Value.string) ra4 rc4 9 1 (out++[((L.getD (k).toNat tk0).ag)])::box b [.slice a L.length c,.int .i64 (k+1),.int .i64 (lnA L k),.int .i64 (clA L k),.int .i64 3] 73::aa tkE a c 91 4 L::L0) w20:=S39.front 2 rfl
  have hq_:=hQ.trans (ls_miss fk2 fk3)
  exact⟨_,_,_,_,_,_,_,rfl,aP (congrArg Prod.fst hq_:lsZ L most (.ok k0)=_) (bp dE),⟨om,om⟩,⟨by (try rw[List.length_append,List.length_singleton]);omega,(fun hi_=>by rw[show lsZ L most (.ok k0)=(lsF L most k0 []).1 from rfl,hq_] at hi_;cases hi_)⟩,S40⟩
  have S41:=S2.front 2 rfl
  have S42:Sep w0 (box b [.slice a L.length c,.int .i64 k,.int .i64 0,.int .i64 0,.int .i64 0] 73::aa tkE a c 91 4 L::aa (ah Value.string) ra rc 9 1 out::L0) w1:=S41.front 2 rfl
  refine J.callF 13 62 #[.pointer (some ⟨b,0,none⟩)] hb62 kr (qname_end b a c L k _ _ _ S42 om hL fk2) ?_
  rintro _ w21 ⟨rfl,S43⟩
  replace S43:Sep w0 (box b [.slice a L.length c,.int .i64 k,.int .i64 (lnA L ((L.length:Int)-1)),.int .i64 (clA L ((L.length:Int)-1)),.int .i64 4] 73::aa tkE a c 91 4 L::aa (ah Value.string) ra rc 9 1 out::L0) w21:=S43
  refine J.lb 8 [] [(6,.string ByteArray.empty)] [] S43 0 rfl 17 (.int .i64 4)<|J.lb 16 [false] [] [] S43 0 rfl 35 (.int .i64 4)<|J.r 14 [false] [(51,.string ByteArray.empty),(50,.slice ra out.length rc)] []<|J.newSlice S43 52 1 [.string ByteArray.empty] 9 kr ?_
  intro b5 w22 S44
  refine J.append (ah Value.string) S44 3 out (ByteArray.empty:ByteArray) 53 22 (.string ByteArray.empty) 16 ⟨b5,0,none⟩ 1 rfl kr kr kr kr dE (aU (S44.nth 0 rfl)) kr kr (⟨om,om⟩) ?_
  intro ra5 rc5 w23 S45
  replace S45:Sep w0 (box b5 [.string ByteArray.empty] 9::box b [.slice a L.length c,.int .i64 k,.int .i64 (lnA L ((L.length:Int)-1)),.int .i64 (clA L ((L.length:Int)-1)),.int .i64 4] 73::aa tkE a c 91 4 L::aa (ah Value.string) ra5 rc5 9 1 (out++[(ByteArray.empty:ByteArray)])::L0) w23:=S45
  refine J.r 6 [] [(54,.pointer (some ⟨b,0,none⟩)),(5,.slice ra5 ((out++[(ByteArray.empty:ByteArray)]).length) rc5)] []<|J.callF 55 32 #[.pointer (some ⟨b,0,none⟩)] bR kr (bt b a c L k (lnA L ((L.length:Int)-1)) (clA L ((L.length:Int)-1)) 4 _ _ _ (S45.erase 0) (by first | assumption | decide | omega)) ?_
  rintro _ w24 ⟨rfl,S46⟩
  replace S46:Sep w0 (box b [.slice a L.length c,.int .i64 k,.int .i64 (lnA L ((L.length:Int)-1)),.int .i64 (clA L ((L.length:Int)-1)),.int .i64 4] 73::aa tkE a c 91 4 L::aa (ah Value.string) ra5 rc5 9 1 (out++[(ByteArray.empty:ByteArray)])::L0) w24:=S46
  refine J.h 1 [] [] [] 56 (.bool ((⟨#[]⟩:ByteArray).toList==(⟨#[]⟩:ByteArray).toList)) (.bool true) (congrArg Value.bool (by simp))<|J.e 7 [.slice ra5 ((out++[(ByteArray.empty:ByteArray)]).length) rc5] func31 (hR _ _ ?_)
  have S47:=S46.front 1 rfl
  have S48:=S47.front 1 rfl
  have S49:Sep w0 (aa (ah Value.string) ra5 rc5 9 1 (out++[(ByteArray.empty:ByteArray)])::box b [.slice a L.length c,.int .i64 k,.int .i64 (lnA L ((L.length:Int)-1)),.int .i64 (clA L ((L.length:Int)-1)),.int .i64 4] 73::aa tkE a c 91 4 L::L0) w24:=S48.front 2 rfl
  have hq_:=hQ.trans (ls_end fk2)
  exact⟨_,_,_,_,_,_,_,rfl,aP (congrArg Prod.fst hq_:lsZ L most (.ok k0)=_) (rz_en rfl),⟨om,om⟩,⟨by (try rw[List.length_append,List.length_singleton]);omega,(fun hi_=>by rw[show lsZ L most (.ok k0)=(lsF L most k0 []).1 from rfl,hq_] at hi_;cases hi_)⟩,S49⟩
  refine J.e 7 [.slice ra out.length rc] func31 (hR _ _ ?_)
  have hz_:=hBd fk1
  exact⟨_,_,_,_,_,_,_,rfl,hz_,⟨om,om⟩,⟨om,(fun hi_=>absurd ((isZ_iff hz_).1 hi_) fk1)⟩,S2⟩
 exact J.t 11 (L31_1 _ none 0 ([]) k0 0 0 0 w om (fun _=>by simp;omega) (by simp) (fun _=>⟨⟨rfl,rfl⟩,rfl⟩) (fun h_=>absurd rfl h_) S1 rfl)

theorem qlist_no (b:Nat) (a:Option Addr) (c:Nat) (L:List Tk) (k l cc e:Int) (most:Int) (w0:World) (L0:List Eng.Claim) (w:World) (S0:Sep w0 (box b [.slice a L.length c,.int .i64 k,.int .i64 l,.int .i64 cc,.int .i64 e] 73::aa tkE a c 91 4 L::L0) w) (hk:0≤k∧k≤(L.length:Int)) (he:e≠0):Ret prog 31 #[.pointer (some ⟨b,0,none⟩),.int .i64 most] w (fun v w'=>∃ e' a' l' c' ra rc out,v=.slice ra out.length rc∧Rz (.no e l cc) e' a' l' c'∧(0≤a'∧a'≤(L.length:Int))∧(out.length≤1000001∧(isZ (.no e l cc)=true→out=lsV L most (.no e l cc)))∧Sep w0 (aa (ah Value.string) ra rc 9 1 out::box b [.slice a L.length c,.int .i64 a',.int .i64 l',.int .i64 c',.int .i64 e'] 73::aa tkE a c 91 4 L::L0) w'):=by
 refine Ret.st (N:=61) func31 fun R hR _=>J.lb 17 [] [(5,.slice none 0 0)] [] S0 0 rfl 10 (.int .i64 e) ?_
 have fk2:¬ (e=0):=he
 refine J.h 2 [] [] [] 11 (.bool (e==0)) (.bool false) (congrArg Value.bool (beq_eq_false_iff_ne.2 fk2))<|J.e 7 [.slice none 0 0] func31 (hR _ _ ?_)
 exact⟨_,_,_,_,none,0,[],rfl,rz_no he,hk,⟨dE,fun h_=>by cases h_⟩,S0.nilRow 9 1⟩

theorem qlist_any (b:Nat) (a:Option Addr) (c:Nat) (L:List Tk) (X:Pz) (e k l cc:Int) (most:Int) (w0:World) (L0:List Eng.Claim) (w:World) (S0:Sep w0 (box b [.slice a L.length c,.int .i64 k,.int .i64 l,.int .i64 cc,.int .i64 e] 73::aa tkE a c 91 4 L::L0) w) (hz:Rz X e k l cc) (hk:0≤k∧k≤(L.length:Int)) (hL:1≤L.length∧L.length≤1000000) (htk:∀ j,j<L.length→1≤(L.getD j tk0).ag.size∧(L.getD j tk0).ag.size≤1000000):Ret prog 31 #[.pointer (some ⟨b,0,none⟩),.int .i64 most] w (fun v w'=>∃ e' a' l' c' ra rc out,v=.slice ra out.length rc∧Rz (lsZ L most (X)) e' a' l' c'∧(0≤a'∧a'≤(L.length:Int))∧(out.length≤1000001∧(isZ (lsZ L most (X))=true→out=lsV L most (X)))∧Sep w0 (aa (ah Value.string) ra rc 9 1 out::box b [.slice a L.length c,.int .i64 a',.int .i64 l',.int .i64 c',.int .i64 e'] 73::aa tkE a c 91 4 L::L0) w'):=by
  cases X with
  | ok j=>obtain ⟨h1,h2,h3,h4⟩:=hz;subst h1 h2 h3 h4;exact qlist_ok b a c L k most w0 L0 w S0 hk hL htk
  | no x y z=>obtain ⟨h1,h2,h3,h4⟩:=hz;subst h1 h3 h4;exact qlist_no b a c L k l cc e most w0 L0 w S0 hk h2
theorem hb65:aJ prog 65:=fun _ _=>by kernel_rfl
def K65_0:=adv 32 [false] (aY Tryz.f65)
theorem qnum_ok (b:Nat) (a:Option Addr) (c:Nat) (L:List Tk) (k:Int) (w0:World) (L0:List Eng.Claim) (w:World) (S0:Sep w0 (box b [.slice a L.length c,.int .i64 k,.int .i64 0,.int .i64 0,.int .i64 0] 73::aa tkE a c 91 4 L::L0) w) (hk:0≤k∧k≤(L.length:Int)) (hL:1≤L.length∧L.length≤1000000) (htk:∀ j,j<L.length→1≤(L.getD j tk0).ag.size∧(L.getD j tk0).ag.size≤1000000):Ret prog 65 #[.pointer (some ⟨b,0,none⟩)] w (fun v w'=>∃ e' a' l' c' x,v=.int .i64 x∧Rz (nuZ L (.ok k)) e' a' l' c'∧(0≤a'∧a'≤(L.length:Int))∧(0≤x∧x≤10000)∧(isZ (nuZ L (.ok k))=true→x=nuV L (.ok k))∧Sep w0 (box b [.slice a L.length c,.int .i64 a',.int .i64 l',.int .i64 c',.int .i64 e'] 73::aa tkE a c 91 4 L::L0) w'):=by
 refine Ret.st (N:=70) func65 fun R hR _=>J.r 7 [] [(6,.pointer (some ⟨b,0,none⟩))] [] ?_
 by_cases fk1:k<(L.length:Int)
 refine J.callF 7 33 #[.pointer (some ⟨b,0,none⟩)] hb33 kr (bJ b a c L k _ _ _ S0 om hL fk1) ?_
 rintro _ w1 ⟨rfl,S1⟩
 replace S1:Sep w0 (box b [.slice a L.length c,.int .i64 (k+1),.int .i64 0,.int .i64 0,.int .i64 0] 73::aa tkE a c 91 4 L::L0) w1:=S1
 refine J.r 1 [] [(3,.string ((L.getD (k).toNat tk0).ag))] [] ?_
 obtain ⟨x,hx⟩:∃ x:ByteArray,x=(L.getD (k).toNat tk0).ag:=⟨_,rfl⟩
 refine J.head (.string x) (congrArg Value.string hx.symm) ?_
 have hx1:=htk (k).toNat om
 rw[← hx] at hx1
 refine J.lb 7 [] [] [] S1 0 rfl 11 (.int .i64 0) ?_
 have L65_1:∀ (mm_:Nat) (n:Int) (i:Int) (w2:World),(0≤i)→(i≤(x.size:Int))→(0≤n∧n≤5000)→(∀ j,j<(i).toNat→48≤aA x j∧aA x j≤57)→(n=min (cx ((ls x).take (i).toNat):Int) 5000)→Sep w0 (box b [.slice a L.length c,.int .i64 (k+1),.int .i64 0,.int .i64 0,.int .i64 0] 73::aa tkE a c 91 4 L::L0) w2→((x.size:Int)-i).toNat=mm_→J prog 65 70 R K65_0 [(5,.int .i64 i),(4,.int .i64 n),(3,.string x),(0,.pointer (some ⟨b,0,none⟩))] w2:=by
  intro mm1
  induction mm1 using Nat.strongRecOn with
  | _ mm1 ih1 =>
  intro n i w2 h0 h1 hnb hq hn S2 hm1
  refine J.c 8 [] [] [] 16 (i<(x.size:Int)) (fun fk2=>?_) fun fk2=>?_
  refine J.r 9 [true] [(20,.int .i64 i),(19,.string x)] [] ?_
  have:=aS x (i).toNat
  refine J.ok (OK.byte 21 9 x i (aA x (i).toNat) kr kr om om (rfl))<|J.c 2 [] [] [] 23 ((aA x (i).toNat)<48) (fun fk3=>?_) fun fk3=>?_
  refine J.lb 13 [true] [(29,.pointer (some ⟨b,0,none⟩))] [] S2 0 rfl 33 (.int .i64 (k+1))<|J.wi 1 [] [] [] 34 ((k+1)-1)<|J.callF 35 61 #[.pointer (some ⟨b,0,none⟩),.int .i64 ((k+1)-1),.int .i64 3] hb61 kr (bv b a c L (k+1) ((k+1)-1) 3 _ _ _ S2 om hL) ?_
  rintro _ w3 ⟨rfl,S3⟩
  replace S3:Sep w0 (box b [.slice a L.length c,.int .i64 (k+1),.int .i64 (lnA L ((k+1)-1)),.int .i64 (clA L ((k+1)-1)),.int .i64 3] 73::aa tkE a c 91 4 L::L0) w3:=S3
  rw[show(k+1)-1=k by omega] at S3
  refine J.e 5 [.int .i64 0] func65 (hR _ _ ?_)
  have hxk:tx L k=x:=hx.symm
  have hq_:=nu_form fk1 (by rw[hxk];exact canon_bad (i:=i.toNat) om om)
  exact⟨_,_,_,_,_,rfl,aP hq_ (bp dE),⟨om,om⟩,⟨om,om⟩,(fun hi_=>by rw[hq_] at hi_;cases hi_),S3⟩
  refine J.r 2 [] [(25,.int .i64 i),(24,.string x)] [] ?_
  have:=aS x (i).toNat
  refine J.ok (OK.byte 26 9 x i (aA x (i).toNat) kr kr om om (rfl))<|J.c 3 [] [] [] 28 ((aA x (i).toNat)>57) (fun fk4=>?_) fun fk4=>?_
  refine J.lb 7 [true] [(29,.pointer (some ⟨b,0,none⟩))] [] S2 0 rfl 33 (.int .i64 (k+1))<|J.wi 1 [] [] [] 34 ((k+1)-1)<|J.callF 35 61 #[.pointer (some ⟨b,0,none⟩),.int .i64 ((k+1)-1),.int .i64 3] hb61 kr (bv b a c L (k+1) ((k+1)-1) 3 _ _ _ S2 om hL) ?_
  rintro _ w4 ⟨rfl,S4⟩
  replace S4:Sep w0 (box b [.slice a L.length c,.int .i64 (k+1),.int .i64 (lnA L ((k+1)-1)),.int .i64 (clA L ((k+1)-1)),.int .i64 3] 73::aa tkE a c 91 4 L::L0) w4:=S4
  rw[show(k+1)-1=k by omega] at S4
  refine J.e 5 [.int .i64 0] func65 (hR _ _ ?_)
  have hxk:tx L k=x:=hx.symm
  have hq_:=nu_form fk1 (by rw[hxk];exact canon_bad (i:=i.toNat) om om)
  exact⟨_,_,_,_,_,rfl,aP hq_ (bp dE),⟨om,om⟩,⟨om,om⟩,(fun hi_=>by rw[hq_] at hi_;cases hi_),S4⟩
  refine J.wi 5 [false] [] [] 37 (10*n)<|J.r 2 [] [(39,.int .i64 i),(38,.string x)] [] ?_
  have:=aS x (i).toNat
  exact J.ok (OK.byte 40 9 x i (aA x (i).toNat) kr kr om om (rfl))<|J.h 1 [] [] [] 41 (.int .u8 (IntKind.wrap .u8 ((aA x (i).toNat)-48))) (.int .u8 ((aA x (i).toNat)-48)) (congrArg (Value.int .u8) (IntWalk.u8_in _ om))<|J.wi 1 [] [] [] 42 ((aA x (i).toNat)-48)<|J.wi 1 [] [] [] 43 ((10*n)+((aA x (i).toNat)-48))<|J.h 1 [] [] [] 44 (.int .i64 (if 5000<((10*n)+((aA x (i).toNat)-48)) then 5000 else ((10*n)+((aA x (i).toNat)-48)))) (.int .i64 (min ((10*n)+((aA x (i).toNat)-48)) 5000)) (congrArg (Value.int .i64) om)<|J.wi 6 [] [(4,.int .i64 (min ((10*n)+((aA x (i).toNat)-48)) 5000))] [] 18 (i+1)<|J.t 3 (ih1 _ (show((x.size:Int)-(i+1)).toNat<mm1 from by omega) (min ((10*n)+((aA x (i).toNat)-48)) 5000) (i+1) w2 om om om (dg_step (q:=fun j=>48≤aA x j∧aA x j≤57) h0 hq om) (min_step h0 om hn om) S2 rfl)
  refine J.c 9 [false] [] [] 48 ((x.size:Int)>1) (fun fk5=>?_) fun fk5=>?_
  refine J.r 1 [] [(49,.string x)] [] ?_
  have:=aS x 0
  refine J.ok (OK.byte 50 9 x (0:Int) (aA x 0) kr kr om om (rfl))<|J.c 3 [] [] [] 52 ((aA x 0)=48) (fun fk6=>?_) fun fk6=>?_
  refine J.lb 6 [true] [(53,.pointer (some ⟨b,0,none⟩))] [] S2 0 rfl 57 (.int .i64 (k+1))<|J.wi 1 [] [] [] 58 ((k+1)-1)<|J.callF 59 61 #[.pointer (some ⟨b,0,none⟩),.int .i64 ((k+1)-1),.int .i64 3] hb61 kr (bv b a c L (k+1) ((k+1)-1) 3 _ _ _ S2 om hL) ?_
  rintro _ w5 ⟨rfl,S5⟩
  replace S5:Sep w0 (box b [.slice a L.length c,.int .i64 (k+1),.int .i64 (lnA L ((k+1)-1)),.int .i64 (clA L ((k+1)-1)),.int .i64 3] 73::aa tkE a c 91 4 L::L0) w5:=S5
  rw[show(k+1)-1=k by omega] at S5
  refine J.c 7 [] [] [] 61 (n>1000) (fun fk7=>?_) fun fk7=>?_
  refine J.lb 6 [true] [(62,.pointer (some ⟨b,0,none⟩))] [] S5 0 rfl 66 (.int .i64 (k+1))<|J.wi 1 [] [] [] 67 ((k+1)-1)<|J.callF 68 61 #[.pointer (some ⟨b,0,none⟩),.int .i64 ((k+1)-1),.int .i64 2] hb61 kr (qfail_no b a c L (k+1) (lnA L k) (clA L k) 3 ((k+1)-1) 2 _ _ _ S5 (by first | assumption | decide | omega)) ?_
  rintro _ w6 ⟨rfl,S6⟩
  replace S6:Sep w0 (box b [.slice a L.length c,.int .i64 (k+1),.int .i64 (lnA L k),.int .i64 (clA L k),.int .i64 3] 73::aa tkE a c 91 4 L::L0) w6:=S6
  refine J.e 6 [.int .i64 n] func65 (hR _ _ ?_)
  have hxk:tx L k=x:=hx.symm
  have hqd:∀ j,j<x.size→48≤aA x j∧aA x j≤57:=fun j hj=>hq j om
  have hmn:=min_all hn (show(x.size:Int)≤i by omega)
  have hq_:=nu_form fk1 (by rw[hxk];exact canon_lead hqd om om)
  exact⟨_,_,_,_,_,rfl,aP hq_ (bp dE),⟨om,om⟩,⟨om,om⟩,(fun hi_=>by rw[hq_] at hi_;cases hi_),S6⟩
  refine J.e 7 [.int .i64 n] func65 (hR _ _ ?_)
  have hxk:tx L k=x:=hx.symm
  have hqd:∀ j,j<x.size→48≤aA x j∧aA x j≤57:=fun j hj=>hq j om
  have hmn:=min_all hn (show(x.size:Int)≤i by omega)
  have hq_:=nu_form fk1 (by rw[hxk];exact canon_lead hqd om om)
  exact⟨_,_,_,_,_,rfl,aP hq_ (bp dE),⟨om,om⟩,⟨om,om⟩,(fun hi_=>by rw[hq_] at hi_;cases hi_),S5⟩
  refine J.c 8 [false] [] [] 61 (n>1000) (fun fk8=>?_) fun fk8=>?_
  refine J.lb 6 [true] [(62,.pointer (some ⟨b,0,none⟩))] [] S2 0 rfl 66 (.int .i64 (k+1))<|J.wi 1 [] [] [] 67 ((k+1)-1)<|J.callF 68 61 #[.pointer (some ⟨b,0,none⟩),.int .i64 ((k+1)-1),.int .i64 2] hb61 kr (bv b a c L (k+1) ((k+1)-1) 2 _ _ _ S2 om hL) ?_
  rintro _ w7 ⟨rfl,S7⟩
  replace S7:Sep w0 (box b [.slice a L.length c,.int .i64 (k+1),.int .i64 (lnA L ((k+1)-1)),.int .i64 (clA L ((k+1)-1)),.int .i64 2] 73::aa tkE a c 91 4 L::L0) w7:=S7
  rw[show(k+1)-1=k by omega] at S7
  refine J.e 6 [.int .i64 n] func65 (hR _ _ ?_)
  have hxk:tx L k=x:=hx.symm
  have hqd:∀ j,j<x.size→48≤aA x j∧aA x j≤57:=fun j hj=>hq j om
  have hmn:=min_all hn (show(x.size:Int)≤i by omega)
  have hcn:=canon_yes (s:=x) om hqd om
  have hq_:=nu_rng fk1 (by rw[hxk];exact hcn) (by rw[hxk];omega)
  exact⟨_,_,_,_,_,rfl,aP hq_ (bp dE),⟨om,om⟩,⟨om,om⟩,(fun hi_=>by rw[hq_] at hi_;cases hi_),S7⟩
  refine J.e 7 [.int .i64 n] func65 (hR _ _ ?_)
  have hxk:tx L k=x:=hx.symm
  have hqd:∀ j,j<x.size→48≤aA x j∧aA x j≤57:=fun j hj=>hq j om
  have hmn:=min_all hn (show(x.size:Int)≤i by omega)
  have hcn:=canon_yes (s:=x) om hqd om
  have hq_:=nu_in fk1 (by rw[hxk];exact hcn) (by rw[hxk];omega)
  exact⟨_,_,_,_,_,rfl,aP hq_ (bB),⟨om,om⟩,⟨om,om⟩,(fun hi_=>by show _=(cx (ls (tx L k)):Int);rw[hxk];omega),S2⟩
  refine J.c 13 [false] [] [] 61 (n>1000) (fun fk9=>?_) fun fk9=>?_
  refine J.lb 6 [true] [(62,.pointer (some ⟨b,0,none⟩))] [] S2 0 rfl 66 (.int .i64 (k+1))<|J.wi 1 [] [] [] 67 ((k+1)-1)<|J.callF 68 61 #[.pointer (some ⟨b,0,none⟩),.int .i64 ((k+1)-1),.int .i64 2] hb61 kr (bv b a c L (k+1) ((k+1)-1) 2 _ _ _ S2 om hL) ?_
  rintro _ w8 ⟨rfl,S8⟩
  replace S8:Sep w0 (box b [.slice a L.length c,.int .i64 (k+1),.int .i64 (lnA L ((k+1)-1)),.int .i64 (clA L ((k+1)-1)),.int .i64 2] 73::aa tkE a c 91 4 L::L0) w8:=S8
  rw[show(k+1)-1=k by omega] at S8
  refine J.e 6 [.int .i64 n] func65 (hR _ _ ?_)
  have hxk:tx L k=x:=hx.symm
  have hqd:∀ j,j<x.size→48≤aA x j∧aA x j≤57:=fun j hj=>hq j om
  have hmn:=min_all hn (show(x.size:Int)≤i by omega)
  have hcn:=canon_yes (s:=x) om hqd om
  have hq_:=nu_rng fk1 (by rw[hxk];exact hcn) (by rw[hxk];omega)
  exact⟨_,_,_,_,_,rfl,aP hq_ (bp dE),⟨om,om⟩,⟨om,om⟩,(fun hi_=>by rw[hq_] at hi_;cases hi_),S8⟩
  refine J.e 7 [.int .i64 n] func65 (hR _ _ ?_)
  have hxk:tx L k=x:=hx.symm
  have hqd:∀ j,j<x.size→48≤aA x j∧aA x j≤57:=fun j hj=>hq j om
  have hmn:=min_all hn (show(x.size:Int)≤i by omega)
  have hcn:=canon_yes (s:=x) om hqd om
  have hq_:=nu_in fk1 (by rw[hxk];exact hcn) (by rw[hxk];omega)
  exact⟨_,_,_,_,_,rfl,aP hq_ (bB),⟨om,om⟩,⟨om,om⟩,(fun hi_=>by show _=(cx (ls (tx L k)):Int);rw[hxk];omega),S2⟩
 exact J.t 15 (L65_1 _ 0 0 w1 om om om (by intro j hj;simp at hj) (rfl) S1 rfl)
 refine J.callF 7 33 #[.pointer (some ⟨b,0,none⟩)] hb33 kr (qtake_end b a c L k _ _ _ S0 om hL fk1) ?_
 rintro _ w9 ⟨rfl,S9⟩
 replace S9:Sep w0 (box b [.slice a L.length c,.int .i64 k,.int .i64 (lnA L ((L.length:Int)-1)),.int .i64 (clA L ((L.length:Int)-1)),.int .i64 4] 73::aa tkE a c 91 4 L::L0) w9:=S9
 refine J.lb 8 [] [(3,.string ByteArray.empty)] [] S9 0 rfl 11 (.int .i64 4)<|J.e 7 [.int .i64 0] func65 (hR _ _ ?_)
 exact⟨_,_,_,_,_,rfl,aP (nu_end fk1) (rz_en rfl),⟨om,om⟩,⟨om,om⟩,(fun hi_=>by rw[nu_end fk1] at hi_;cases hi_),S9⟩

theorem qnum_no (b:Nat) (a:Option Addr) (c:Nat) (L:List Tk) (k l cc e:Int) (w0:World) (L0:List Eng.Claim) (w:World) (S0:Sep w0 (box b [.slice a L.length c,.int .i64 k,.int .i64 l,.int .i64 cc,.int .i64 e] 73::aa tkE a c 91 4 L::L0) w) (hk:0≤k∧k≤(L.length:Int)) (he:e≠0):Ret prog 65 #[.pointer (some ⟨b,0,none⟩)] w (fun v w'=>∃ e' a' l' c' x,v=.int .i64 x∧Rz (.no e l cc) e' a' l' c'∧(0≤a'∧a'≤(L.length:Int))∧(0≤x∧x≤10000)∧(isZ (.no e l cc)=true→x=nuV L (.no e l cc))∧Sep w0 (box b [.slice a L.length c,.int .i64 a',.int .i64 l',.int .i64 c',.int .i64 e'] 73::aa tkE a c 91 4 L::L0) w'):=by
 refine Ret.st (N:=70) func65 fun R hR _=>J.r 7 [] [(6,.pointer (some ⟨b,0,none⟩))] []<|J.callF 7 33 #[.pointer (some ⟨b,0,none⟩)] hb33 kr (qtake_no b a c L k l cc e _ _ _ S0 (by first | assumption | decide | omega)) ?_
 rintro _ w1 ⟨rfl,S1⟩
 replace S1:Sep w0 (box b [.slice a L.length c,.int .i64 k,.int .i64 l,.int .i64 cc,.int .i64 e] 73::aa tkE a c 91 4 L::L0) w1:=S1
 refine J.lb 8 [] [(3,.string ByteArray.empty)] [] S1 0 rfl 11 (.int .i64 e) ?_
 have fk2:¬ (e=0):=he
 refine J.h 2 [] [] [] 12 (.bool (e != 0)) (.bool true) (congrArg Value.bool (bne_iff_ne.2 fk2))<|J.e 5 [.int .i64 0] func65 (hR _ _ ?_)
 exact⟨_,_,_,_,_,rfl,rz_no he,hk,⟨om,om⟩,(fun h_=>by cases h_),S1⟩

theorem qnum_any (b:Nat) (a:Option Addr) (c:Nat) (L:List Tk) (X:Pz) (e k l cc:Int) (w0:World) (L0:List Eng.Claim) (w:World) (S0:Sep w0 (box b [.slice a L.length c,.int .i64 k,.int .i64 l,.int .i64 cc,.int .i64 e] 73::aa tkE a c 91 4 L::L0) w) (hz:Rz X e k l cc) (hk:0≤k∧k≤(L.length:Int)) (hL:1≤L.length∧L.length≤1000000) (htk:∀ j,j<L.length→1≤(L.getD j tk0).ag.size∧(L.getD j tk0).ag.size≤1000000):Ret prog 65 #[.pointer (some ⟨b,0,none⟩)] w (fun v w'=>∃ e' a' l' c' x,v=.int .i64 x∧Rz (nuZ L (X)) e' a' l' c'∧(0≤a'∧a'≤(L.length:Int))∧(0≤x∧x≤10000)∧(isZ (nuZ L (X))=true→x=nuV L (X))∧Sep w0 (box b [.slice a L.length c,.int .i64 a',.int .i64 l',.int .i64 c',.int .i64 e'] 73::aa tkE a c 91 4 L::L0) w'):=by
  cases X with
  | ok j=>obtain ⟨h1,h2,h3,h4⟩:=hz;subst h1 h2 h3 h4;exact qnum_ok b a c L k w0 L0 w S0 hk hL htk
  | no x y z=>obtain ⟨h1,h2,h3,h4⟩:=hz;subst h1 h3 h4;exact qnum_no b a c L k l cc e w0 L0 w S0 hk h2
end
end Go.Proofs.YtdneanhkcnfgdaaGreatDoor

namespace Go.Proofs.YtdneanhkcnfgdaaGreatDoor
noncomputable section
open Go.Eng Go.RowKit Go.Proofs.Tryz
set_option maxRecDepth 20000
set_option maxHeartbeats 20000000
theorem hb29:aJ prog 29:=fun _ _=>by kernel_rfl
def K29_0:=adv 26 [] (aY Tryz.f29)
def K29_1:=adv 68 [true,false,false,false,false] K29_0
theorem rlines_any (s:ByteArray) (w:World) (hs:s.size≤1000000):Ret prog 29 #[.string s] w (fun v w'=>∃ a c,∃ out:List Ln,v=.tuple #[.slice a out.length c,.agg #[.int .i64 (blT s),.int .i64 (bcT s)],.bool (okT s)]∧(okT s=true→bW (aF 10 (ls s)) 1=out.map (fun x=>x.bS))∧((∀ x ∈ out,x.gS_n=x.bS.length)∧(out.length:Int)≤s.size+1)∧Sep w (aa lnE a c 63 1 out::tlF out) w'):=by
 refine Ret.st (N:=102) func29 fun R hR S0=>J.nw 3 [] [] [] S0 3 [.int .i64 0,.int .i64 0] 32 fun b1 w1 S1=>J.r 22 [] [(9,.int .i64 0),(8,.int .i64 1),(7,.int .i64 1),(6,.slice none 0 0),(5,.slice none 0 0)] [] ?_
 have S2:Sep w (box b1 [.int .i64 0,.int .i64 0] 32::tlF ([])) w1:=S1
 have S3:Sep w (aa lnE none 0 63 1 ([])::box b1 [.int .i64 0,.int .i64 0] 32::tlF ([])) w1:=S2.nilRow 63 1
 have S4:Sep w (aa tkE none 0 91 4 ([])::aa lnE none 0 63 1 ([])::box b1 [.int .i64 0,.int .i64 0] 32::tlF ([])) w1:=S3.nilRow 91 4
 have L29_1:∀ (mm_:Nat) (ra:Option Addr) (rc:Nat) (out:List Ln) (la:Option Addr) (lc:Nat) (l:List Tk) (ln:Int) (col:Int) (i:Int) (w2:World),(0≤i)→(i≤(s.size:Int))→(1≤ln∧ln≤i+1)→(1≤col∧col≤i+1)→(((out).length:Int)≤i)→(((l).length:Int)≤i)→(∀ x ∈ out,x.gS_n=x.bS.length)→(bW (aF 10 (ls s)) 1=(out).map (fun x=>x.bS)++wdsC ((ls s).drop (i).toNat) [] l ln col)→(badT s=badC ((ls s).drop (i).toNat) ln col)→Sep w (aa tkE la lc 91 4 l::aa lnE ra rc 63 1 out::box b1 [.int .i64 0,.int .i64 0] 32::tlF out) w2→((s.size:Int)-i).toNat=mm_→J prog 29 102 R K29_0 [(9,.int .i64 i),(8,.int .i64 col),(7,.int .i64 ln),(6,.slice la l.length lc),(5,.slice ra out.length rc),(3,.pointer (some ⟨b1,0,none⟩)),(0,.string s)] w2:=by
  intro mm1
  induction mm1 using Nat.strongRecOn with
  | _ mm1 ih1 =>
  intro ra rc out la lc l ln col i w2 h0 h1 hln hcl hol hll hnn hQ hB S5 hm1
  refine J.c 8 [] [] [] 15 (i<(s.size:Int)) (fun fk1=>?_) fun fk1=>?_
  refine J.nw 8 [true] [(18,.agg #[.int .i64 ln,.int .i64 col])] [] S5 10 [.int .i64 0,.int .i64 0] 32 fun b2 w3 S6=>J.sb 0 [] [] [] S6 0 rfl [.int .i64 ln,.int .i64 col] rfl fun w4 S7=>J.r 7 [] [(21,.int .i64 i),(20,.string s)] [] ?_
  have:=aS s (i).toNat
  refine J.ok (OK.byte 22 9 s i (aA s (i).toNat) kr kr om om (rfl))<|J.c 3 [] [] [] 19 ((aA s (i).toNat)=10) (fun fk2=>?_) fun fk2=>?_
  refine J.c 8 [true] [] [] 26 ((l.length:Int)>0) (fun fk3=>?_) fun fk3=>?_
  refine J.r 4 [true] [(28,.slice la l.length lc),(27,.slice ra out.length rc)] []<|J.newSlice S7 29 1 [.slice la l.length lc] 63 kr ?_
  intro b3 w5 S8
  refine J.append lnE S8 3 out (⟨la,l.length,lc,l⟩:Ln) 30 60 (.slice none 0 0) 24 ⟨b3,0,none⟩ 1 rfl kr kr kr kr dE (aU (S8.nth 0 rfl)) kr kr (⟨om,om⟩) ?_
  intro ra1 rc1 w6 S9
  replace S9:Sep w (box b3 [.slice la l.length lc] 63::box b2 [.int .i64 ln,.int .i64 col] 32::aa tkE la lc 91 4 l::aa lnE ra1 rc1 63 1 (out++[(⟨la,l.length,lc,l⟩:Ln)])::box b1 [.int .i64 0,.int .i64 0] 32::tlF out) w6:=S9
  have S10:Sep w (aa tkE la lc 91 4 l::box b2 [.int .i64 ln,.int .i64 col] 32::aa lnE ra1 rc1 63 1 (out++[(⟨la,l.length,lc,l⟩:Ln)])::box b1 [.int .i64 0,.int .i64 0] 32::tlF out) w6:=(S9.erase 0).front 1 rfl
  have S11:Sep w (box b2 [.int .i64 ln,.int .i64 col] 32::aa lnE ra1 rc1 63 1 (out++[(⟨la,l.length,lc,l⟩:Ln)])::box b1 [.int .i64 0,.int .i64 0] 32::aa tkE la lc 91 4 l::tlF out) w6:=S10.back 3
  have S12:Sep w (box b2 [.int .i64 ln,.int .i64 col] 32::aa lnE ra1 rc1 63 1 (out++[(⟨la,l.length,lc,l⟩:Ln)])::box b1 [.int .i64 0,.int .i64 0] 32::tlF (out++[(⟨la,l.length,lc,l⟩:Ln)])) w6:=by rw[tlF_snoc];exact S11
  refine J.wi 10 [] [(6,.slice none 0 0),(5,.slice ra1 ((out++[(⟨la,l.length,lc,l⟩:Ln)]).length) rc1)] [] 32 (ln+1)<|J.wi 7 [] [(8,.int .i64 1),(7,.int .i64 (ln+1))] [] 34 (i+1) ?_
  have S13:Sep w (aa tkE none 0 91 4 ([])::aa lnE ra1 rc1 63 1 (out++[(⟨la,l.length,lc,l⟩:Ln)])::box b1 [.int .i64 0,.int .i64 0] 32::tlF (out++[(⟨la,l.length,lc,l⟩:Ln)])) w6:=(S12.erase 0).nilRow 91 4
  exact J.t 4 (ih1 _ (show((s.size:Int)-(i+1)).toNat<mm1 from by omega) ra1 rc1 (out++[(⟨la,l.length,lc,l⟩:Ln)]) none 0 ([]) (ln+1) 1 (i+1) w6 om om om om (by (try rw[List.length_append,List.length_singleton]);(try rw[List.length_nil]);omega) (by (try rw[List.length_append,List.length_singleton]);(try rw[List.length_nil]);omega) (by intro x hx;rcases List.mem_append.1 hx with hx | hx;(exact hnn x hx);(rw[List.mem_singleton.1 hx])) (wr_add (wl_line hQ h0 om fk2) om rfl) (bc_line hB h0 om fk2) S13 rfl)
  refine J.wi 10 [false] [(6,.slice none 0 0)] [] 32 (ln+1)<|J.wi 7 [] [(8,.int .i64 1),(7,.int .i64 (ln+1))] [] 34 (i+1) ?_
  have S14:Sep w (aa tkE none 0 91 4 ([])::aa lnE ra rc 63 1 out::box b1 [.int .i64 0,.int .i64 0] 32::tlF out) w4:=((S7.erase 1).erase 0).nilRow 91 4
  exact J.t 4 (ih1 _ (show((s.size:Int)-(i+1)).toNat<mm1 from by omega) ra rc out none 0 ([]) (ln+1) 1 (i+1) w4 om om om om (by (try rw[List.length_append,List.length_singleton]);(try rw[List.length_nil]);omega) (by (try rw[List.length_append,List.length_singleton]);(try rw[List.length_nil]);omega) (hnn) (wr_not (wl_line hQ h0 om fk2) om) (bc_line hB h0 om fk2) S14 rfl)
  refine J.r 5 [false] [(37,.int .i64 i),(36,.string s)] [] ?_
  have:=aS s (i).toNat
  refine J.ok (OK.byte 38 9 s i (aA s (i).toNat) kr kr om om (rfl))<|J.c 3 [] [] [] 35 ((aA s (i).toNat)=32) (fun fk4=>?_) fun fk4=>?_
  exact J.wi 5 [true] [] [] 41 (i+1)<|J.wi 2 [] [] [] 43 (col+1)<|J.t 5 (ih1 _ (show((s.size:Int)-(i+1)).toNat<mm1 from by omega) ra rc out la lc l ln (col+1) (i+1) w4 om om om om (by (try rw[List.length_append,List.length_singleton]);(try rw[List.length_nil]);omega) (by (try rw[List.length_append,List.length_singleton]);(try rw[List.length_nil]);omega) (hnn) (wl_blank hQ h0 om om) (bc_ok hB h0 om (.inr (.inr om))) (S7.erase 0) rfl)
  refine J.r 5 [false] [(46,.int .i64 i),(45,.string s)] [] ?_
  have:=aS s (i).toNat
  refine J.ok (OK.byte 47 9 s i (aA s (i).toNat) kr kr om om (rfl))<|J.c 3 [] [] [] 44 ((aA s (i).toNat)=44) (fun fk5=>?_) fun fk5=>?_
  refine J.lb 4 [true] [(49,.slice la l.length lc)] [] S7 0 rfl 50 (.agg #[.int .i64 ln,.int .i64 col])<|J.r 1 [] [(51,.agg #[.int .i64 0,.string ⟨#[44]⟩,.int .i64 ln,.int .i64 col])] []<|J.newSlice S7 52 1 [.int .i64 0,.string ⟨#[44]⟩,.int .i64 ln,.int .i64 col] 91 kr ?_
  intro b4 w7 S15
  refine J.append tkE S15 2 l (⟨0,⟨#[44]⟩,ln,col⟩:Tk) 53 63 (.agg #[.int .i64 0,.string ByteArray.empty,.int .i64 0,.int .i64 0]) 40 ⟨b4,0,none⟩ 1 rfl kr kr kr kr dE (aU (S15.nth 0 rfl)) kr kr (⟨om,om⟩) ?_
  intro ra2 rc2 w8 S16
  replace S16:Sep w (box b4 [.int .i64 0,.string ⟨#[44]⟩,.int .i64 ln,.int .i64 col] 91::box b2 [.int .i64 ln,.int .i64 col] 32::aa tkE ra2 rc2 91 4 (l++[(⟨0,⟨#[44]⟩,ln,col⟩:Tk)])::aa lnE ra rc 63 1 out::box b1 [.int .i64 0,.int .i64 0] 32::tlF out) w8:=S16
  exact J.wi 6 [] [(6,.slice ra2 ((l++[(⟨0,⟨#[44]⟩,ln,col⟩:Tk)]).length) rc2)] [] 55 (i+1)<|J.wi 2 [] [] [] 57 (col+1)<|J.t 5 (ih1 _ (show((s.size:Int)-(i+1)).toNat<mm1 from by omega) ra rc out ra2 rc2 (l++[(⟨0,⟨#[44]⟩,ln,col⟩:Tk)]) ln (col+1) (i+1) w8 om om om om (by (try rw[List.length_append,List.length_singleton]);(try rw[List.length_nil]);omega) (by (try rw[List.length_append,List.length_singleton]);(try rw[List.length_nil]);omega) (hnn) (wl_comma hQ h0 om om) (bc_ok hB h0 om (.inr (.inl om))) ((S16.erase 0).erase 0) rfl)
  refine J.r 5 [false] [(60,.int .i64 i),(59,.string s)] [] ?_
  have:=aS s (i).toNat
  refine J.ok (OK.byte 61 9 s i (aA s (i).toNat) kr kr om om (rfl))<|J.c0 0 [] [] [] S7 62 hb60 (part_any (aA s (i).toNat) _) fun w9 S17=>J.bn 3 [] [] [] 58 (aG (aA s (i).toNat)) (fun fk6=>?_) fun fk6=>?_
  have L29_2:∀ (mm_:Nat) (k:Int) (w10:World),(i≤k)→(k≤(s.size:Int))→(i<k∨(k=i∧aG (aA s (k).toNat)=true))→(bW (aF 10 (ls s)) 1=(out).map (fun x=>x.bS)++wdsC ((ls s).drop (k).toNat) (ls (s.extract (i).toNat (k).toNat)) l ln (col+k-i))→(badT s=badC ((ls s).drop (k).toNat) ln (col+k-i))→Sep w (box b2 [.int .i64 ln,.int .i64 col] 32::aa tkE la lc 91 4 l::aa lnE ra rc 63 1 out::box b1 [.int .i64 0,.int .i64 0] 32::tlF out) w10→((s.size:Int)-k).toNat=mm_→J prog 29 102 R K29_1 [(11,.int .i64 k),(10,.pointer (some ⟨b2,0,none⟩)),(9,.int .i64 i),(8,.int .i64 col),(7,.int .i64 ln),(6,.slice la l.length lc),(5,.slice ra out.length rc),(3,.pointer (some ⟨b1,0,none⟩)),(0,.string s)] w10:=by
   intro mm2
   induction mm2 using Nat.strongRecOn with
   | _ mm2 ih2 =>
   intro k w10 k0 k1_ hk2 hK hbk S18 hm2
   refine J.c 8 [] [] [] 70 (k<(s.size:Int)) (fun fk7=>?_) fun fk7=>?_
   refine J.r 2 [] [(72,.int .i64 k),(71,.string s)] [] ?_
   have:=aS s (k).toNat
   refine J.ok (OK.byte 73 9 s k (aA s (k).toNat) kr kr om om (rfl))<|J.c0 0 [] [] [] S18 74 hb60 (part_any (aA s (k).toNat) _) fun w11 S19=>J.b 2 [] [] [] 75 (aG (aA s (k).toNat)) (fun fk8=>?_) fun fk8=>?_
   exact J.wi 6 [true] [] [] 77 (k+1)<|J.t 4 (ih2 _ (show((s.size:Int)-(k+1)).toNat<mm2 from by omega) (k+1) w11 om om (.inl om) (wl_step hK h0 om om fk8) (by rw[show col+(k+1)-i=col+k-i+1 by omega];exact bc_ok hbk om om (.inl fk8)) S19 rfl)
   have hik:i<k:=by rcases hk2 with h_ | ⟨_,h2_⟩;(exact h_);(rw[fk8] at h2_;cases h2_)
   refine J.r 3 [false] [] []<|J.drawPlan (fun w_=>Sep w (box b2 [.int .i64 ln,.int .i64 col] 32::aa lnE ra rc 63 1 out::box b1 [.int .i64 0,.int .i64 0] 32::tlF out) w_) [(0,true),(1,true),(2,true),(3,true),(4,true),(5,true),(6,true),(7,false),(8,false),(9,true)] S19 Tryz.mixed kr (bj (T:=[(0,some 78,64),(0,some 79,1),(0,some 80,512),(0,some 81,2048),(14,some 82,4231240368651202111471616),(0,some 83,1024),(48,some 84,14507109835375550096474112),(64,some 85,19342813113834066795298816),(129,some 86,38987857682571790884274176),(511,some 6,77371252455336267181195264)]) kr kr) ?_
   intro w12 S20
   refine PB.mk (S20.erase 1)<|PL.take 0 78 (.slice la l.length lc) (fun _ _=>kr)<|PL.take 1 79 (.string s) (fun _ _=>kr)<|PL.take 2 80 (.int .i64 i) (fun _ _=>kr)<|PL.take 3 81 (.int .i64 k) (fun _ _=>kr)<|PL.takeOK 4 (fun w_ S_=>OK.sliceT 82 9 s (some (.int .i64 i)) (some (.int .i64 k)) ((i).toNat) ((k).toNat) kr kr (.inr ⟨_,_,rfl,om⟩) (.inr ⟨_,_,rfl,om⟩) oz oz) rfl<|PL.takeOK 5 (fun w_ S_=>OK.ldBox S_ 0 83 32 0 (.agg #[.int .i64 ln,.int .i64 col]) kr rfl kr) rfl<|PL.take 6 84 (.agg #[.int .i64 0,.string (s.extract ((i).toNat) ((k).toNat)),.int .i64 ln,.int .i64 col]) (fun _ _=>kr)<|PL.newSlice S20 85 1 [.int .i64 0,.string (s.extract ((i).toNat) ((k).toNat)),.int .i64 ln,.int .i64 col] 91 kr ?_
   intro b5 w13 S21
   refine PB.mk ((S21.erase 2).erase 0)<|PL.append tkE S21 2 l (⟨0,(s.extract ((i).toNat) ((k).toNat)),ln,col⟩:Tk) 86 63 (.agg #[.int .i64 0,.string ByteArray.empty,.int .i64 0,.int .i64 0]) 40 ⟨b5,0,none⟩ 1 rfl kr kr kr kr dE (aU (S21.nth 0 rfl)) kr kr (⟨om,om⟩) ?_
   intro ra3 rc3 w14 S22
   replace S22:Sep w (box b5 [.int .i64 0,.string (s.extract ((i).toNat) ((k).toNat)),.int .i64 ln,.int .i64 col] 91::box b2 [.int .i64 ln,.int .i64 col] 32::aa tkE ra3 rc3 91 4 (l++[(⟨0,(s.extract ((i).toNat) ((k).toNat)),ln,col⟩:Tk)])::aa lnE ra rc 63 1 out::box b1 [.int .i64 0,.int .i64 0] 32::tlF out) w14:=S22
   have S23:Sep w (box b2 [.int .i64 ln,.int .i64 col] 32::aa tkE ra3 rc3 91 4 (l++[(⟨0,(s.extract ((i).toNat) ((k).toNat)),ln,col⟩:Tk)])::aa lnE ra rc 63 1 out::box b1 [.int .i64 0,.int .i64 0] 32::tlF out) w14:=S22.erase 0
   clear S22
   exact PB.mk (S23.erase 1)<|PL.take 9 6 (.slice ra3 ((l++[(⟨0,(s.extract ((i).toNat) ((k).toNat)),ln,col⟩:Tk)]).length) rc3) (fun _ _=>kr)<|PL.done<|J.wi 5 [] [] [] 89 (col+k)<|J.wi 2 [] [] [] 91 ((col+k)-i)<|J.t 8 (ih1 _ (show((s.size:Int)-k).toNat<mm1 from by omega) ra rc out ra3 rc3 (l++[(⟨0,(s.extract ((i).toNat) ((k).toNat)),ln,col⟩:Tk)]) ln ((col+k)-i) k w14 om om om om (by (try rw[List.length_append,List.length_singleton]);(try rw[List.length_nil]);omega) (by (try rw[List.length_append,List.length_singleton]);(try rw[List.length_nil]);omega) (hnn) (wl_word hK h0 hik om (fun h_=>fk8)) (hbk) (S23.erase 0) rfl)
   have hik:i<k:=by omega
   refine J.r 9 [false] [] []<|J.drawPlan (fun w_=>Sep w (box b2 [.int .i64 ln,.int .i64 col] 32::aa lnE ra rc 63 1 out::box b1 [.int .i64 0,.int .i64 0] 32::tlF out) w_) [(0,true),(1,true),(2,true),(3,true),(4,true),(5,true),(6,true),(7,false),(8,false),(9,true)] S18 Tryz.mixed kr (bj (T:=[(0,some 78,64),(0,some 79,1),(0,some 80,512),(0,some 81,2048),(14,some 82,4231240368651202111471616),(0,some 83,1024),(48,some 84,14507109835375550096474112),(64,some 85,19342813113834066795298816),(129,some 86,38987857682571790884274176),(511,some 6,77371252455336267181195264)]) kr kr) ?_
   intro w15 S24
   refine PB.mk (S24.erase 1)<|PL.take 0 78 (.slice la l.length lc) (fun _ _=>kr)<|PL.take 1 79 (.string s) (fun _ _=>kr)<|PL.take 2 80 (.int .i64 i) (fun _ _=>kr)<|PL.take 3 81 (.int .i64 k) (fun _ _=>kr)<|PL.takeOK 4 (fun w_ S_=>OK.sliceT 82 9 s (some (.int .i64 i)) (some (.int .i64 k)) ((i).toNat) ((k).toNat) kr kr (.inr ⟨_,_,rfl,om⟩) (.inr ⟨_,_,rfl,om⟩) oz oz) rfl<|PL.takeOK 5 (fun w_ S_=>OK.ldBox S_ 0 83 32 0 (.agg #[.int .i64 ln,.int .i64 col]) kr rfl kr) rfl<|PL.take 6 84 (.agg #[.int .i64 0,.string (s.extract ((i).toNat) ((k).toNat)),.int .i64 ln,.int .i64 col]) (fun _ _=>kr)<|PL.newSlice S24 85 1 [.int .i64 0,.string (s.extract ((i).toNat) ((k).toNat)),.int .i64 ln,.int .i64 col] 91 kr ?_
   intro b6 w16 S25
   refine PB.mk ((S25.erase 2).erase 0)<|PL.append tkE S25 2 l (⟨0,(s.extract ((i).toNat) ((k).toNat)),ln,col⟩:Tk) 86 63 (.agg #[.int .i64 0,.string ByteArray.empty,.int .i64 0,.int .i64 0]) 40 ⟨b6,0,none⟩ 1 rfl kr kr kr kr dE (aU (S25.nth 0 rfl)) kr kr (⟨om,om⟩) ?_
   intro ra4 rc4 w17 S26
   replace S26:Sep w (box b6 [.int .i64 0,.string (s.extract ((i).toNat) ((k).toNat)),.int .i64 ln,.int .i64 col] 91::box b2 [.int .i64 ln,.int .i64 col] 32::aa tkE ra4 rc4 91 4 (l++[(⟨0,(s.extract ((i).toNat) ((k).toNat)),ln,col⟩:Tk)])::aa lnE ra rc 63 1 out::box b1 [.int .i64 0,.int .i64 0] 32::tlF out) w17:=S26
   have S27:Sep w (box b2 [.int .i64 ln,.int .i64 col] 32::aa tkE ra4 rc4 91 4 (l++[(⟨0,(s.extract ((i).toNat) ((k).toNat)),ln,col⟩:Tk)])::aa lnE ra rc 63 1 out::box b1 [.int .i64 0,.int .i64 0] 32::tlF out) w17:=S26.erase 0
   clear S26
   exact PB.mk (S27.erase 1)<|PL.take 9 6 (.slice ra4 ((l++[(⟨0,(s.extract ((i).toNat) ((k).toNat)),ln,col⟩:Tk)]).length) rc4) (fun _ _=>kr)<|PL.done<|J.wi 5 [] [] [] 89 (col+k)<|J.wi 2 [] [] [] 91 ((col+k)-i)<|J.t 8 (ih1 _ (show((s.size:Int)-k).toNat<mm1 from by omega) ra rc out ra4 rc4 (l++[(⟨0,(s.extract ((i).toNat) ((k).toNat)),ln,col⟩:Tk)]) ln ((col+k)-i) k w17 om om om om (by (try rw[List.length_append,List.length_singleton]);(try rw[List.length_nil]);omega) (by (try rw[List.length_append,List.length_singleton]);(try rw[List.length_nil]);omega) (hnn) (wl_word hK h0 hik om (fun h_=>om)) (hbk) (S27.erase 0) rfl)
  exact J.t 11 (L29_2 _ i w9 om om (.inr ⟨rfl,fk6⟩) (wl_start hQ) (by rw[show col+i-i=col by omega];exact hB) S17 rfl)
  refine J.r 2 [true] [] []<|J.drawPlan (fun w_=>Sep w (box b2 [.int .i64 ln,.int .i64 col] 32::aa tkE la lc 91 4 l::aa lnE ra rc 63 1 out::tlF out) w_) [(0,true),(1,true),(2,false),(3,true)] S17 Tryz.mixed kr (bj (T:=[(0,some 64,1024),(0,some 2,0),(3,none,18446744073709551624),(7,some 4,0)]) kr kr) ?_
  intro w18 S28
  refine PB.mk (S28.erase 3)<|PL.takeOK 0 (fun w_ S_=>OK.ldBox S_ 0 64 32 0 (.agg #[.int .i64 ln,.int .i64 col]) kr rfl kr) rfl<|PL.take 1 2 (.slice none 0 0) (fun _ _=>kr)<|PL.stBox S28 3 32 0 (.agg #[.int .i64 ln,.int .i64 col]) [.int .i64 ln,.int .i64 col] (box b2 [.int .i64 ln,.int .i64 col] 32::aa tkE la lc 91 4 l::aa lnE ra rc 63 1 out::box b1 [.int .i64 ln,.int .i64 col] 32::tlF out) kr rfl kr kr rfl ?_
  intro w19 S29
  refine PB.mk (S29.erase 3)<|PL.take 3 4 (.bool false) (fun _ _=>kr)<|PL.done<|J.ret Tryz.f29 [.slice none 0 0,.agg #[.int .i64 ln,.int .i64 col],.bool false] func29 ⟨kr,⟨⟨b1,0,none⟩,kr,aI (S29.nth 3 rfl) kr⟩,kr,trivial⟩<|hR _ _ ?_
  obtain ⟨e1,e2,e3⟩:=okT_no (bc_bad hB h0 om fk6 om om om)
  exact⟨none,0,[],by rw[e1,e2,e3];rfl,(fun h_=>by rw[e1] at h_;cases h_),⟨(fun x hx=>by cases hx),by simp;omega⟩,S29.nil.nilRow 63 1⟩
  refine J.c 9 [false] [] [] 95 ((l.length:Int)>0) (fun fk9=>?_) fun fk9=>?_
  refine J.r 4 [true] [(97,.slice la l.length lc),(96,.slice ra out.length rc)] []<|J.newSlice S5 98 1 [.slice la l.length lc] 63 kr ?_
  intro b7 w20 S30
  refine J.append lnE S30 2 out (⟨la,l.length,lc,l⟩:Ln) 99 60 (.slice none 0 0) 24 ⟨b7,0,none⟩ 1 rfl kr kr kr kr dE (aU (S30.nth 0 rfl)) kr kr (⟨om,om⟩) ?_
  intro ra5 rc5 w21 S31
  replace S31:Sep w (box b7 [.slice la l.length lc] 63::aa tkE la lc 91 4 l::aa lnE ra5 rc5 63 1 (out++[(⟨la,l.length,lc,l⟩:Ln)])::box b1 [.int .i64 0,.int .i64 0] 32::tlF out) w21:=S31
  have S32:Sep w (aa lnE ra5 rc5 63 1 (out++[(⟨la,l.length,lc,l⟩:Ln)])::box b1 [.int .i64 0,.int .i64 0] 32::aa tkE la lc 91 4 l::tlF out) w21:=(S31.erase 0).back 2
  have S33:Sep w (aa lnE ra5 rc5 63 1 (out++[(⟨la,l.length,lc,l⟩:Ln)])::box b1 [.int .i64 0,.int .i64 0] 32::tlF (out++[(⟨la,l.length,lc,l⟩:Ln)])) w21:=by rw[tlF_snoc];exact S32
  refine J.sb 7 [] [(2,.slice ra5 ((out++[(⟨la,l.length,lc,l⟩:Ln)]).length) rc5)] [5] S33 1 rfl [.int .i64 0,.int .i64 0] rfl fun w22 S34=>J.r 2 [] [(4,.bool true)] []<|J.ret Tryz.f29 [.slice ra5 ((out++[(⟨la,l.length,lc,l⟩:Ln)]).length) rc5,.agg #[.int .i64 0,.int .i64 0],.bool true] func29 ⟨kr,⟨⟨b1,0,none⟩,kr,aI (S34.nth 1 rfl) kr⟩,kr,trivial⟩<|hR _ _ ?_
  obtain ⟨e1,e2,e3⟩:=okT_yes (bc_done hB om)
  exact⟨_,_,_,by rw[e1,e2,e3];rfl,(fun _=>wr_fin (wr_add (wl_stop hQ om) om rfl)),⟨(by intro x hx;rcases List.mem_append.1 hx with hx | hx;(exact hnn x hx);(rw[List.mem_singleton.1 hx])),by (try rw[List.length_append,List.length_singleton]);omega⟩,(S34.erase 1)⟩
  refine J.sb 7 [false] [(2,.slice ra out.length rc)] [] S5 2 rfl [.int .i64 0,.int .i64 0] rfl fun w23 S35=>J.r 2 [] [(4,.bool true)] []<|J.ret Tryz.f29 [.slice ra out.length rc,.agg #[.int .i64 0,.int .i64 0],.bool true] func29 ⟨kr,⟨⟨b1,0,none⟩,kr,aI (S35.nth 2 rfl) kr⟩,kr,trivial⟩<|hR _ _ ?_
  obtain ⟨e1,e2,e3⟩:=okT_yes (bc_done hB om)
  exact⟨_,_,_,by rw[e1,e2,e3];rfl,(fun _=>wr_fin (wr_not (wl_stop hQ om) om)),⟨hnn,by (try rw[List.length_append,List.length_singleton]);omega⟩,((S35.erase 2).erase 0)⟩
 exact J.t 0 (L29_1 _ none 0 ([]) none 0 ([]) 1 1 0 w1 om om om om (by simp) (by simp) (fun x hx=>by cases hx) (wl_first s) (bc_first s) S4 rfl)
end
end Go.Proofs.YtdneanhkcnfgdaaGreatDoor
