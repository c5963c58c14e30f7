/- Walks of functions of this seat, printed by a program over the engine. Conditions: as each theorem says. -/
import Derived.Test.YtaoolgcddapegaaGreatZqV7
set_option linter.unusedSimpArgs false
set_option linter.unusedVariables false
namespace Go.Proofs.YtaoolgcddapegaaGreat
noncomputable section
open Go.Eng Go.RowKit Go.Proofs.Tryz
set_option maxRecDepth 20000
set_option maxHeartbeats 20000000
structure Crv where
  cF:Option Addr
  aQ:Nat
  dm:Nat
  aG:List Int
  cM:Option Addr
  bB:Nat
  dw:Nat
  aV:List Int
def crvE (x:Crv):List Value:=[.slice x.cF x.aQ x.dm,.slice x.cM x.bB x.dw]
def crvQ (w:World) (x:Crv):Prop:=(x.aQ≤x.dm∧x.dm≤9223372036854775807)∧Ones (Value.int .i64) w x.cF x.aQ x.aG∧(∀ y ∈ x.aG,(fun n=>(-9223372036854775808)≤n∧n≤9223372036854775807) y)∧(x.bB≤x.dw∧x.dw≤9223372036854775807)∧Ones (Value.int .i64) w x.cM x.bB x.aV∧(∀ y ∈ x.aV,(fun n=>(-9223372036854775808)≤n∧n≤9223372036854775807) y)∧True
theorem dV {w0 w:World} {L:List Eng.Claim} {x:Crv} (h:crvQ w0 x) (S:Sep w0 L w):crvQ w x:=by
  obtain ⟨hgX1,hgX2,hgX3,hgY1,hgY2,hgY3,_⟩:=h
  exact⟨hgX1,hgX2.sep S,hgX3,hgY1,hgY2.sep S,hgY3,trivial⟩
abbrev crvC (x:Crv):List Value:=[.slice x.cF x.aQ x.dm,.slice x.cM x.bB x.dw]
abbrev crvA (x:Crv):Array Value:=#[.slice x.cF x.aQ x.dm,.slice x.cM x.bB x.dw]
theorem axis_adj {l:List Int} (h1:2≤l.length) (h2:l.length≤32) (h3:l.all elB=true) (h:∀ j,j+1<l.length→l.getD j 0<l.getD (j+1) 0):bW l=true:=by
  refine axis_yes h1 h2 fun j hj=>?_
  unfold nodeB
  rw[(cI 0).1 h3 j hj,Bool.true_and,Bool.or_eq_true]
  cases j with
  | zero=>left;rfl
  | succ j=>right;exact decide_eq_true (h j hj)
theorem axis_far {l:List Int} (h:l.all elB=false):bW l=false:=by
  cases hx:bW l with
  | false=>rfl
  | true =>
    have:l.all elB=true:=(cI 0).2 fun j hj=>elB_iff.2 ((bV hx).2.1 j hj)
    rw[this] at h;cases h
theorem axis_down {l:List Int} {i:Int} (h0:0≤i) (hi:i+1<(l.length:Int)) (h:l.getD i.toNat 0≥l.getD (i+1).toNat 0):bW l=false :=
  axis_bad (i:=i+1) om hi (node_no om (.inr ⟨om,by rw[show i+1-1=i by omega];exact h⟩))
def cB (c:Crv):Bool:=c.aQ==c.bB&&bW c.aG&&c.aV.all elB
theorem validV_facts {c:Crv} (h:cB c=true):c.aQ=c.bB∧bW c.aG=true∧∀ j,j<c.aV.length→ -1073741824≤c.aV.getD j 0∧c.aV.getD j 0≤1073741824:=by
  simp only[cB,Bool.and_eq_true,beq_iff_eq] at h
  exact⟨h.1.1,h.1.2,fun j hj=>elB_iff.1 ((cI 0).1 h.2 j hj)⟩
theorem validV_no {c:Crv} (h:c.aQ≠c.bB∨bW c.aG=false∨c.aV.all elB=false):cB c=false:=by
  unfold cB
  rcases h with h | h | h
  · rw[beq_eq_false_iff_ne.2 h];rfl
  · rw[h];simp
  · rw[h];simp
theorem validV_yes {c:Crv} (h1:c.aQ=c.bB) (h2:bW c.aG=true) (h3:c.aV.all elB=true):cB c=true:=by unfold cB;rw[h1,h2,h3];simp
def valueV (c:Crv) (x:Int):Int:=cV c.aG c.aV x
def atV (c:Crv) (x:Int):Int:=if cB c then valueV c x else 0
theorem seg_found {l:List Int} {x r:Int} (ax:bW l=true) (hx:l.getD 0 0≤x∧x<l.getD (l.length-1) 0) (h0:0≤r∧r≤(l.length:Int)) (h1:r=0∨decide (l.getD (r-1).toNat 0>x)=false) (h2:r=(l.length:Int)∨decide (l.getD r.toNat 0>x)=true) :
    (0≤r-1∧r-1+1<(l.length:Int))∧l.getD (r-1).toNat 0≤x∧x<l.getD (r-1+1).toNat 0:=by
  have hl:=(bV ax).1
  have hr0:r≠0:=by
    intro e;subst e
    rcases h2 with h | h
    · omega
    · have:=of_decide_eq_true h;simp only[Int.toNat_zero] at this;omega
  have h1':l.getD (r-1).toNat 0≤x:=by
    rcases h1 with h | h
    · exact absurd h hr0
    · rw[decide_eq_false_iff_not] at h;omega
  have hrn:r≠(l.length:Int):=by
    intro e
    rw[e,show((l.length:Int)-1).toNat=l.length-1 by omega] at h1';omega
  have h2':l.getD r.toNat 0>x:=by
    rcases h2 with h | h
    · exact absurd h hrn
    · exact of_decide_eq_true h
  rw[show r-1+1=r by omega]
  exact⟨om,h1',h2'⟩
theorem curve_mid {xs ys:List Int} {x i:Int} (ax:bW xs=true) (hx:¬ x≤xs.getD 0 0∧¬ xs.getD (xs.length-1) 0≤x) (h0:0≤i∧i+1<(xs.length:Int)) (h1:xs.getD i.toNat 0≤x) (h2:x<xs.getD (i+1).toNat 0) :
    cV xs ys x=ys.getD i.toNat 0+(x-xs.getD i.toNat 0)*(ys.getD (i+1).toNat 0-ys.getD i.toNat 0)/(xs.getD (i+1).toNat 0-xs.getD i.toNat 0):=by
  have e:(i+1).toNat=i.toNat+1:=by omega
  rw[e] at h2 ⊢
  exact curve_seg ax om h1 om (.inl h2) om

theorem hb85:af prog 85:=fun _ _=>by kernel_rfl

theorem cfar_any (n:Int) (w:World):Ret prog 85 #[iv n] w (fun v w'=>v=.bool (!elB n)∧Sep w [] w'):=by
 refine Ret.st (N:=9) func85 fun R hR S0=>J.c 9 [] [] [] 5 (n<(-1073741824)) (fun fk1=>?_) fun fk1=>?_
 refine J.e 5 [.bool true] func85 (hR _ _ ?_)
 exact⟨congrArg Value.bool (by rw[Bool.eq_iff_iff];simp[elB];omega),S0.nil⟩
 refine J.e 5 [.bool (decide (n>1073741824))] func85 (hR _ _ ?_)
 exact⟨congrArg Value.bool (by rw[Bool.eq_iff_iff];simp[elB];omega),S0.nil⟩

theorem hb84:af prog 84:=fun _ _=>by kernel_rfl
def K84_0:=adv 32 [false] (bi Tryz.f84)
theorem caxis_any (la:Option Addr) (len cap:Nat) (l:List Int) (w:World) (hI:dj w la len l) (hlen:len≤9223372036854775807):Ret prog 84 #[.slice la len cap] w (fun v w'=>v=.bool (bW l)∧Sep w [] w'):=by
 refine Ret.st (N:=33) func84 fun R hR S0=>?_
 have hll:=hI.len_eq
 refine J.c 11 [] [] [] 7 ((len:Int)<2) (fun fk1=>?_) fun fk1=>?_
 refine J.e 14 [.bool false] func84 (hR _ _ ?_)
 exact⟨congrArg Value.bool (axis_no om).symm,S0.nil⟩
 refine J.c 5 [] [] [] 12 ((len:Int)>32) (fun fk2=>?_) fun fk2=>?_
 refine J.e 9 [.bool false] func84 (hR _ _ ?_)
 exact⟨congrArg Value.bool (axis_no om).symm,S0.nil⟩
 refine J.r 1 [] [(13,.slice la len cap)] []<|J.callF 14 41 #[.slice la len cap,.func (.func 85) #[] #[]] hb41 kr (containsI0 la len cap l 85  (fun x=> !elB x) _ (hI.sep S0) oz hb85 (fun i_ w_ hi_ S_=>cfar_any _ w_)) ?_
 rintro _ w1 ⟨rfl,T1⟩
 have S1:Sep w [] w1:=S0.trans T1
 refine J.b 2 [] [] [] 15 (List.any l (fun x=> !elB x)) (fun fk3=>?_) fun fk3=>?_
 refine J.e 5 [.bool false] func84 (hR _ _ ?_)
 exact⟨congrArg Value.bool (axis_far (by have h_:=fk3;rw[dA] at h_;simpa using h_)).symm,S1.nil⟩
 refine J.wi 8 [false] [] [] 18 ((len:Int)-1) ?_
 have L84_1:∀ (mm_:Nat) (i:Int) (w2:World),(0≤i)→(i+1≤(len:Int))→(∀ j,j<(i).toNat→l.getD j 0<l.getD (j+1) 0)→Sep w [] w2→((len:Int)-i).toNat=mm_→J prog 84 33 R K84_0 [(19,iv i),(18,iv ((len:Int)-1)),(0,.slice la len cap)] w2:=by
  intro mm1
  induction mm1 using Nat.strongRecOn with
  | _ mm1 ih1 =>
  intro i w2 h0 h1 hq S2 hm1
  refine J.c 5 [] [] [] 20 (i<((len:Int)-1)) (fun fk4=>?_) fun fk4=>?_
  refine J.r 10 [true] [(3,iv i)] [] ?_
  obtain ⟨p1,hp1,hc1⟩:=hI.at 0 (i).toNat om
  obtain ⟨p2,hp2,hc2⟩:=hI.at 0 (i+1).toNat om
  refine J.drawStill S2 10 Tryz.mixed kr kr kr ?_
  intro w3 S3
  refine SL.r 22 (.slice la len cap)<|SL.r 23 (iv i)<|SL.ok dE (OK.index 24 26 1 la p1 len (i).toNat i (p1.add (i).toNat) kr kr hp1 om om nO)<|SL.ok dE (OK.ldCell 25 3 (p1.add (i).toNat) (iv (l.getD (i).toNat 0)) kr kr (S3.cell hc1))<|SL.r 26 (.slice la len cap)<|SL.r 27 (iv i)<|SL.r 28 (iv (IntKind.wrap .i64 (i+1)))<|SL.head (iv (i+1)) (congrArg (Value.int .i64) (IntWalk.i64_in _ om))<|SL.ok dE (OK.index 29 26 1 la p2 len (i+1).toNat (i+1) (p2.add (i+1).toNat) kr kr hp2 om om nO)<|SL.ok dE (OK.ldCell 30 3 (p2.add (i+1).toNat) (iv (l.getD (i+1).toNat 0)) kr kr (S3.cell hc2))<|SL.r 31 (.bool (decide ((l.getD (i).toNat 0)≥(l.getD (i+1).toNat 0)))) ?_
  refine SL.done<|TL.done kr<|J.c 0 [] [] [] 31 ((l.getD (i).toNat 0)≥(l.getD (i+1).toNat 0)) (fun fk5=>?_) fun fk5=>?_
  refine J.e 5 [.bool false] func84 (hR _ _ ?_)
  exact⟨congrArg Value.bool (axis_down h0 om om).symm,S3.nil⟩
  exact J.wi 5 [false] [] [] 32 (i+1)<|J.t 3 (ih1 _ (show((len:Int)-(i+1)).toNat<mm1 from by omega) (i+1) w3 om om (cW (q:=fun j=>l.getD j 0<l.getD (j+1) 0) h0 hq (by rw[show i.toNat+1=(i+1).toNat by omega];omega)) S3 rfl)
  refine J.e 6 [.bool true] func84 (hR _ _ ?_)
  exact⟨congrArg Value.bool (axis_adj om om (by have h_:=fk3;rw[dA] at h_;simpa using h_) fun j hj=>hq j om).symm,S2.nil⟩
 exact J.t 4 (L84_1 _ 0 w1 om om (by intro j hj;simp at hj) S1 rfl)

theorem hb50:af prog 50:=fun _ _=>by kernel_rfl

theorem cvalid_any (c:Crv) (w:World) (hc:crvQ w c):Ret prog 50 #[.agg (crvA c)] w (fun v w'=>v=.bool (cB c)∧Sep w [] w'):=by
 refine Ret.st (N:=21) func50 fun R hR S0=>?_
 obtain ⟨q1,q2,q3,q4,q5,q6,_⟩:=id hc
 have ql1:=q2.len_eq
 have ql2:=q5.len_eq
 refine J.nw 2 [] [] [] S0 1 (crvC c) 57 fun b1 w1 S1=>J.lb 5 [] [] [] S1 0 rfl 4 (.slice c.cF c.aQ c.dm)<|J.lb 2 [] [(5,iv (c.aQ:Int))] [] S1 0 rfl 7 (.slice c.cM c.bB c.dw)<|J.c 3 [] [] [] 10 ((c.aQ:Int)=(c.bB:Int)) (fun fk1=>?_) fun fk1=>?_
 refine J.lb 1 [] [] [] S1 0 rfl 12 (.slice c.cF c.aQ c.dm)<|J.c0 0 [] [] [] S1 13 hb84 (caxis_any c.cF c.aQ c.dm c.aG _ (q2.sep S1) oz) fun w2 S2=>J.b 2 [] [] [] 15 (bW c.aG) (fun fk2=>?_) fun fk2=>?_
 refine J.lb 1 [] [] [] S2 0 rfl 17 (.slice c.cM c.bB c.dw)<|J.callF 18 41 #[.slice c.cM c.bB c.dw,.func (.func 85) #[] #[]] hb41 kr (containsI0 c.cM c.bB c.dw c.aV 85  (fun x=> !elB x) _ (q5.sep S2) oz hb85 (fun i_ w_ hi_ S_=>cfar_any _ w_)) ?_
 rintro _ w3 ⟨rfl,T1⟩
 have S3:Sep w [box b1 (crvC c) 57] w3:=S2.trans T1
 refine J.e 4 [.bool (!(List.any c.aV (fun x=> !elB x)))] func50 (hR _ _ ?_)
 exact⟨congrArg Value.bool (by unfold cB;rw[fk2,show c.aQ=c.bB by omega,dA];simp),S3.nil⟩
 refine J.e 7 [.bool false] func50 (hR _ _ ?_)
 exact⟨congrArg Value.bool (validV_no (by first | exact .inr (.inl fk2) | exact .inl om)).symm,S2.nil⟩
 refine J.e 12 [.bool false] func50 (hR _ _ ?_)
 exact⟨congrArg Value.bool (validV_no (by first | exact .inr (.inl rfl) | exact .inl om)).symm,S1.nil⟩

theorem hb156:af prog 156:=fun _ _=>by kernel_rfl

theorem cseg1_any (c:Crv) (x i:Int) (bx1 bx2:Nat) (w:World) (hc:crvQ w c) (hi:0≤i∧i<(c.aQ:Int)) (hb1:(box bx1 (crvC c) 57).holds w) (hb2:(box bx2 [iv x] 3).holds w):Ret prog 156 #[iv i,pv bx1,pv bx2] w (fun v w'=>v=.bool (decide (c.aG.getD i.toNat 0>x))∧Sep w [] w'):=by
 refine Ret.st (N:=12) func156 fun R hR S0=>?_
 obtain ⟨q1,q2,q3,q4,q5,q6,_⟩:=id hc
 have ql1:=q2.len_eq
 have ql2:=q5.len_eq
 refine J.r 5 [] [] [] ?_
 obtain ⟨p1,hp1,hc1⟩:=q2.at 0 (i).toNat om
 have hel1:=aP q3 0 (n:=(i).toNat) (by have:=q2.len_eq;omega)
 refine J.drawStill S0 8 Tryz.mixed kr kr kr ?_
 intro w1 S1
 refine SL.r 5 (pv bx1)<|SL.ok dE (OK.ldRo S1 hb1 6 26 0 (.slice c.cF c.aQ c.dm) kr kr)<|SL.r 7 (iv i)<|SL.ok dE (OK.index 8 26 1 c.cF p1 c.aQ (i).toNat i (p1.add (i).toNat) kr kr hp1 om om nO)<|SL.ok dE (OK.ldCell 9 3 (p1.add (i).toNat) (iv (c.aG.getD (i).toNat 0)) kr kr (S1.cell hc1))<|SL.ok dE (OK.ldRo S1 hb2 10 3 0 (iv x) kr kr)<|SL.r 11 (.bool (decide ((c.aG.getD (i).toNat 0)>x)))<|SL.r 4 (.bool (decide ((c.aG.getD (i).toNat 0)>x)))<|SL.done<|TL.done kr<|J.e 0 [.bool (decide ((c.aG.getD (i).toNat 0)>x))] func156 (hR _ _ ?_)
 exact⟨rfl,S1.nil⟩

theorem hb130:af prog 130:=fun _ _=>by kernel_rfl

theorem csegment_any (c:Crv) (x:Int) (w:World) (hc:crvQ w c) (hv:cB c=true) (hxx:c.aG.getD 0 0≤x∧x<c.aG.getD (c.aG.length-1) 0):Ret prog 130 #[.agg (crvA c),iv x] w (fun v w'=>∃ i,v=iv i∧((0≤i∧i+1<(c.aG.length:Int))∧c.aG.getD i.toNat 0≤x∧x<c.aG.getD (i+1).toNat 0)∧Sep w [] w'):=by
 refine Ret.st (N:=11) func130 fun R hR S0=>?_
 obtain ⟨q1,q2,q3,q4,q5,q6,_⟩:=id hc
 have ql1:=q2.len_eq
 have ql2:=q5.len_eq
 obtain ⟨hv1,hv2,hv3⟩:=validV_facts hv
 obtain ⟨hx1,hx2,hx3⟩:=bV hv2
 have hX:c.aG.length=c.aQ:=by omega
 have hY:c.aV.length=c.aQ:=by omega
 have hxm:=cv hv2 (show 0<((c.aQ:Int)-1).toNat by omega) om
 have hx0:=hx2 0 om
 have hxl:=hx2 ((c.aQ:Int)-1).toNat om
 refine J.nw 2 [] [] [] S0 2 (crvC c) 57 fun b1 w1 S1=>J.nw 0 [] [] [] S1 3 [iv x] 3 fun b2 w2 S2=>J.lb 5 [] [] [] S2 1 rfl 6 (.slice c.cF c.aQ c.dm)<|J.r 2 [] [(8,.func (.func 156) #[] #[pv b1,pv b2]),(7,iv (c.aQ:Int))] []<|J.callF 9 155 #[iv (c.aQ:Int),.func (.func 156) #[] #[pv b1,pv b2]] hb155 kr (search2 (c.aQ:Int) 156 (pv b1) (pv b2) (fun i=>decide (c.aG.getD i.toNat 0>x)) _ om hb156 (fun i_ w_ h0_ h1_ S_=>cseg1_any c x i_ b1 b2 w_ (dV (dV hc S2) S_) ⟨h0_,om⟩ (dG (S2.nth 1 rfl) S_) (dG (S2.nth 0 rfl) S_))) ?_
 rintro _ w3 ⟨r1,rfl,hr11,hr12,hr13,T1⟩
 have S3:Sep w [box b2 [iv x] 3,box b1 (crvC c) 57] w3:=S2.trans T1
 refine J.wi 1 [] [] [] 10 (r1-1)<|J.e 2 [iv (r1-1)] func130 (hR _ _ ?_)
 have hsg:=seg_found (r:=r1) hv2 hxx om hr12 (by rw[hX];exact hr13)
 exact⟨_,rfl,hsg,S3.nil⟩

theorem hb96:af prog 96:=fun _ _=>by kernel_rfl

theorem cvalue_any (c:Crv) (x:Int) (w:World) (hc:crvQ w c) (hv:cB c=true):Ret prog 96 #[.agg (crvA c),iv x] w (fun v w'=>v=iv (valueV c x)∧Sep w [] w'):=by
 refine Ret.st (N:=78) func96 fun R hR S0=>?_
 obtain ⟨q1,q2,q3,q4,q5,q6,_⟩:=id hc
 have ql1:=q2.len_eq
 have ql2:=q5.len_eq
 obtain ⟨hv1,hv2,hv3⟩:=validV_facts hv
 obtain ⟨hx1,hx2,hx3⟩:=bV hv2
 have hX:c.aG.length=c.aQ:=by omega
 have hY:c.aV.length=c.aQ:=by omega
 have hxm:=cv hv2 (show 0<((c.aQ:Int)-1).toNat by omega) om
 have hx0:=hx2 0 om
 have hxl:=hx2 ((c.aQ:Int)-1).toNat om
 refine J.nw 2 [] [] [] S0 2 (crvC c) 57 fun b1 w1 S1=>J.lb 5 [] [] [] S1 0 rfl 8 (.slice c.cF c.aQ c.dm)<|J.lb 9 [] [(11,iv x),(5,iv (c.aQ:Int))] [] S1 0 rfl 13 (.slice c.cF c.aQ c.dm) ?_
 obtain ⟨p1,hp1,hc1⟩:=q2.at 0 0 om
 have hel1:=aP q3 0 (n:=0) (by have:=q2.len_eq;omega)
 refine J.ok (OK.index 14 26 1 c.cF p1 c.aQ 0 0 (p1.add 0) kr kr hp1 om om nO)<|J.ok (OK.ldCell 15 3 (p1.add 0) (iv (c.aG.getD 0 0)) kr kr (S1.cell hc1))<|J.c 3 [] [] [] 10 (x≤(c.aG.getD 0 0)) (fun fk1=>?_) fun fk1=>?_
 refine J.lb 4 [true] [] [] S1 0 rfl 18 (.slice c.cM c.bB c.dw) ?_
 obtain ⟨p2,hp2,hc2⟩:=q5.at 0 0 om
 have hel2:=aP q6 0 (n:=0) (by have:=q5.len_eq;omega)
 refine J.ok (OK.index 19 26 1 c.cM p2 c.bB 0 0 (p2.add 0) kr kr hp2 om om nO)<|J.ok (OK.ldCell 20 3 (p2.add 0) (iv (c.aV.getD 0 0)) kr kr (S1.cell hc2))<|J.e 2 [iv (c.aV.getD 0 0)] func96 (hR _ _ ?_)
 exact⟨congrArg (Value.int .i64) (by unfold valueV cV;first | rw[if_pos om] | (rw[if_neg om,if_pos (by rw[show c.aG.length-1=((c.aQ:Int)-1).toNat by omega];omega),show c.aG.length-1=((c.aQ:Int)-1).toNat by omega])),S1.nil⟩
 refine J.lb 5 [false] [(22,iv x)] [] S1 0 rfl 24 (.slice c.cF c.aQ c.dm)<|J.wi 2 [] [] [] 26 ((c.aQ:Int)-1) ?_
 obtain ⟨p3,hp3,hc3⟩:=q2.at 0 ((c.aQ:Int)-1).toNat om
 have hel3:=aP q3 0 (n:=((c.aQ:Int)-1).toNat) (by have:=q2.len_eq;omega)
 refine J.ok (OK.index 27 26 1 c.cF p3 c.aQ ((c.aQ:Int)-1).toNat ((c.aQ:Int)-1) (p3.add ((c.aQ:Int)-1).toNat) kr kr hp3 om om nO)<|J.ok (OK.ldCell 28 3 (p3.add ((c.aQ:Int)-1).toNat) (iv (c.aG.getD ((c.aQ:Int)-1).toNat 0)) kr kr (S1.cell hc3))<|J.c 3 [] [] [] 21 (x≥(c.aG.getD ((c.aQ:Int)-1).toNat 0)) (fun fk2=>?_) fun fk2=>?_
 refine J.lb 4 [true] [] [] S1 0 rfl 31 (.slice c.cM c.bB c.dw)<|J.wi 2 [] [] [] 33 ((c.aQ:Int)-1) ?_
 obtain ⟨p4,hp4,hc4⟩:=q5.at 0 ((c.aQ:Int)-1).toNat om
 have hel4:=aP q6 0 (n:=((c.aQ:Int)-1).toNat) (by have:=q5.len_eq;omega)
 refine J.ok (OK.index 34 26 1 c.cM p4 c.bB ((c.aQ:Int)-1).toNat ((c.aQ:Int)-1) (p4.add ((c.aQ:Int)-1).toNat) kr kr hp4 om om nO)<|J.ok (OK.ldCell 35 3 (p4.add ((c.aQ:Int)-1).toNat) (iv (c.aV.getD ((c.aQ:Int)-1).toNat 0)) kr kr (S1.cell hc4))<|J.e 2 [iv (c.aV.getD ((c.aQ:Int)-1).toNat 0)] func96 (hR _ _ ?_)
 exact⟨congrArg (Value.int .i64) (by unfold valueV cV;first | rw[if_pos om] | (rw[if_neg om,if_pos (by rw[show c.aG.length-1=((c.aQ:Int)-1).toNat by omega];omega),show c.aG.length-1=((c.aQ:Int)-1).toNat by omega])),S1.nil⟩
 refine J.lb 5 [false] [] [] S1 0 rfl 36 (.agg (crvA c))<|J.r 1 [] [(37,iv x)] []<|J.callF 38 130 #[.agg (crvA c),iv x] hb130 kr (csegment_any c x _ (dV hc S1) hv (by rw[show c.aG.length-1=((c.aQ:Int)-1).toNat by omega];omega)) ?_
 rintro _ w2 ⟨i,rfl,⟨hsa,hsb,hsc⟩,T1⟩
 have S2:Sep w [box b1 (crvC c) 57] w2:=S1.trans T1
 have hA3:=cv hv2 (show(i).toNat<(i+1).toNat by omega) om
 have hA1:=hx2 (i).toNat om
 have hA2:=hx2 (i+1).toNat om
 have hB1:=hv3 (i).toNat om
 have hB2:=hv3 (i+1).toNat om
 have hpb:=prod_bd (t:=x-c.aG.getD (i).toNat 0) (k:=c.aV.getD (i+1).toNat 0-c.aV.getD (i).toNat 0) om om
 have hbw:=dS (x0:=c.aG.getD (i).toNat 0) (x1:=c.aG.getD (i+1).toNat 0) (y0:=c.aV.getD (i).toNat 0) (y1:=c.aV.getD (i+1).toNat 0) (x:=x) om om om
 unfold ek at hbw
 refine J.r 3 [] [(6,iv i)] [] ?_
 obtain ⟨p5,hp5,hc5⟩:=q5.at 0 (i).toNat om
 have hel5:=aP q6 0 (n:=(i).toNat) (by have:=q5.len_eq;omega)
 obtain ⟨p6,hp6,hc6⟩:=q2.at 0 (i).toNat om
 have hel6:=aP q3 0 (n:=(i).toNat) (by have:=q2.len_eq;omega)
 obtain ⟨p7,hp7,hc7⟩:=q5.at 0 (i+1).toNat om
 have hel7:=aP q6 0 (n:=(i+1).toNat) (by have:=q5.len_eq;omega)
 obtain ⟨p8,hp8,hc8⟩:=q2.at 0 (i+1).toNat om
 have hel8:=aP q3 0 (n:=(i+1).toNat) (by have:=q2.len_eq;omega)
 refine J.drawPlan (fun w_=>Sep w [box b1 (crvC c) 57] w_) [(0,true),(1,true),(2,true),(3,true),(4,true),(5,true),(6,true),(7,true),(8,true),(9,true),(10,true),(11,true),(12,true),(13,true),(14,true),(15,true),(16,true),(17,true),(18,true),(19,true),(20,true),(21,true),(22,true),(23,true),(24,true),(25,true),(26,true),(27,true),(28,true),(29,true),(30,true),(31,true),(32,true),(33,true),(34,true),(35,true),(36,true),(37,false),(38,true),(39,true)] S2 Tryz.mixed kr (aE (T:=[(0,some 39,4),(1,some 40,549755813888),(0,some 41,64),(6,some 42,3298534883328),(8,some 43,4398046511104),(0,some 44,2),(0,some 45,4),(64,some 46,35184372088832),(0,some 47,64),(384,some 48,211106232532992),(512,some 49,281474976710656),(1056,some 50,580542139465728),(0,some 51,4),(4096,some 52,2251799813685248),(0,some 53,64),(16384,some 54,9007199254740992),(40960,some 55,22517998136852480),(65536,some 56,36028797018963968),(0,some 57,4),(262144,some 58,144115188075855872),(0,some 59,64),(1572864,some 60,864691128455135232),(2097152,some 61,1152921504606846976),(4325376,some 62,2377900603251621888),(8390656,some 63,4612811918334230528),(0,some 64,4),(33554432,some 65,18446744073709551616),(0,some 66,64),(134217728,some 67,73786976294838206464),(335544320,some 68,184467440737095516160),(536870912,some 69,295147905179352825856),(0,some 70,4),(2147483648,some 71,1180591620717411303424),(0,some 72,64),(12884901888,some 73,7083549724304467820544),(17179869184,some 74,9444732965739290427392),(35433480192,some 75,19479761741837286506496),(68736253952,some 76,37788155234994016485376),(137438953488,some 77,75557863734710416441344),(549755813887,some 4,151115727451828646838272)]) kr kr) ?_
 intro w3 S3
 refine PB.mk S3<|PL.take 0 39 (.pointer (some ⟨b1,1,none⟩)) (fun _ _=>kr)<|PL.takeOK 1 (fun w_ S_=>OK.ldBox S_ 0 40 26 1 (.slice c.cM c.bB c.dw) kr rfl kr) rfl<|PL.take 2 41 (iv i) (fun _ _=>kr)<|PL.takeOK 3 (fun w_ S_=>OK.index 42 26 1 c.cM p5 c.bB (i).toNat i (p5.add (i).toNat) kr kr hp5 om om nO) rfl<|PL.takeOK 4 (fun w_ S_=>OK.ldCell 43 3 (p5.add (i).toNat) (iv (c.aV.getD (i).toNat 0)) kr kr (S_.cell hc5)) rfl<|PL.take 5 44 (iv x) (fun _ _=>kr)<|PL.take 6 45 (pv b1) (fun _ _=>kr)<|PL.takeOK 7 (fun w_ S_=>OK.ldBox S_ 0 46 26 0 (.slice c.cF c.aQ c.dm) kr rfl kr) rfl<|PL.take 8 47 (iv i) (fun _ _=>kr)<|PL.takeOK 9 (fun w_ S_=>OK.index 48 26 1 c.cF p6 c.aQ (i).toNat i (p6.add (i).toNat) kr kr hp6 om om nO) rfl ?_
 refine PL.takeOK 10 (fun w_ S_=>OK.ldCell 49 3 (p6.add (i).toNat) (iv (c.aG.getD (i).toNat 0)) kr kr (S_.cell hc6)) rfl<|PL.take 11 50 (iv (IntKind.wrap .i64 (x-(c.aG.getD (i).toNat 0)))) (fun _ _=>kr)<|PL.head (iv (x-(c.aG.getD (i).toNat 0))) (congrArg (Value.int .i64) (IntWalk.i64_in _ om))<|PL.take 12 51 (.pointer (some ⟨b1,1,none⟩)) (fun _ _=>kr)<|PL.takeOK 13 (fun w_ S_=>OK.ldBox S_ 0 52 26 1 (.slice c.cM c.bB c.dw) kr rfl kr) rfl<|PL.take 14 53 (iv i) (fun _ _=>kr)<|PL.take 15 54 (iv (IntKind.wrap .i64 (i+1))) (fun _ _=>kr)<|PL.head (iv (i+1)) (congrArg (Value.int .i64) (IntWalk.i64_in _ om))<|PL.takeOK 16 (fun w_ S_=>OK.index 55 26 1 c.cM p7 c.bB (i+1).toNat (i+1) (p7.add (i+1).toNat) kr kr hp7 om om nO) rfl<|PL.takeOK 17 (fun w_ S_=>OK.ldCell 56 3 (p7.add (i+1).toNat) (iv (c.aV.getD (i+1).toNat 0)) kr kr (S_.cell hc7)) rfl<|PL.take 18 57 (.pointer (some ⟨b1,1,none⟩)) (fun _ _=>kr) ?_
 refine PL.takeOK 19 (fun w_ S_=>OK.ldBox S_ 0 58 26 1 (.slice c.cM c.bB c.dw) kr rfl kr) rfl<|PL.take 20 59 (iv i) (fun _ _=>kr)<|PL.takeOK 21 (fun w_ S_=>OK.index 60 26 1 c.cM p5 c.bB (i).toNat i (p5.add (i).toNat) kr kr hp5 om om nO) rfl<|PL.takeOK 22 (fun w_ S_=>OK.ldCell 61 3 (p5.add (i).toNat) (iv (c.aV.getD (i).toNat 0)) kr kr (S_.cell hc5)) rfl<|PL.take 23 62 (iv (IntKind.wrap .i64 ((c.aV.getD (i+1).toNat 0)-(c.aV.getD (i).toNat 0)))) (fun _ _=>kr)<|PL.head (iv ((c.aV.getD (i+1).toNat 0)-(c.aV.getD (i).toNat 0))) (congrArg (Value.int .i64) (IntWalk.i64_in _ om))<|PL.take 24 63 (iv (IntKind.wrap .i64 ((x-(c.aG.getD (i).toNat 0))*((c.aV.getD (i+1).toNat 0)-(c.aV.getD (i).toNat 0))))) (fun _ _=>kr)<|PL.head (iv ((x-(c.aG.getD (i).toNat 0))*((c.aV.getD (i+1).toNat 0)-(c.aV.getD (i).toNat 0)))) (congrArg (Value.int .i64) (IntWalk.i64_in _ om))<|PL.take 25 64 (pv b1) (fun _ _=>kr)<|PL.takeOK 26 (fun w_ S_=>OK.ldBox S_ 0 65 26 0 (.slice c.cF c.aQ c.dm) kr rfl kr) rfl<|PL.take 27 66 (iv i) (fun _ _=>kr) ?_
 refine PL.take 28 67 (iv (IntKind.wrap .i64 (i+1))) (fun _ _=>kr)<|PL.head (iv (i+1)) (congrArg (Value.int .i64) (IntWalk.i64_in _ om))<|PL.takeOK 29 (fun w_ S_=>OK.index 68 26 1 c.cF p8 c.aQ (i+1).toNat (i+1) (p8.add (i+1).toNat) kr kr hp8 om om nO) rfl<|PL.takeOK 30 (fun w_ S_=>OK.ldCell 69 3 (p8.add (i+1).toNat) (iv (c.aG.getD (i+1).toNat 0)) kr kr (S_.cell hc8)) rfl<|PL.take 31 70 (pv b1) (fun _ _=>kr)<|PL.takeOK 32 (fun w_ S_=>OK.ldBox S_ 0 71 26 0 (.slice c.cF c.aQ c.dm) kr rfl kr) rfl<|PL.take 33 72 (iv i) (fun _ _=>kr)<|PL.takeOK 34 (fun w_ S_=>OK.index 73 26 1 c.cF p6 c.aQ (i).toNat i (p6.add (i).toNat) kr kr hp6 om om nO) rfl<|PL.takeOK 35 (fun w_ S_=>OK.ldCell 74 3 (p6.add (i).toNat) (iv (c.aG.getD (i).toNat 0)) kr kr (S_.cell hc6)) rfl<|PL.take 36 75 (iv (IntKind.wrap .i64 ((c.aG.getD (i+1).toNat 0)-(c.aG.getD (i).toNat 0)))) (fun _ _=>kr)<|PL.head (iv ((c.aG.getD (i+1).toNat 0)-(c.aG.getD (i).toNat 0))) (congrArg (Value.int .i64) (IntWalk.i64_in _ om)) ?_
 refine PL.callF 76 131 #[iv ((x-(c.aG.getD (i).toNat 0))*((c.aV.getD (i+1).toNat 0)-(c.aV.getD (i).toNat 0))),iv ((c.aG.getD (i+1).toNat 0)-(c.aG.getD (i).toNat 0))] hb131 kr (floor_any ((x-(c.aG.getD (i).toNat 0))*((c.aV.getD (i+1).toNat 0)-(c.aV.getD (i).toNat 0))) ((c.aG.getD (i+1).toNat 0)-(c.aG.getD (i).toNat 0)) _ om om) ?_
 rintro _ w4 ⟨rfl,T2⟩
 have S4:Sep w [box b1 (crvC c) 57] w4:=S3.trans T2
 clear T2 S3
 refine PB.head (iv (((x-(c.aG.getD (i).toNat 0))*((c.aV.getD (i+1).toNat 0)-(c.aV.getD (i).toNat 0)))/((c.aG.getD (i+1).toNat 0)-(c.aG.getD (i).toNat 0)))) (congrArg (Value.int .i64) (floor_pos om om))<|PB.mk S4<|PL.take 38 77 (iv (IntKind.wrap .i64 ((c.aV.getD (i).toNat 0)+(((x-(c.aG.getD (i).toNat 0))*((c.aV.getD (i+1).toNat 0)-(c.aV.getD (i).toNat 0)))/((c.aG.getD (i+1).toNat 0)-(c.aG.getD (i).toNat 0)))))) (fun _ _=>kr)<|PL.head (iv ((c.aV.getD (i).toNat 0)+(((x-(c.aG.getD (i).toNat 0))*((c.aV.getD (i+1).toNat 0)-(c.aV.getD (i).toNat 0)))/((c.aG.getD (i+1).toNat 0)-(c.aG.getD (i).toNat 0))))) (congrArg (Value.int .i64) (IntWalk.i64_in _ om))<|PL.take 39 4 (iv ((c.aV.getD (i).toNat 0)+(((x-(c.aG.getD (i).toNat 0))*((c.aV.getD (i+1).toNat 0)-(c.aV.getD (i).toNat 0)))/((c.aG.getD (i+1).toNat 0)-(c.aG.getD (i).toNat 0))))) (fun _ _=>kr)<|PL.done<|J.e 0 [iv ((c.aV.getD (i).toNat 0)+(((x-(c.aG.getD (i).toNat 0))*((c.aV.getD (i+1).toNat 0)-(c.aV.getD (i).toNat 0)))/((c.aG.getD (i+1).toNat 0)-(c.aG.getD (i).toNat 0))))] func96 (hR _ _ ?_)
 have e:=curve_mid (ys:=c.aV) hv2 (x:=x) (i:=i) ⟨om,by rw[show c.aG.length-1=((c.aQ:Int)-1).toNat by omega];omega⟩ om hsb hsc
 exact⟨congrArg (Value.int .i64) (by unfold valueV;rw[e]),S4.nil⟩

theorem hb62:af prog 62:=fun _ _=>by kernel_rfl

theorem cAt_any (c:Crv) (x:Int) (w:World) (hc:crvQ w c):Ret prog 62 #[.agg (crvA c),iv x] w (fun v w'=>v=iv (atV c x)∧Sep w [] w'):=by
 refine Ret.st (N:=11) func62 fun R hR S0=>?_
 obtain ⟨q1,q2,q3,q4,q5,q6,_⟩:=id hc
 have ql1:=q2.len_eq
 have ql2:=q5.len_eq
 refine J.nw 2 [] [] [] S0 2 (crvC c) 57 fun b1 w1 S1=>J.lb 5 [] [] [] S1 0 rfl 5 (.agg (crvA c))<|J.c0 0 [] [] [] S1 6 hb50 (cvalid_any c _ (dV hc S1)) fun w2 S2=>J.bn 2 [] [] [] 7 (cB c) (fun fk1=>?_) fun fk1=>?_
 have hv:=fk1
 refine J.lb 4 [false] [] [] S2 0 rfl 8 (.agg (crvA c))<|J.c0 1 [] [] [] S2 10 hb96 (cvalue_any c x _ (dV hc S2) hv) fun w3 S3=>J.e 2 [iv (valueV c x)] func62 (hR _ _ ?_)
 exact⟨congrArg (Value.int .i64) (by unfold atV;rw[fk1];rfl),S3.nil⟩
 refine J.e 5 [iv 0] func62 (hR _ _ ?_)
 exact⟨congrArg (Value.int .i64) (by unfold atV;rw[fk1];rfl),S2.nil⟩

theorem hb32:af prog 32:=fun _ _=>by kernel_rfl

theorem rfits_any (n:Int) (w:World):Ret prog 32 #[iv n] w (fun v w'=>v=.bool (elB n)∧Sep w [] w'):=by
 refine Ret.st (N:=9) func32 fun R hR S0=>J.c 9 [] [] [] 5 (n≥(-1073741824)) (fun fk1=>?_) fun fk1=>?_
 refine J.e 5 [.bool (decide (n≤1073741824))] func32 (hR _ _ ?_)
 exact⟨congrArg Value.bool (by rw[Bool.eq_iff_iff];simp[elB];omega),S0.nil⟩
 refine J.e 5 [.bool false] func32 (hR _ _ ?_)
 exact⟨congrArg Value.bool (by rw[Bool.eq_iff_iff];simp[elB];omega),S0.nil⟩

theorem hb31:af prog 31:=fun _ _=>by kernel_rfl
def K31_0:=adv 25 [false] (bi Tryz.f31)
theorem rcaxis_any (la:Option Addr) (len cap:Nat) (l:List Int) (w:World) (hI:dj w la len l) (hlen:len≤9223372036854775807):Ret prog 31 #[.slice la len cap] w (fun v w'=>v=.bool (bW l)∧Sep w [] w'):=by
 refine Ret.st (N:=40) func31 fun R hR S0=>?_
 have hll:=hI.len_eq
 refine J.c 11 [] [] [] 7 ((len:Int)<2) (fun fk1=>?_) fun fk1=>?_
 refine J.e 10 [.bool false] func31 (hR _ _ ?_)
 exact⟨congrArg Value.bool (axis_no om).symm,S0.nil⟩
 refine J.c 5 [] [] [] 11 ((len:Int)>32) (fun fk2=>?_) fun fk2=>?_
 refine J.e 5 [.bool false] func31 (hR _ _ ?_)
 exact⟨congrArg Value.bool (axis_no om).symm,S0.nil⟩
 have L31_1:∀ (mm_:Nat) (i:Int) (w1:World),(0≤i)→(i≤(len:Int))→(∀ j,j<(i).toNat→nodeB l j=true)→Sep w [] w1→((len:Int)-i).toNat=mm_→J prog 31 40 R K31_0 [(3,iv i),(0,.slice la len cap)] w1:=by
  intro mm1
  induction mm1 using Nat.strongRecOn with
  | _ mm1 ih1 =>
  intro i w1 h0 h1 hq S1 hm1
  refine J.c 8 [] [] [] 15 (i<(len:Int)) (fun fk3=>?_) fun fk3=>?_
  refine J.r 5 [true] [] [] ?_
  rcases Bool.eq_false_or_eq_true (elB (l.getD (i).toNat 0)) with fk4 | fk4
  by_cases fk5:i>0
  obtain ⟨p1,hp1,hc1⟩:=hI.at 0 (i).toNat om
  obtain ⟨p2,hp2,hc2⟩:=hI.at 0 (i-1).toNat om
  refine J.drawPlan (fun w_=>Sep w [] w_) [(0,true),(1,true),(2,true),(3,true),(4,false),(5,true),(6,true),(7,true),(8,true),(9,true),(10,true),(11,true),(12,true),(13,true),(14,true),(15,true),(16,true),(17,true),(18,true),(19,true),(20,true),(21,true)] S1 Tryz.mixed kr (aE (T:=[(0,some 18,1),(0,some 19,8),(3,some 20,786432),(4,some 21,1048576),(8,some 22,2097152),(16,some 23,4194304),(48,some 24,8388608),(64,some 25,16777224),(192,some 26,50331648),(320,some 27,83886080),(512,some 28,134217729),(512,some 29,134217736),(3584,some 30,939524096),(4608,some 31,1207959552),(512,some 32,134217729),(512,some 33,134217736),(33280,some 34,8724152320),(82432,some 35,21609054208),(131584,some 36,34493956096),(270848,some 37,71001178112),(524864,some 38,137589948416),(1048640,some 39,274894684160)]) kr kr) ?_
  intro w2 S2
  refine PB.mk S2<|PL.take 0 18 (.slice la len cap) (fun _ _=>kr)<|PL.take 1 19 (iv i) (fun _ _=>kr)<|PL.takeOK 2 (fun w_ S_=>OK.index 20 26 1 la p1 len (i).toNat i (p1.add (i).toNat) kr kr hp1 om om nO) rfl<|PL.takeOK 3 (fun w_ S_=>OK.ldCell 21 3 (p1.add (i).toNat) (iv (l.getD (i).toNat 0)) kr kr (S_.cell hc1)) rfl<|PL.callF 22 32 #[iv (l.getD (i).toNat 0)] hb32 kr (rfits_any (l.getD (i).toNat 0) _) ?_
  rintro _ w3 ⟨rfl,T1⟩
  have S3:Sep w [] w3:=S2.trans T1
  clear T1 S2
  refine PB.head (.bool true) (congrArg Value.bool fk4)<|PB.mk S3<|PL.take 5 23 (.bool false) (fun _ _=>kr)<|PL.take 6 24 (.bool false) (fun _ _=>kr)<|PL.take 7 25 (iv i) (fun _ _=>kr)<|PL.take 8 26 (.bool (decide (i>0))) (fun _ _=>kr)<|PL.head (.bool true) (congrArg Value.bool (decide_eq_true fk5))<|PL.take 9 27 (.bool true) (fun _ _=>kr)<|PL.take 10 28 (.slice la len cap) (fun _ _=>kr)<|PL.take 11 29 (iv i) (fun _ _=>kr)<|PL.takeOK 12 (fun w_ S_=>OK.index 30 26 1 la p1 len (i).toNat i (p1.add (i).toNat) kr kr hp1 om om nO) rfl ?_
  refine PL.takeOK 13 (fun w_ S_=>OK.ldCell 31 3 (p1.add (i).toNat) (iv (l.getD (i).toNat 0)) kr kr (S_.cell hc1)) rfl<|PL.take 14 32 (.slice la len cap) (fun _ _=>kr)<|PL.take 15 33 (iv i) (fun _ _=>kr)<|PL.take 16 34 (iv (IntKind.wrap .i64 (i-1))) (fun _ _=>kr)<|PL.head (iv (i-1)) (congrArg (Value.int .i64) (IntWalk.i64_in _ om))<|PL.takeOK 17 (fun w_ S_=>OK.index 35 26 1 la p2 len (i-1).toNat (i-1) (p2.add (i-1).toNat) kr kr hp2 om om nO) rfl<|PL.takeOK 18 (fun w_ S_=>OK.ldCell 36 3 (p2.add (i-1).toNat) (iv (l.getD (i-1).toNat 0)) kr kr (S_.cell hc2)) rfl<|PL.take 19 37 (.bool (decide ((l.getD (i).toNat 0)≤(l.getD (i-1).toNat 0)))) (fun _ _=>kr)<|PL.take 20 38 (.bool (decide ((l.getD (i).toNat 0)≤(l.getD (i-1).toNat 0)))) (fun _ _=>kr)<|PL.take 21 39 (.bool (decide ((l.getD (i).toNat 0)≤(l.getD (i-1).toNat 0)))) (fun _ _=>kr)<|PL.done ?_
  refine J.c 0 [] [] [] 39 ((l.getD (i).toNat 0)≤(l.getD (i-1).toNat 0)) (fun fk6=>?_) fun fk6=>?_
  refine J.e 5 [.bool false] func31 (hR _ _ ?_)
  exact⟨congrArg Value.bool (axis_bad h0 om (node_no h0 (by first | exact .inl fk4 | exact .inr ⟨om,om⟩))).symm,S3.nil⟩
  exact J.wi 6 [false] [] [] 17 (i+1)<|J.t 3 (ih1 _ (show((len:Int)-(i+1)).toNat<mm1 from by omega) (i+1) w3 om om (cW h0 hq (node_yes h0 fk4 om)) S3 rfl)
  obtain ⟨p3,hp3,hc3⟩:=hI.at 0 (i).toNat om
  refine J.drawPlan (fun w_=>Sep w [] w_) [(0,true),(1,true),(2,true),(3,true),(4,false),(5,true),(6,true),(7,true),(8,true),(9,true),(10,true),(11,true),(12,true),(13,true),(14,true),(15,true),(16,true),(17,true),(18,true),(19,true),(20,true),(21,true)] S1 Tryz.mixed kr (aE (T:=[(0,some 18,1),(0,some 19,8),(3,some 20,786432),(4,some 21,1048576),(8,some 22,2097152),(16,some 23,4194304),(48,some 24,8388608),(64,some 25,16777224),(192,some 26,50331648),(320,some 27,83886080),(512,some 28,134217729),(512,some 29,134217736),(3584,some 30,939524096),(4608,some 31,1207959552),(512,some 32,134217729),(512,some 33,134217736),(33280,some 34,8724152320),(82432,some 35,21609054208),(131584,some 36,34493956096),(270848,some 37,71001178112),(524864,some 38,137589948416),(1048640,some 39,274894684160)]) kr kr) ?_
  intro w4 S4
  refine PB.mk S4<|PL.take 0 18 (.slice la len cap) (fun _ _=>kr)<|PL.take 1 19 (iv i) (fun _ _=>kr)<|PL.takeOK 2 (fun w_ S_=>OK.index 20 26 1 la p3 len (i).toNat i (p3.add (i).toNat) kr kr hp3 om om nO) rfl<|PL.takeOK 3 (fun w_ S_=>OK.ldCell 21 3 (p3.add (i).toNat) (iv (l.getD (i).toNat 0)) kr kr (S_.cell hc3)) rfl<|PL.callF 22 32 #[iv (l.getD (i).toNat 0)] hb32 kr (rfits_any (l.getD (i).toNat 0) _) ?_
  rintro _ w5 ⟨rfl,T2⟩
  have S5:Sep w [] w5:=S4.trans T2
  clear T2 S4
  refine PB.head (.bool true) (congrArg Value.bool fk4)<|PB.mk S5<|PL.take 5 23 (.bool false) (fun _ _=>kr)<|PL.take 6 24 (.bool false) (fun _ _=>kr)<|PL.take 7 25 (iv i) (fun _ _=>kr)<|PL.take 8 26 (.bool (decide (i>0))) (fun _ _=>kr)<|PL.head (.bool false) (congrArg Value.bool (decide_eq_false fk5))<|PL.take 9 27 (.bool false) (fun _ _=>kr)<|PL.takePass 10 (some 28) kr<|PL.takePass 11 (some 29) kr<|PL.takePass 12 (some 30) kr ?_
  refine PL.takePass 13 (some 31) kr<|PL.takePass 14 (some 32) kr<|PL.takePass 15 (some 33) kr<|PL.takePass 16 (some 34) kr<|PL.takePass 17 (some 35) kr<|PL.takePass 18 (some 36) kr<|PL.takePass 19 (some 37) kr<|PL.take 20 38 (.bool false) (fun _ _=>kr)<|PL.take 21 39 (.bool false) (fun _ _=>kr)<|PL.done<|J.wi 6 [false] [] [] 17 (i+1) ?_
  exact J.t 3 (ih1 _ (show((len:Int)-(i+1)).toNat<mm1 from by omega) (i+1) w5 om om (cW h0 hq (node_yes h0 fk4 om)) S5 rfl)
  obtain ⟨p4,hp4,hc4⟩:=hI.at 0 (i).toNat om
  refine J.drawPlan (fun w_=>Sep w [] w_) [(0,true),(1,true),(2,true),(3,true),(4,false),(5,true),(6,true),(7,true),(8,true),(9,true),(10,true),(11,true),(12,true),(13,true),(14,true),(15,true),(16,true),(17,true),(18,true),(19,true),(20,true),(21,true)] S1 Tryz.mixed kr (aE (T:=[(0,some 18,1),(0,some 19,8),(3,some 20,786432),(4,some 21,1048576),(8,some 22,2097152),(16,some 23,4194304),(48,some 24,8388608),(64,some 25,16777224),(192,some 26,50331648),(320,some 27,83886080),(512,some 28,134217729),(512,some 29,134217736),(3584,some 30,939524096),(4608,some 31,1207959552),(512,some 32,134217729),(512,some 33,134217736),(33280,some 34,8724152320),(82432,some 35,21609054208),(131584,some 36,34493956096),(270848,some 37,71001178112),(524864,some 38,137589948416),(1048640,some 39,274894684160)]) kr kr) ?_
  intro w6 S6
  refine PB.mk S6<|PL.take 0 18 (.slice la len cap) (fun _ _=>kr)<|PL.take 1 19 (iv i) (fun _ _=>kr)<|PL.takeOK 2 (fun w_ S_=>OK.index 20 26 1 la p4 len (i).toNat i (p4.add (i).toNat) kr kr hp4 om om nO) rfl<|PL.takeOK 3 (fun w_ S_=>OK.ldCell 21 3 (p4.add (i).toNat) (iv (l.getD (i).toNat 0)) kr kr (S_.cell hc4)) rfl<|PL.callF 22 32 #[iv (l.getD (i).toNat 0)] hb32 kr (rfits_any (l.getD (i).toNat 0) _) ?_
  rintro _ w7 ⟨rfl,T3⟩
  have S7:Sep w [] w7:=S6.trans T3
  clear T3 S6
  refine PB.head (.bool false) (congrArg Value.bool fk4)<|PB.mk S7<|PL.take 5 23 (.bool true) (fun _ _=>kr)<|PL.take 6 24 (.bool true) (fun _ _=>kr)<|PL.takePass 7 (some 25) kr<|PL.takePass 8 (some 26) kr<|PL.takePass 9 (some 27) kr<|PL.takePass 10 (some 28) kr<|PL.takePass 11 (some 29) kr<|PL.takePass 12 (some 30) kr<|PL.takePass 13 (some 31) kr ?_
  refine PL.takePass 14 (some 32) kr<|PL.takePass 15 (some 33) kr<|PL.takePass 16 (some 34) kr<|PL.takePass 17 (some 35) kr<|PL.takePass 18 (some 36) kr<|PL.takePass 19 (some 37) kr<|PL.takePass 20 (some 38) kr<|PL.take 21 39 (.bool true) (fun _ _=>kr)<|PL.done<|J.e 5 [.bool false] func31 (hR _ _ ?_)
  exact⟨congrArg Value.bool (axis_bad h0 om (node_no h0 (by first | exact .inl fk4 | exact .inr ⟨om,om⟩))).symm,S7.nil⟩
  refine J.e 6 [.bool true] func31 (hR _ _ ?_)
  exact⟨congrArg Value.bool (axis_yes om om fun j hj=>hq j om).symm,S1.nil⟩
 exact J.t 9 (L31_1 _ 0 w om om (by intro j hj;simp at hj) S0 rfl)

theorem hb17:af prog 17:=fun _ _=>by kernel_rfl
def K17_0:=adv 31 [false] (bi Tryz.f17)
theorem rcvalid_any (c:Crv) (w:World) (hc:crvQ w c):Ret prog 17 #[.agg (crvA c)] w (fun v w'=>v=.bool (cB c)∧Sep w [] w'):=by
 refine Ret.st (N:=31) func17 fun R hR S0=>?_
 obtain ⟨q1,q2,q3,q4,q5,q6,_⟩:=id hc
 have ql1:=q2.len_eq
 have ql2:=q5.len_eq
 refine J.nw 2 [] [] [] S0 1 (crvC c) 57 fun b1 w1 S1=>J.lb 6 [] [] [] S1 0 rfl 5 (.slice c.cF c.aQ c.dm)<|J.c0 0 [] [] [] S1 6 hb31 (rcaxis_any c.cF c.aQ c.dm c.aG _ (q2.sep S1) oz) fun w2 S2=>J.bn 2 [] [] [] 8 (bW c.aG) (fun fk1=>?_) fun fk1=>?_
 refine J.lb 1 [] [] [] S2 0 rfl 10 (.slice c.cM c.bB c.dw)<|J.lb 2 [] [(11,iv (c.bB:Int))] [] S2 0 rfl 13 (.slice c.cF c.aQ c.dm)<|J.cn 4 [] [] [] 16 ((c.bB:Int)=(c.aQ:Int)) (fun fk2=>?_) fun fk2=>?_
 have L17_1:∀ (mm_:Nat) (i:Int) (w3:World),(0≤i)→(i≤(c.bB:Int))→(∀ j,j<(i).toNat→elB (c.aV.getD j 0)=true)→Sep w [box b1 (crvC c) 57] w3→((c.bB:Int)-i).toNat=mm_→J prog 17 31 R K17_0 [(3,iv i),(1,pv b1)] w3:=by
  intro mm1
  induction mm1 using Nat.strongRecOn with
  | _ mm1 ih1 =>
  intro i w3 h0 h1 hq S3 hm1
  refine J.lb 5 [] [(17,iv i)] [] S3 0 rfl 19 (.slice c.cM c.bB c.dw)<|J.c 3 [] [] [] 21 (i<(c.bB:Int)) (fun fk3=>?_) fun fk3=>?_
  refine J.lb 7 [true] [] [] S3 0 rfl 25 (.slice c.cM c.bB c.dw)<|J.r 1 [] [(26,iv i)] [] ?_
  obtain ⟨p1,hp1,hc1⟩:=q5.at 0 (i).toNat om
  have hel1:=aP q6 0 (n:=(i).toNat) (by have:=q5.len_eq;omega)
  refine J.ok (OK.index 27 26 1 c.cM p1 c.bB (i).toNat i (p1.add (i).toNat) kr kr hp1 om om nO)<|J.ok (OK.ldCell 28 3 (p1.add (i).toNat) (iv (c.aV.getD (i).toNat 0)) kr kr (S3.cell hc1))<|J.c0 0 [] [] [] S3 29 hb32 (rfits_any (c.aV.getD (i).toNat 0) _) fun w4 S4=>J.bn 2 [] [] [] 30 (elB (c.aV.getD (i).toNat 0)) (fun fk4=>?_) fun fk4=>?_
  exact J.wi 6 [false] [] [] 23 (i+1)<|J.t 3 (ih1 _ (show((c.bB:Int)-(i+1)).toNat<mm1 from by omega) (i+1) w4 om om (cW (q:=fun j=>elB (c.aV.getD j 0)=true) h0 hq fk4) S4 rfl)
  refine J.e 5 [.bool false] func17 (hR _ _ ?_)
  exact⟨congrArg Value.bool (validV_no (.inr (.inr (all_no 0 (j:=i.toNat) om fk4)))).symm,S4.nil⟩
  refine J.e 6 [.bool true] func17 (hR _ _ ?_)
  exact⟨congrArg Value.bool (validV_yes om fk1 ((cI 0).2 fun j hj=>hq j om)).symm,S3.nil⟩
 exact J.t 9 (L17_1 _ 0 w2 om om (by intro j hj;simp at hj) S2 rfl)
 refine J.e 5 [.bool false] func17 (hR _ _ ?_)
 exact⟨congrArg Value.bool (validV_no (by first | exact .inr (.inl fk1) | exact .inl om)).symm,S2.nil⟩
 refine J.e 14 [.bool false] func17 (hR _ _ ?_)
 exact⟨congrArg Value.bool (validV_no (by first | exact .inr (.inl fk1) | exact .inl om)).symm,S2.nil⟩

theorem hb75:af prog 75:=fun _ _=>by kernel_rfl
def K75_0:=adv 45 [false,false] (bi Tryz.f75)
theorem rcAt_any (c:Crv) (x:Int) (w:World) (hc:crvQ w c) (hv:cB c=true):Ret prog 75 #[.agg (crvA c),iv x] w (fun v w'=>v=iv (valueV c x)∧Sep w [] w'):=by
 refine Ret.st (N:=83) func75 fun R hR S0=>?_
 obtain ⟨q1,q2,q3,q4,q5,q6,_⟩:=id hc
 have ql1:=q2.len_eq
 have ql2:=q5.len_eq
 obtain ⟨hv1,hv2,hv3⟩:=validV_facts hv
 obtain ⟨hx1,hx2,hx3⟩:=bV hv2
 have hX:c.aG.length=c.aQ:=by omega
 have hY:c.aV.length=c.aQ:=by omega
 have hxm:=cv hv2 (show 0<((c.aQ:Int)-1).toNat by omega) om
 have hx0:=hx2 0 om
 have hxl:=hx2 ((c.aQ:Int)-1).toNat om
 refine J.nw 2 [] [] [] S0 2 (crvC c) 57 fun b1 w1 S1=>J.lb 5 [] [] [] S1 0 rfl 8 (.slice c.cF c.aQ c.dm)<|J.lb 8 [] [(10,iv x),(5,iv (c.aQ:Int))] [] S1 0 rfl 12 (.slice c.cF c.aQ c.dm) ?_
 obtain ⟨p1,hp1,hc1⟩:=q2.at 0 0 om
 have hel1:=aP q3 0 (n:=0) (by have:=q2.len_eq;omega)
 refine J.ok (OK.index 13 26 1 c.cF p1 c.aQ 0 0 (p1.add 0) kr kr hp1 om om nO)<|J.ok (OK.ldCell 14 3 (p1.add 0) (iv (c.aG.getD 0 0)) kr kr (S1.cell hc1))<|J.c 2 [] [] [] 15 (x≤(c.aG.getD 0 0)) (fun fk1=>?_) fun fk1=>?_
 refine J.lb 4 [true] [] [] S1 0 rfl 17 (.slice c.cM c.bB c.dw) ?_
 obtain ⟨p2,hp2,hc2⟩:=q5.at 0 0 om
 have hel2:=aP q6 0 (n:=0) (by have:=q5.len_eq;omega)
 refine J.ok (OK.index 18 26 1 c.cM p2 c.bB 0 0 (p2.add 0) kr kr hp2 om om nO)<|J.ok (OK.ldCell 19 3 (p2.add 0) (iv (c.aV.getD 0 0)) kr kr (S1.cell hc2))<|J.e 2 [iv (c.aV.getD 0 0)] func75 (hR _ _ ?_)
 exact⟨congrArg (Value.int .i64) (by unfold valueV cV;first | rw[if_pos om] | (rw[if_neg om,if_pos (by rw[show c.aG.length-1=((c.aQ:Int)-1).toNat by omega];omega),show c.aG.length-1=((c.aQ:Int)-1).toNat by omega])),S1.nil⟩
 refine J.lb 7 [false] [(20,iv x)] [] S1 0 rfl 22 (.slice c.cF c.aQ c.dm)<|J.wi 2 [] [] [] 24 ((c.aQ:Int)-1) ?_
 obtain ⟨p3,hp3,hc3⟩:=q2.at 0 ((c.aQ:Int)-1).toNat om
 have hel3:=aP q3 0 (n:=((c.aQ:Int)-1).toNat) (by have:=q2.len_eq;omega)
 refine J.ok (OK.index 25 26 1 c.cF p3 c.aQ ((c.aQ:Int)-1).toNat ((c.aQ:Int)-1) (p3.add ((c.aQ:Int)-1).toNat) kr kr hp3 om om nO)<|J.ok (OK.ldCell 26 3 (p3.add ((c.aQ:Int)-1).toNat) (iv (c.aG.getD ((c.aQ:Int)-1).toNat 0)) kr kr (S1.cell hc3))<|J.c 2 [] [] [] 27 (x≥(c.aG.getD ((c.aQ:Int)-1).toNat 0)) (fun fk2=>?_) fun fk2=>?_
 refine J.lb 4 [true] [] [] S1 0 rfl 29 (.slice c.cM c.bB c.dw)<|J.wi 2 [] [] [] 31 ((c.aQ:Int)-1) ?_
 obtain ⟨p4,hp4,hc4⟩:=q5.at 0 ((c.aQ:Int)-1).toNat om
 have hel4:=aP q6 0 (n:=((c.aQ:Int)-1).toNat) (by have:=q5.len_eq;omega)
 refine J.ok (OK.index 32 26 1 c.cM p4 c.bB ((c.aQ:Int)-1).toNat ((c.aQ:Int)-1) (p4.add ((c.aQ:Int)-1).toNat) kr kr hp4 om om nO)<|J.ok (OK.ldCell 33 3 (p4.add ((c.aQ:Int)-1).toNat) (iv (c.aV.getD ((c.aQ:Int)-1).toNat 0)) kr kr (S1.cell hc4))<|J.e 2 [iv (c.aV.getD ((c.aQ:Int)-1).toNat 0)] func75 (hR _ _ ?_)
 exact⟨congrArg (Value.int .i64) (by unfold valueV cV;first | rw[if_pos om] | (rw[if_neg om,if_pos (by rw[show c.aG.length-1=((c.aQ:Int)-1).toNat by omega];omega),show c.aG.length-1=((c.aQ:Int)-1).toNat by omega])),S1.nil⟩
 have L75_1:∀ (mm_:Nat) (i:Int) (w2:World),(0≤i∧i+1<(c.aQ:Int))→(c.aG.getD (i).toNat 0≤x)→Sep w [box b1 (crvC c) 57] w2→((c.aQ:Int)-i).toNat=mm_→J prog 75 83 R K75_0 [(6,iv i),(2,pv b1),(1,iv x)] w2:=by
  intro mm1
  induction mm1 using Nat.strongRecOn with
  | _ mm1 ih1 =>
  intro i w2 h0 hle S2 hm1
  refine J.lb 4 [] [] [] S2 0 rfl 35 (.slice c.cF c.aQ c.dm)<|J.wi 2 [] [] [] 37 (i+1) ?_
  obtain ⟨p5,hp5,hc5⟩:=q2.at 0 (i+1).toNat om
  have hel5:=aP q3 0 (n:=(i+1).toNat) (by have:=q2.len_eq;omega)
  refine J.ok (OK.index 38 26 1 c.cF p5 c.aQ (i+1).toNat (i+1) (p5.add (i+1).toNat) kr kr hp5 om om nO)<|J.ok (OK.ldCell 39 3 (p5.add (i+1).toNat) (iv (c.aG.getD (i+1).toNat 0)) kr kr (S2.cell hc5))<|J.c 3 [] [] [] 41 ((c.aG.getD (i+1).toNat 0)≤x) (fun fk3=>?_) fun fk3=>?_
  exact J.wi 6 [true] [] [] 43 (i+1)<|J.t 4 (ih1 _ (show((c.aQ:Int)-(i+1)).toNat<mm1 from by omega) (i+1) w2 (⟨om,by have h_:=ne_getD (l:=c.aG) (a:=(i+1).toNat) (b:=((c.aQ:Int)-1).toNat) om;omega⟩) om S2 rfl)
  have hA3:=cv hv2 (show(i).toNat<(i+1).toNat by omega) om
  have hA1:=hx2 (i).toNat om
  have hA2:=hx2 (i+1).toNat om
  have hB1:=hv3 (i).toNat om
  have hB2:=hv3 (i+1).toNat om
  have hpb:=prod_bd (t:=x-c.aG.getD (i).toNat 0) (k:=c.aV.getD (i+1).toNat 0-c.aV.getD (i).toNat 0) om om
  have hbw:=dS (x0:=c.aG.getD (i).toNat 0) (x1:=c.aG.getD (i+1).toNat 0) (y0:=c.aV.getD (i).toNat 0) (y1:=c.aV.getD (i+1).toNat 0) (x:=x) om om om
  unfold ek at hbw
  refine J.r 3 [false] [] [] ?_
  obtain ⟨p6,hp6,hc6⟩:=q5.at 0 (i).toNat om
  have hel6:=aP q6 0 (n:=(i).toNat) (by have:=q5.len_eq;omega)
  obtain ⟨p7,hp7,hc7⟩:=q2.at 0 (i).toNat om
  have hel7:=aP q3 0 (n:=(i).toNat) (by have:=q2.len_eq;omega)
  obtain ⟨p8,hp8,hc8⟩:=q5.at 0 (i+1).toNat om
  have hel8:=aP q6 0 (n:=(i+1).toNat) (by have:=q5.len_eq;omega)
  refine J.drawPlan (fun w_=>Sep w [box b1 (crvC c) 57] w_) [(0,true),(1,true),(2,true),(3,true),(4,true),(5,true),(6,true),(7,true),(8,true),(9,true),(10,true),(11,true),(12,true),(13,true),(14,true),(15,true),(16,true),(17,true),(18,true),(19,true),(20,true),(21,true),(22,true),(23,true),(24,true),(25,true),(26,true),(27,true),(28,true),(29,true),(30,true),(31,true),(32,true),(33,true),(34,true),(35,true),(36,true),(37,false),(38,true),(39,true)] S2 Tryz.mixed kr (aE (T:=[(0,some 44,4),(1,some 45,17592186044416),(0,some 46,64),(6,some 47,105553116266496),(8,some 48,140737488355328),(0,some 49,2),(0,some 50,4),(64,some 51,1125899906842624),(0,some 52,64),(384,some 53,6755399441055744),(512,some 54,9007199254740992),(1056,some 55,18577348462903296),(0,some 56,4),(4096,some 57,72057594037927936),(0,some 58,64),(16384,some 59,288230376151711744),(40960,some 60,720575940379279360),(65536,some 61,1152921504606846976),(0,some 62,4),(262144,some 63,4611686018427387904),(0,some 64,64),(1572864,some 65,27670116110564327424),(2097152,some 66,36893488147419103232),(4325376,some 67,76092819304051900416),(8390656,some 68,147609981386695376896),(0,some 69,4),(33554432,some 70,590295810358705651712),(0,some 71,64),(134217728,some 72,2361183241434822606848),(335544320,some 73,5902958103587056517120),(536870912,some 74,9444732965739290427392),(0,some 75,4),(2147483648,some 76,37778931862957161709568),(0,some 77,64),(12884901888,some 78,226673591177742970257408),(17179869184,some 79,302231454903657293676544),(35433480192,some 80,623352375738793168207872),(68736253952,some 81,1209220967519808527532032),(137438953488,some 82,2417851639510733326123008),(549755813887,some 4,4835703278458516698824704)]) kr kr) ?_
  intro w3 S3
  refine PB.mk S3<|PL.take 0 44 (.pointer (some ⟨b1,1,none⟩)) (fun _ _=>kr)<|PL.takeOK 1 (fun w_ S_=>OK.ldBox S_ 0 45 26 1 (.slice c.cM c.bB c.dw) kr rfl kr) rfl<|PL.take 2 46 (iv i) (fun _ _=>kr)<|PL.takeOK 3 (fun w_ S_=>OK.index 47 26 1 c.cM p6 c.bB (i).toNat i (p6.add (i).toNat) kr kr hp6 om om nO) rfl<|PL.takeOK 4 (fun w_ S_=>OK.ldCell 48 3 (p6.add (i).toNat) (iv (c.aV.getD (i).toNat 0)) kr kr (S_.cell hc6)) rfl<|PL.take 5 49 (iv x) (fun _ _=>kr)<|PL.take 6 50 (pv b1) (fun _ _=>kr)<|PL.takeOK 7 (fun w_ S_=>OK.ldBox S_ 0 51 26 0 (.slice c.cF c.aQ c.dm) kr rfl kr) rfl<|PL.take 8 52 (iv i) (fun _ _=>kr)<|PL.takeOK 9 (fun w_ S_=>OK.index 53 26 1 c.cF p7 c.aQ (i).toNat i (p7.add (i).toNat) kr kr hp7 om om nO) rfl ?_
  refine PL.takeOK 10 (fun w_ S_=>OK.ldCell 54 3 (p7.add (i).toNat) (iv (c.aG.getD (i).toNat 0)) kr kr (S_.cell hc7)) rfl<|PL.take 11 55 (iv (IntKind.wrap .i64 (x-(c.aG.getD (i).toNat 0)))) (fun _ _=>kr)<|PL.head (iv (x-(c.aG.getD (i).toNat 0))) (congrArg (Value.int .i64) (IntWalk.i64_in _ om))<|PL.take 12 56 (.pointer (some ⟨b1,1,none⟩)) (fun _ _=>kr)<|PL.takeOK 13 (fun w_ S_=>OK.ldBox S_ 0 57 26 1 (.slice c.cM c.bB c.dw) kr rfl kr) rfl<|PL.take 14 58 (iv i) (fun _ _=>kr)<|PL.take 15 59 (iv (IntKind.wrap .i64 (i+1))) (fun _ _=>kr)<|PL.head (iv (i+1)) (congrArg (Value.int .i64) (IntWalk.i64_in _ om))<|PL.takeOK 16 (fun w_ S_=>OK.index 60 26 1 c.cM p8 c.bB (i+1).toNat (i+1) (p8.add (i+1).toNat) kr kr hp8 om om nO) rfl<|PL.takeOK 17 (fun w_ S_=>OK.ldCell 61 3 (p8.add (i+1).toNat) (iv (c.aV.getD (i+1).toNat 0)) kr kr (S_.cell hc8)) rfl<|PL.take 18 62 (.pointer (some ⟨b1,1,none⟩)) (fun _ _=>kr) ?_
  refine PL.takeOK 19 (fun w_ S_=>OK.ldBox S_ 0 63 26 1 (.slice c.cM c.bB c.dw) kr rfl kr) rfl<|PL.take 20 64 (iv i) (fun _ _=>kr)<|PL.takeOK 21 (fun w_ S_=>OK.index 65 26 1 c.cM p6 c.bB (i).toNat i (p6.add (i).toNat) kr kr hp6 om om nO) rfl<|PL.takeOK 22 (fun w_ S_=>OK.ldCell 66 3 (p6.add (i).toNat) (iv (c.aV.getD (i).toNat 0)) kr kr (S_.cell hc6)) rfl<|PL.take 23 67 (iv (IntKind.wrap .i64 ((c.aV.getD (i+1).toNat 0)-(c.aV.getD (i).toNat 0)))) (fun _ _=>kr)<|PL.head (iv ((c.aV.getD (i+1).toNat 0)-(c.aV.getD (i).toNat 0))) (congrArg (Value.int .i64) (IntWalk.i64_in _ om))<|PL.take 24 68 (iv (IntKind.wrap .i64 ((x-(c.aG.getD (i).toNat 0))*((c.aV.getD (i+1).toNat 0)-(c.aV.getD (i).toNat 0))))) (fun _ _=>kr)<|PL.head (iv ((x-(c.aG.getD (i).toNat 0))*((c.aV.getD (i+1).toNat 0)-(c.aV.getD (i).toNat 0)))) (congrArg (Value.int .i64) (IntWalk.i64_in _ om))<|PL.take 25 69 (pv b1) (fun _ _=>kr)<|PL.takeOK 26 (fun w_ S_=>OK.ldBox S_ 0 70 26 0 (.slice c.cF c.aQ c.dm) kr rfl kr) rfl<|PL.take 27 71 (iv i) (fun _ _=>kr) ?_
  refine PL.take 28 72 (iv (IntKind.wrap .i64 (i+1))) (fun _ _=>kr)<|PL.head (iv (i+1)) (congrArg (Value.int .i64) (IntWalk.i64_in _ om))<|PL.takeOK 29 (fun w_ S_=>OK.index 73 26 1 c.cF p5 c.aQ (i+1).toNat (i+1) (p5.add (i+1).toNat) kr kr hp5 om om nO) rfl<|PL.takeOK 30 (fun w_ S_=>OK.ldCell 74 3 (p5.add (i+1).toNat) (iv (c.aG.getD (i+1).toNat 0)) kr kr (S_.cell hc5)) rfl<|PL.take 31 75 (pv b1) (fun _ _=>kr)<|PL.takeOK 32 (fun w_ S_=>OK.ldBox S_ 0 76 26 0 (.slice c.cF c.aQ c.dm) kr rfl kr) rfl<|PL.take 33 77 (iv i) (fun _ _=>kr)<|PL.takeOK 34 (fun w_ S_=>OK.index 78 26 1 c.cF p7 c.aQ (i).toNat i (p7.add (i).toNat) kr kr hp7 om om nO) rfl<|PL.takeOK 35 (fun w_ S_=>OK.ldCell 79 3 (p7.add (i).toNat) (iv (c.aG.getD (i).toNat 0)) kr kr (S_.cell hc7)) rfl<|PL.take 36 80 (iv (IntKind.wrap .i64 ((c.aG.getD (i+1).toNat 0)-(c.aG.getD (i).toNat 0)))) (fun _ _=>kr)<|PL.head (iv ((c.aG.getD (i+1).toNat 0)-(c.aG.getD (i).toNat 0))) (congrArg (Value.int .i64) (IntWalk.i64_in _ om)) ?_
  refine PL.callF 81 117 #[iv ((x-(c.aG.getD (i).toNat 0))*((c.aV.getD (i+1).toNat 0)-(c.aV.getD (i).toNat 0))),iv ((c.aG.getD (i+1).toNat 0)-(c.aG.getD (i).toNat 0))] hb117 kr (rfloor_any ((x-(c.aG.getD (i).toNat 0))*((c.aV.getD (i+1).toNat 0)-(c.aV.getD (i).toNat 0))) ((c.aG.getD (i+1).toNat 0)-(c.aG.getD (i).toNat 0)) _ om om) ?_
  rintro _ w4 ⟨rfl,T1⟩
  have S4:Sep w [box b1 (crvC c) 57] w4:=S3.trans T1
  clear T1 S3
  refine PB.head (iv (((x-(c.aG.getD (i).toNat 0))*((c.aV.getD (i+1).toNat 0)-(c.aV.getD (i).toNat 0)))/((c.aG.getD (i+1).toNat 0)-(c.aG.getD (i).toNat 0)))) (congrArg (Value.int .i64) (floor_pos om om))<|PB.mk S4<|PL.take 38 82 (iv (IntKind.wrap .i64 ((c.aV.getD (i).toNat 0)+(((x-(c.aG.getD (i).toNat 0))*((c.aV.getD (i+1).toNat 0)-(c.aV.getD (i).toNat 0)))/((c.aG.getD (i+1).toNat 0)-(c.aG.getD (i).toNat 0)))))) (fun _ _=>kr)<|PL.head (iv ((c.aV.getD (i).toNat 0)+(((x-(c.aG.getD (i).toNat 0))*((c.aV.getD (i+1).toNat 0)-(c.aV.getD (i).toNat 0)))/((c.aG.getD (i+1).toNat 0)-(c.aG.getD (i).toNat 0))))) (congrArg (Value.int .i64) (IntWalk.i64_in _ om))<|PL.take 39 4 (iv ((c.aV.getD (i).toNat 0)+(((x-(c.aG.getD (i).toNat 0))*((c.aV.getD (i+1).toNat 0)-(c.aV.getD (i).toNat 0)))/((c.aG.getD (i+1).toNat 0)-(c.aG.getD (i).toNat 0))))) (fun _ _=>kr)<|PL.done<|J.e 0 [iv ((c.aV.getD (i).toNat 0)+(((x-(c.aG.getD (i).toNat 0))*((c.aV.getD (i+1).toNat 0)-(c.aV.getD (i).toNat 0)))/((c.aG.getD (i+1).toNat 0)-(c.aG.getD (i).toNat 0))))] func75 (hR _ _ ?_)
  have e:=curve_mid (ys:=c.aV) hv2 (x:=x) (i:=i) ⟨om,by rw[show c.aG.length-1=((c.aQ:Int)-1).toNat by omega];omega⟩ om om om
  exact⟨congrArg (Value.int .i64) (by unfold valueV;rw[e]),S4.nil⟩
 exact J.t 9 (L75_1 _ 0 w1 om (by simp only[Int.toNat_zero];omega) S1 rfl)

end
end Go.Proofs.YtaoolgcddapegaaGreat

