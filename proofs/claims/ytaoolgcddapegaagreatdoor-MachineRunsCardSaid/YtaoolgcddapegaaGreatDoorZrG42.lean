/- Walks of functions of this seat, printed by a program over the engine. Conditions: as each theorem says. -/
import Derived.Test.YtaoolgcddapegaaGreatDoorZrF34
set_option linter.unusedSimpArgs false
set_option linter.unusedVariables false
namespace Go.Proofs.YtaoolgcddapegaaGreatDoor
noncomputable section
open Go.Eng Go.RowKit Go.Proofs.Tryz
set_option maxRecDepth 20000
set_option maxHeartbeats 20000000
def dg (n:Nat):List Int:=if n=0 then [] else ((n%16777216:Nat):Int)::dg (n/16777216)
 termination_by n
 decreasing_by omega
def ak (x:Int):List Int:=dg x.natAbs
def vl:List Int→Int
  | []=>0
  | d::l=>d+16777216*vl l
abbrev okD (l:List Int):Prop:=∀ d ∈ l,0≤d∧d≤16777215
theorem dg_zero:dg 0=[]:=by rw[dg];rfl
theorem dg_pos {n:Nat} (h:n≠0):dg n=((n%16777216:Nat):Int)::dg (n/16777216):=by rw[dg,if_neg h]
theorem dg_ok (n:Nat):okD (dg n):=by
  induction n using Nat.strongRecOn with
  | _ n ih =>
    by_cases h:n=0
    · subst h;rw[dg_zero];intro d hd;cases hd
    · rw[dg_pos h];intro d hd
      rcases List.mem_cons.1 hd with rfl | hd
      · omega
      · exact ih (n/16777216) om d hd
theorem dV (x:Int):okD (ak x):=dg_ok _
theorem dg_val (n:Nat):vl (dg n)=(n:Int):=by
  induction n using Nat.strongRecOn with
  | _ n ih =>
    by_cases h:n=0
    · subst h;rw[dg_zero];rfl
    · rw[dg_pos h,vl,ih (n/16777216) om];omega
theorem digs_val (x:Int):vl (ak x)=(x.natAbs:Int):=dg_val _
theorem okD_at {l:List Int} (h:okD l) (k:Nat):0≤l.getD k 0∧l.getD k 0≤16777215:=by
  rw[List.getD_eq_getElem?_getD]
  cases hk:l[k]? with
  | none=>exact⟨Int.le_refl 0,dE⟩
  | some d=>exact h d (List.mem_of_getElem? hk)
theorem digs_at (x:Int) (k:Nat):0≤(ak x).getD k 0∧(ak x).getD k 0≤16777215:=okD_at (dV x) k
theorem vl_nonneg {l:List Int} (h:okD l):0≤vl l:=by
  induction l with
  | nil=>exact Int.le_refl 0
  | cons d l ih =>
    have h1:=h d (List.mem_cons_self ..)
    have h2:=ih (fun x hx=>h x (List.mem_cons_of_mem _ hx))
    rw[vl];omega
theorem dg_len {n k:Nat} (h:n<16777216^k):(dg n).length≤k:=by
  induction k generalizing n with
  | zero=>rw[show n=0 by rw[Nat.pow_zero] at h;omega,dg_zero];exact Nat.le_refl 0
  | succ k ih =>
    by_cases h0:n=0
    · subst h0;rw[dg_zero];exact Nat.zero_le _
    · rw[dg_pos h0,List.length_cons]
      have:=ih (n:=n/16777216) (Nat.div_lt_of_lt_mul (by rw[Nat.pow_succ,Nat.mul_comm] at h;exact h))
      omega
def canL:List Int→List Int
  | []=>[]
  | d::l=>if canL l=[]∧d=0 then [] else d::canL l
def bY (l:List Int):Nat→Nat
  | 0=>0
  | k+1=>if l.getD k 0=0 then bY l k else k+1
theorem dF (l:List Int):∀ k,bY l k≤k
  | 0=>Nat.le_refl 0
  | k+1=>by rw[bY];split;exact Nat.le_succ_of_le (dF l k);exact Nat.le_refl _
theorem trimN_cons (d:Int) (l:List Int):∀ k,bY (d::l) (k+1)=if bY l k=0∧d=0 then 0 else bY l k+1
  | 0=>by
    show(if (d::l).getD 0 0=0 then bY (d::l) 0 else 1)=_
    rw[show(d::l).getD 0 0=d from rfl,show bY (d::l) 0=0 from rfl,show bY l 0=0 from rfl]
    by_cases h:d=0
    · rw[if_pos h,if_pos ⟨rfl,h⟩]
    · rw[if_neg h,if_neg (fun e=>h e.2)]
  | k+1=>by
    rw[bY,show(d::l).getD (k+1) 0=l.getD k 0 from rfl,trimN_cons d l k]
    show _=if bY l (k+1)=0∧d=0 then 0 else bY l (k+1)+1
    rw[bY]
    by_cases h:l.getD k 0=0
    · rw[if_pos h,if_pos h]
    · rw[if_neg h,if_neg h,if_neg om]
theorem take_trim:∀ l:List Int,l.take (bY l l.length)=canL l
  | []=>rfl
  | d::l=>by
    rw[List.length_cons,trimN_cons,canL,← take_trim l]
    have hle:=dF l l.length
    by_cases h:bY l l.length=0∧d=0
    · rw[if_pos h,if_pos ⟨by rw[h.1];rfl,h.2⟩];rfl
    · rw[if_neg h,if_neg (fun e=>h ⟨by have:=congrArg List.length e.1;rw[List.length_take] at this;rw[List.length_nil] at this;omega,e.2⟩),List.take_succ_cons]
theorem canL_dg:∀ {l:List Int},okD l→canL l=dg (vl l).toNat
  | [],_=>by rw[canL,vl];exact dg_zero.symm
  | d::l,h=>by
    have h1:=h d (List.mem_cons_self ..)
    have h2:okD l:=fun x hx=>h x (List.mem_cons_of_mem _ hx)
    have h3:=vl_nonneg h2
    rw[canL,canL_dg h2,vl]
    by_cases hz:vl l=0∧d=0
    · rw[hz.1,hz.2,if_pos ⟨dg_zero,rfl⟩];exact dg_zero.symm
    · have hn:¬ (d+16777216*vl l).toNat=0:=by omega
      rw[if_neg (fun e=>hz ⟨by
        have:=congrArg vl e.1;rw[dg_val] at this
        have e0:vl ([]:List Int)=0:=rfl
        rw[e0] at this;omega,e.2⟩),dg_pos hn]
      congr 1
      · omega
      · congr 1;omega
theorem trim_dg {l:List Int} (h:okD l):l.take (bY l l.length)=dg (vl l).toNat:=(take_trim l).trans (canL_dg h)
theorem trim_digs {l:List Int} {x:Int} (h:okD l) (hv:vl l=(x.natAbs:Int)):l.take (bY l l.length)=ak x:=by
  rw[trim_dg h,hv];rfl
theorem dl:∀ (l:List Int) (k:Nat),vl (l.take (k+1))=vl (l.take k)+16777216^k*l.getD k 0
  | [],k=>by simp[vl]
  | d::l,0=>by simp[vl]
  | d::l,k+1=>by
    rw[List.take_succ_cons,List.take_succ_cons,vl,vl,dl l k,show(d::l).getD (k+1) 0=l.getD k 0 from rfl,Int.mul_add,Int.pow_succ,Int.mul_comm (16777216^k) 16777216,Int.mul_assoc,Int.add_assoc]
theorem vl_snoc:∀ (l:List Int) (d:Int),vl (l++[d])=vl l+16777216^l.length*d
  | [],d=>by simp[vl]
  | e::l,d=>by
    rw[List.cons_append,vl,vl,vl_snoc l d,List.length_cons,Int.mul_add,Int.pow_succ,Int.mul_comm (16777216^l.length) 16777216,Int.mul_assoc,Int.add_assoc]
theorem okD_snoc {l:List Int} {d:Int} (h:okD l) (hd:0≤d∧d≤16777215):okD (l++[d]):=by
  intro x hx
  rcases List.mem_append.1 hx with hx | hx
  · exact h x hx
  · rw[List.mem_singleton.1 hx];exact hd
theorem okD_nil:okD []:=by intro d hd;cases hd
theorem vl_lt {l:List Int} (h:okD l):vl l<16777216^l.length:=by
  induction l with
  | nil=>exact(by decide:(0:Int)<1)
  | cons d l ih =>
    have h1:=h d (List.mem_cons_self ..)
    have h2:=ih (fun x hx=>h x (List.mem_cons_of_mem _ hx))
    rw[vl,List.length_cons,Int.pow_succ];omega
theorem vl_take_ge {l:List Int} {k:Nat} (h:l.length≤k):vl (l.take k)=vl l:=by rw[List.take_of_length_le h]
theorem add_step {P v va vb c da db q r s:Int} (hs:s=da+db+c) (hq:s=q*16777216+r) (h:v+P*c=va+vb):v+P*r+P*16777216*q=va+P*da+(vb+P*db):=by
  have e1:P*s=P*da+P*db+P*c:=by rw[hs,Int.mul_add,Int.mul_add]
  have e2:P*s=P*16777216*q+P*r:=by rw[hq,Int.mul_add,Int.mul_comm q,Int.mul_assoc]
  omega
theorem sub_step {P v va vb c da db q r:Int} (hr:r=da-db-c+q*16777216) (h:v-P*c=va-vb):v+P*r-P*16777216*q=va+P*da-(vb+P*db):=by
  have e:P*r=P*da-P*db-P*c+P*16777216*q:=by rw[hr,Int.mul_add,Int.mul_sub,Int.mul_sub,Int.mul_comm q,Int.mul_assoc]
  omega
def lessK (a b:List Int):Nat→Bool
  | 0=>false
  | k+1=>if a.getD k 0=b.getD k 0 then lessK a b k else decide (a.getD k 0<b.getD k 0)
def lessF (a b:List Int):Bool:=if a.length=b.length then lessK a b a.length else decide (a.length<b.length)
theorem pow_mono (B:Nat) (hB:0<B) {a b:Nat} (h:a≤b):(B:Int)^a≤(B:Int)^b:=by exact_mod_cast Nat.pow_le_pow_right hB h
theorem pow24 {a b:Nat} (h:a≤b):(16777216:Int)^a≤16777216^b:=pow_mono 16777216 dE h
theorem dg_big {n:Nat} (h:n≠0):(16777216:Int)^((dg n).length-1)≤(n:Int):=by
  induction n using Nat.strongRecOn with
  | _ n ih =>
    rw[dg_pos h,List.length_cons,Nat.add_sub_cancel]
    by_cases h2:n/16777216=0
    · rw[h2,dg_zero];show(1:Int)≤_;omega
    · have:=ih (n/16777216) om h2
      have hl:(dg (n/16777216)).length=(dg (n/16777216)).length-1+1:=by rw[dg_pos h2,List.length_cons];omega
      rw[hl,Int.pow_succ];omega
theorem dg_shorter {m n:Nat} (h:(dg m).length<(dg n).length):m<n:=by
  have h1:=vl_lt (dg_ok m)
  rw[dg_val] at h1
  have hn:n≠0:=by intro e;subst e;rw[dg_zero] at h;cases h
  have h2:=dg_big hn
  have h3:(16777216:Int)^(dg m).length≤16777216^((dg n).length-1):=pow24 om
  omega
theorem lessK_val {a b:List Int} (ha:okD a) (hb:okD b):∀ k,lessK a b k=decide (vl (a.take k)<vl (b.take k))
  | 0=>by simp[lessK,vl]
  | k+1=>by
    rw[lessK,lessK_val ha hb k,dl,dl]
    have h1:=okD_at ha k
    have h2:=okD_at hb k
    have ta:=vl_lt (l:=a.take k) (fun x hx=>ha x (List.mem_of_mem_take hx))
    have tb:=vl_lt (l:=b.take k) (fun x hx=>hb x (List.mem_of_mem_take hx))
    have na:=vl_nonneg (l:=a.take k) (fun x hx=>ha x (List.mem_of_mem_take hx))
    have nb:=vl_nonneg (l:=b.take k) (fun x hx=>hb x (List.mem_of_mem_take hx))
    have pa:(16777216:Int)^(a.take k).length≤16777216^k:=pow24 (List.length_take_le k a)
    have pb:(16777216:Int)^(b.take k).length≤16777216^k:=pow24 (List.length_take_le k b)
    obtain ⟨P,hP⟩:∃ P,P=(16777216:Int)^k:=⟨_,rfl⟩
    rw[← hP] at pa pb ⊢
    split
    · rename_i e;rw[e];exact decide_eq_decide.2 om
    · rename_i e
      refine decide_eq_decide.2 ?_
      rcases Int.lt_or_gt_of_ne e with g | g
      · have:=Int.mul_le_mul_of_nonneg_left (show a.getD k 0+1≤b.getD k 0 by omega) (show 0≤P by omega)
        rw[Int.mul_add,Int.mul_one] at this
        exact⟨fun _=>om,fun _=>g⟩
      · have:=Int.mul_le_mul_of_nonneg_left (show b.getD k 0+1≤a.getD k 0 by omega) (show 0≤P by omega)
        rw[Int.mul_add,Int.mul_one] at this
        exact⟨fun _=>om,fun _=>om⟩
theorem less_digs (x y:Int):lessF (ak x) (ak y)=decide (x.natAbs<y.natAbs):=by
  unfold lessF
  split
  · rename_i e
    rw[lessK_val (dV x) (dV y),List.take_length,e,List.take_length,digs_val,digs_val]
    exact decide_eq_decide.2 om
  · rename_i e
    refine decide_eq_decide.2 ⟨fun h=>dg_shorter h,fun h=>?_⟩
    rcases Nat.lt_or_gt_of_ne e with g | g
    · exact g
    · have:=dg_shorter g;omega
theorem vl_set:∀ (l:List Int) (j:Nat) (x:Int),j<l.length→vl (l.set j x)=vl l+16777216^j*(x-l.getD j 0)
  | [],_,_,h=>by cases h
  | d::l,0,x,_=>by simp[vl];omega
  | d::l,j+1,x,h=>by
    rw[List.set_cons_succ,vl,vl,vl_set l j x (by simpa using h),show(d::l).getD (j+1) 0=l.getD j 0 from rfl,Int.mul_add,Int.pow_succ,Int.mul_comm (16777216^j) 16777216,Int.mul_assoc,Int.add_assoc]
theorem vl_zeros (n:Nat):vl (List.replicate n 0)=0:=by
  induction n with
  | zero=>rfl
  | succ n ih=>rw[List.replicate_succ,vl,ih];rfl
theorem okD_zeros (n:Nat):okD (List.replicate n 0):=by intro d hd;rw[List.eq_of_mem_replicate hd];omega
theorem okD_set {l:List Int} {j:Nat} {x:Int} (h:okD l) (hx:0≤x∧x≤16777215):okD (l.set j x):=by
  intro d hd
  rcases List.mem_or_eq_of_mem_set hd with hd | rfl
  · exact h d hd
  · exact hx
structure mulP (a b:List Int) (i k:Nat) (out:List Int) (c:Int):Prop where
  ok:okD out
  len:out.length=a.length+b.length+1
  val:vl out+16777216^(i+k)*c=vl (a.take i)*vl b+16777216^i*(a.getD i 0*vl (b.take k))
  car:0≤c∧c≤16777215
  zero:∀ j,i+max k b.length≤j→out.getD j 0=0
  fin:k≤b.length∨k=b.length+1∧c=0
theorem mul_start (a b:List Int):mulP a b 0 0 (List.replicate (a.length+b.length+1) 0) 0:=by
  refine⟨okD_zeros _,List.length_replicate,?_,om,fun j _=>?_,.inl (Nat.zero_le _)⟩
  · rw[vl_zeros];simp[vl]
  · rw[List.getD_eq_getElem?_getD]
    cases h:(List.replicate (a.length+b.length+1) (0:Int))[j]? with
    | none=>rfl
    | some d=>exact List.eq_of_mem_replicate (List.mem_of_getElem? h)
theorem mulP_bd {a b:List Int} {i k:Nat} {out:List Int} {c:Int} (h:mulP a b i k out c) (ha:okD a) (hb:okD b):(0≤out.getD (i+k) 0∧out.getD (i+k) 0≤16777215)∧(0≤a.getD i 0∧a.getD i 0≤16777215)∧(0≤b.getD k 0∧b.getD k 0≤16777215)∧0≤a.getD i 0*b.getD k 0∧a.getD i 0*b.getD k 0≤281474943156225:=by
  have h1:=okD_at ha i
  have h2:=okD_at hb k
  refine⟨okD_at h.ok _,h1,h2,Int.mul_nonneg h1.1 h2.1,?_⟩
  exact Int.le_trans (Int.mul_le_mul h1.2 h2.2 h2.1 om) dE
theorem mul_round {a b:List Int} {i k:Nat} {out:List Int} {c s:Int} (h:mulP a b i k out c) (ha:okD a) (hb:okD b) (hi:i<a.length) (hk:k<b.length∨c>0) (hs:s=out.getD (i+k) 0+a.getD i 0*b.getD k 0+c):mulP a b i (k+1) (out.set (i+k) (s%16777216)) (s/16777216):=by
  have hb1:=mulP_bd h ha hb
  have hc:=h.car
  have hf:=h.fin
  have hl:=h.len
  have hlt:i+k<out.length:=by omega
  have hz:=h.zero
  refine⟨okD_set h.ok om,by rw[List.length_set];exact hl,?_,om,fun j hj=>?_,?_⟩
  · rw[vl_set _ _ _ hlt,dl,Int.mul_add (a.getD i 0),Int.mul_add (16777216^i)]
    have e0:(16777216:Int)^(i+(k+1))=16777216^(i+k)*16777216:=by rw[← Nat.add_assoc,Int.pow_succ]
    have e1:(16777216:Int)^i*(a.getD i 0*(16777216^k*b.getD k 0))=16777216^(i+k)*(a.getD i 0*b.getD k 0):=by
      rw[Int.pow_add,Int.mul_assoc,Int.mul_left_comm (a.getD i 0)]
    rw[e0,e1,Int.mul_assoc,← Int.add_assoc,← h.val]
    have e2:(16777216:Int)^(i+k)*(s%16777216-out.getD (i+k) 0)+16777216^(i+k)*(16777216*(s/16777216))=16777216^(i+k)*c+16777216^(i+k)*(a.getD i 0*b.getD k 0):=by
      rw[← Int.mul_add,← Int.mul_add];congr 1;omega
    omega
  · have hne:j≠i+k:=by omega
    rw[List.getD_eq_getElem?_getD,List.getElem?_set_ne (fun e=>hne e.symm),← List.getD_eq_getElem?_getD]
    exact hz j om
  · rcases hf with hf | hf
    · by_cases e:k<b.length
      · exact .inl e
      · refine .inr ⟨om,?_⟩
        have z:=hz (i+k) om
        have z2:b.getD k 0=0:=by rw[List.getD_eq_getElem?_getD,List.getElem?_eq_none om];rfl
        rw[z,z2,Int.mul_zero] at hs;omega
    · omega
theorem mul_next {a b:List Int} {i k:Nat} {out:List Int} {c:Int} (h:mulP a b i k out c) (hk:¬ (k<b.length∨c>0)):mulP a b (i+1) 0 out 0:=by
  have hf:=h.fin
  have hc:=h.car
  have hz:=h.zero
  have c0:c=0:=by omega
  have hv:=h.val
  rw[c0,Int.mul_zero,Int.add_zero,vl_take_ge (l:=b) om] at hv
  refine⟨h.ok,h.len,?_,om,fun j hj=>hz j om,.inl (Nat.zero_le _)⟩
  rw[Int.mul_zero,Int.add_zero,hv,dl,Int.add_mul,List.take_zero,show vl []=0 from rfl,Int.mul_zero,Int.mul_zero,Int.add_zero,Int.mul_assoc]
theorem mul_end {x y:Int} {i:Nat} {out:List Int} (h:mulP (ak x) (ak y) i 0 out 0) (hi:(ak x).length≤i):out.take (bY out out.length)=ak (x*y):=by
  refine trim_digs h.ok ?_
  have hv:=h.val
  rw[Int.mul_zero,Int.add_zero,vl_take_ge hi,List.take_zero,show vl []=0 from rfl,Int.mul_zero,Int.mul_zero,Int.add_zero,digs_val,digs_val] at hv
  rw[hv,Int.natAbs_mul];rfl
theorem dj (x:Int):ak (-x)=ak x:=by unfold ak;rw[Int.natAbs_neg]
theorem digs_nil {x:Int}:(ak x).length=0↔x=0:=by
  unfold ak
  by_cases h:x.natAbs=0
  · rw[h,dg_zero];simp;omega
  · rw[dg_pos h,List.length_cons];omega
theorem of_step {n:Int} (h:n≠0):dg n.natAbs=((Int.tmod n 16777216).natAbs:Int)::dg (Int.tdiv n 16777216).natAbs:=by
  rw[dg_pos om,Int.natAbs_tmod,Int.natAbs_tdiv];rfl
theorem tmod_abs (n:Int): -16777216<Int.tmod n 16777216∧Int.tmod n 16777216<16777216:=by
  constructor
  · have:=Int.lt_tmod_of_pos n (show(0:Int)<16777216 by decide);omega
  · exact Int.tmod_lt_of_pos n dE
theorem tdiv_abs (n:Int) (h:n≠0):(Int.tdiv n 16777216).natAbs<n.natAbs:=by rw[Int.natAbs_tdiv];show n.natAbs/16777216<n.natAbs;omega
structure addP (a b:List Int) (i:Nat) (out:List Int) (c:Int):Prop where
  ok:okD out
  len:out.length=i
  val:vl out+16777216^i*c=vl (a.take i)+vl (b.take i)
  car:0≤c∧c≤1
theorem add_start (a b:List Int):addP a b 0 [] 0:=⟨okD_nil,rfl,by simp[vl],om⟩
theorem add_round {a b:List Int} {i:Nat} {out:List Int} {c s:Int} (h:addP a b i out c) (ha:okD a) (hb:okD b) (hs:s=a.getD i 0+b.getD i 0+c):addP a b (i+1) (out++[s%16777216]) (s/16777216):=by
  have h1:=okD_at ha i
  have h2:=okD_at hb i
  have hc:=h.car
  refine⟨okD_snoc h.ok om,by rw[List.length_append,h.len];rfl,?_,om⟩
  rw[vl_snoc,h.len,dl,dl,Int.pow_succ]
  exact add_step hs (show s=s/16777216*16777216+s%16777216 by omega) h.val
theorem add_end {x y:Int} {i:Nat} {out:List Int} (h:addP (ak x) (ak y) i out 0) (hx:(ak x).length≤i) (hy:(ak y).length≤i) (hs:(x<0)=(y<0)):out.take (bY out out.length)=ak (x+y):=by
  refine trim_digs h.ok ?_
  have hv:=h.val
  rw[Int.mul_zero,Int.add_zero,vl_take_ge hx,vl_take_ge hy,digs_val,digs_val] at hv
  rw[hv]
  have:x<0↔y<0:=by rw[hs]
  omega
structure subP (a b:List Int) (i:Nat) (out:List Int) (c:Int):Prop where
  ok:okD out
  len:out.length=i
  val:vl out-16777216^i*c=vl (a.take i)-vl (b.take i)
  car:0≤c∧c≤1
theorem sub_start (a b:List Int):subP a b 0 [] 0:=⟨okD_nil,rfl,by simp[vl],om⟩
theorem sub_round {a b:List Int} {i:Nat} {out:List Int} {c r q:Int} (h:subP a b i out c) (hr:r=a.getD i 0-b.getD i 0-c+q*16777216) (h0:0≤r∧r≤16777215) (hq:0≤q∧q≤1):subP a b (i+1) (out++[r]) q:=by
  refine⟨okD_snoc h.ok h0,by rw[List.length_append,h.len];rfl,?_,hq⟩
  rw[vl_snoc,h.len,dl,dl,Int.pow_succ]
  exact sub_step hr h.val
theorem sub_end {x y:Int} {i:Nat} {out:List Int} {c:Int} (h:subP (ak x) (ak y) i out c) (hi:(ak x).length=i) (hg:y.natAbs≤x.natAbs) (hs:(x<0)≠(y<0)):out.take (bY out out.length)=ak (x+y):=by
  refine trim_digs h.ok ?_
  have hv:=h.val
  have hy:(ak y).length≤(ak x).length:=by
    apply Nat.le_of_not_lt
    intro g
    have:=dg_shorter (m:=x.natAbs) (n:=y.natAbs) g
    omega
  have hlt:=vl_lt h.ok
  have hn:=vl_nonneg h.ok
  rw[h.len] at hlt
  rw[vl_take_ge om,vl_take_ge om,digs_val,digs_val] at hv
  have hc:=h.car
  have hc0:c=0:=by
    have:c=0∨c=1:=by omega
    rcases this with e | e
    · exact e
    · rw[e,Int.mul_one] at hv;omega
  rw[hc0,Int.mul_zero,Int.sub_zero] at hv
  have h3:¬ (x<0↔y<0):=fun e=>hs (propext e)
  omega
def sgnI (x:Int):Int:=if x=0 then 0 else if x<0 then -1 else 1
theorem sgn_le {x:Int}:sgnI x≤0↔x≤0:=by unfold sgnI;split<;>(try split)<;>omega
theorem sgn_lt {x:Int}:sgnI x<0↔x<0:=by unfold sgnI;split<;>(try split)<;>omega
theorem sgn_zero {x:Int}:sgnI x=0↔x=0:=by unfold sgnI;split<;>(try split)<;>omega
abbrev ok7 (x:Int):Prop:= -374144419156711147060143317175368453031918731001856<x∧x<374144419156711147060143317175368453031918731001856
theorem digs_len {x:Int} (h:ok7 x):(ak x).length≤7:=by
  refine dg_len ?_
  rw[show(16777216:Nat)^7=374144419156711147060143317175368453031918731001856 by rfl]
  omega
theorem tdiv_in {n:Int} (h: -9223372036854775808≤n∧n≤9223372036854775807): -9223372036854775808≤Int.tdiv n 16777216∧Int.tdiv n 16777216≤9223372036854775807:=by
  have e:=Int.natAbs_tdiv n 16777216
  have:(Int.tdiv n 16777216).natAbs≤n.natAbs:=by rw[e];exact Nat.div_le_self _ _
  have:n.natAbs/16777216*16777216≤n.natAbs:=Nat.div_mul_le_self _ _
  have e2:(Int.tdiv n 16777216).natAbs=n.natAbs/16777216:=e
  omega
theorem sg_diff' {x y:Int} (h:(x<0)≠(y<0)):(decide (x<0)==decide (y<0))=false:=by
  rw[beq_eq_false_iff_ne];intro e;exact h (propext (decide_eq_decide.1 e))
theorem sg_same' {x y:Int} (h:(x<0)=(y<0)):(decide (x<0)==decide (y<0))=true:=by
  rw[beq_iff_eq];simp only[h]
theorem sg_or (x y:Int):(x<0)=(y<0)∨(x<0)≠(y<0):=Classical.em _
theorem less_no {x y:Int} (h:y.natAbs≤x.natAbs):lessF (ak x) (ak y)=false:=by rw[less_digs];exact decide_eq_false om
theorem less_yes {x y:Int} (h:x.natAbs<y.natAbs):lessF (ak x) (ak y)=true:=by rw[less_digs];exact decide_eq_true h
theorem nat_mul_sgn {x y:Int} (h:x*y≠0):(decide (x<0) != decide (y<0))=decide (x*y<0):=by
  have hx:x≠0:=fun e=>h (by rw[e,Int.zero_mul])
  have hy:y≠0:=fun e=>h (by rw[e,Int.mul_zero])
  by_cases h1:x<0<;>by_cases h2:y<0
  · have:=Int.mul_pos_of_neg_of_neg h1 h2;simp[h1,h2];omega
  · have:=Int.mul_neg_of_neg_of_pos h1 (show 0<y by omega);simp[h1,h2];omega
  · have:=Int.mul_neg_of_pos_of_neg (show 0<x by omega) h2;simp[h1,h2];omega
  · have:=Int.mul_pos (show 0<x by omega) (show 0<y by omega);simp[h1,h2];omega
theorem digs_over {x:Int} {k:Nat} (h:(ak x).length≤k):(ak x).getD k 0=0:=by rw[List.getD_eq_getElem?_getD,List.getElem?_eq_none h];rfl
theorem mul_sg (x y:Int):decide (x*y<0)=(!(decide (x<0)==decide (y<0))&&decide (x*y≠0)):=by
  by_cases h:x*y=0
  · rw[h];simp
  · rw[← nat_mul_sgn h,decide_eq_true h,Bool.and_true];rfl
def nzX (n d:Int) (t:Fxd):Int:=n*t.aa+ -(d*t.aG)
def nzY (d:Int) (t:Fxd):Int:=d*t.aY
def nzZ (d:Int) (t:Fxd):Int:=2*nzY d t
def nzB (n d:Int) (t:Fxd):Int:=2*nzX n d t+nzY d t
theorem near_step {n d:Int} {t:Fxd} {m:Int} (hu:1≤d*t.aY):nzZ d t*m+ -(nzB n d t)≤0↔m≤qF n d t:=by
  unfold qF nzZ nzB nzX nzY
  rw[Int.le_ediv_iff_mul_le om]
  have e1:d*(0-t.aG)= -(d*t.aG):=by rw[Int.zero_sub,Int.mul_neg]
  have e2:m*(2*(d*t.aY))=(2*(d*t.aY))*m:=Int.mul_comm _ _
  rw[e1,e2];omega
theorem fit_units {op:Int} {a b t:Unt} (h:fitOK op a b t=true):unRB op a b=true∧ct (dA op a b) t=true:=by
  unfold fitOK at h;unfold unRB dA
  by_cases h3:op=3
  · rw[if_pos h3] at h ⊢;rw[if_pos h3];simpa using h
  · by_cases h4:op=4
    · rw[if_neg h3,if_pos h4] at h;rw[if_neg h3,if_neg h3,if_pos h4,if_pos h4];simpa using h
    · rw[if_neg h3,if_neg h4] at h;rw[if_neg h3,if_neg h3,if_neg h4,if_neg h4]
      rw[Bool.and_eq_true,eL,eL] at h
      exact⟨eL.2 (h.1.trans h.2.symm),eL.2 h.1⟩

def bA (n k:Nat):Array Bool:=((List.range n).map fun j=>Nat.testBit k j).toArray
abbrev bgV (x:Int) (a:Option Addr) (c:Nat):Value:=Value.agg #[Value.bool (decide (x<0)),Value.slice a (ak x).length c]
abbrev bgC (x:Int) (a:Option Addr) (c:Nat):List Value:=[Value.bool (decide (x<0)),Value.slice a (ak x).length c]
abbrev bgR (x:Int) (a:Option Addr) (c:Nat):Eng.Claim:=am aM a c 3 1 (ak x)
theorem hb76:af prog 76:=fun _ _=>by kernel_rfl
def K76_0:=adv 15 [] (bo Tryz.f76)
theorem eS (n:Int) (w:World) (hn: -9223372036854775808≤n∧n≤9223372036854775807):Ret prog 76 #[iv n] w (fun v w'=>∃ a cap,v=.agg #[.bool (decide (n<0)),.slice a (ak (n)).length cap]∧Sep w [bgR (n) a cap] w'):=by
 refine Ret.st (N:=25) func76 fun R hR S0=>?_
 have h7:(dg n.natAbs).length≤7:=digs_len (x:=n) cO
 refine J.nw 2 [] [] [] S0 2 [.bool false,.slice none 0 0] 87 fun b1 w1 S1=>J.nw 6 [] [(7,.agg #[.bool (decide (n<0)),.slice none 0 0])] [] S1 3 [.bool false,.slice none 0 0] 87 fun b2 w2 S2=>J.sb 0 [] [] [] S2 0 rfl [.bool (decide (n<0)),.slice none 0 0] rfl fun w3 S3=>?_
 have S4:Sep w [am aM none 0 3 1 ([]),box b2 [.bool (decide (n<0)),.slice none 0 0] 87,box b1 [.bool false,.slice none 0 0] 87] w3:=S3.nilRow 3 1
 have L76_1:∀ (mm_:Nat) (ol:List Int) (ra:Option Addr) (rc:Nat) (n_:Int) (w4:World),(-9223372036854775808≤n_∧n_≤9223372036854775807)→(ol++dg (n_).natAbs=dg n.natAbs)→Sep w [am aM ra rc 3 1 ol,box b2 [.bool (decide (n<0)),.slice ra ol.length rc] 87,box b1 [.bool false,.slice none 0 0] 87] w4→(n_).natAbs=mm_→J prog 76 25 R K76_0 [(3,pv b2),(2,pv b1),(0,iv n_)] w4:=by
  intro mm1
  induction mm1 using Nat.strongRecOn with
  | _ mm1 ih1 =>
  intro ol ra rc n_ w4 hn_ hv S5 hm1
  have htm:=tmod_abs n_
  have hol:ol.length≤7:=by have:=congrArg List.length hv;rw[List.length_append] at this;omega
  refine J.cn 6 [] [] [] 9 (n_=0) (fun fk1=>?_) fun fk1=>?_
  refine J.lb 4 [false] [] [] S5 1 rfl 24 (.agg #[.bool (decide (n<0)),.slice ra ol.length rc])<|J.sb 0 [] [] [] S5 2 rfl [.bool (decide (n<0)),.slice ra ol.length rc] rfl fun w5 S6=>J.ez 1 [.agg #[.bool (decide (n<0)),.slice ra ol.length rc]] func76 (bk (S6.nth 2 rfl) bn) (hR _ _ ?_)
  have hd:ol=ak n:=by rw[show n_=0 by omega,show Int.natAbs 0=0 from rfl,dg_zero,List.append_nil] at hv;exact hv
  exact⟨_,_,by rw[← hd];rfl,by unfold bgR;rw[← hd];exact S6.pick 0 rfl⟩
  refine J.c 15 [true] [(4,iv (Int.tmod n_ 16777216))] [] 13 ((Int.tmod n_ 16777216)<0) (fun fk2=>?_) fun fk2=>?_
  refine J.wi 4 [true] [] [] 15 (0-(Int.tmod n_ 16777216))<|J.lb 5 [] [(4,iv (0-(Int.tmod n_ 16777216)))] [] S5 1 rfl 17 (.slice ra ol.length rc)<|J.r 1 [] [(18,iv (0-(Int.tmod n_ 16777216)))] []<|J.newSlice S5 19 1 [iv (0-(Int.tmod n_ 16777216))] 3 kr ?_
  intro b3 w6 S7
  refine J.append aM S7 1 ol (0-(Int.tmod n_ 16777216)) 20 26 (iv 0) 8 ⟨b3,0,none⟩ 1 rfl kr kr kr kr dE (bS (S7.nth 0 rfl)) kr kr (⟨om,om⟩) ?_
  intro ra1 rc1 w7 S8
  replace S8:Sep w [box b3 [iv (0-(Int.tmod n_ 16777216))] 3,am aM ra1 rc1 3 1 (ol++[0-(Int.tmod n_ 16777216)]),box b2 [.bool (decide (n<0)),.slice ra ol.length rc] 87,box b1 [.bool false,.slice none 0 0] 87] w7:=S8
  exact J.sb 1 [] [] [] (S8.erase 0) 1 rfl [.bool (decide (n<0)),.slice ra1 ((ol++[0-(Int.tmod n_ 16777216)]).length) rc1] rfl fun w8 S9=>J.h 4 [] [] [] 23 (iv (IntKind.wrap .i64 (Int.tdiv n_ 16777216))) (iv (Int.tdiv n_ 16777216)) (congrArg (Value.int .i64) (IntWalk.i64_in _ (tdiv_in om)))<|J.t 4 (ih1 _ (show((Int.tdiv n_ 16777216)).natAbs<mm1 from by have:=tdiv_abs n_ om;omega) (ol++[0-(Int.tmod n_ 16777216)]) ra1 rc1 (Int.tdiv n_ 16777216) w8 (tdiv_in om) (by rw[List.append_assoc,← hv,of_step (n:=n_) om,show((Int.tmod n_ 16777216).natAbs:Int)=0-(Int.tmod n_ 16777216) by omega];rfl) S9 rfl)
  refine J.lb 5 [false] [] [] S5 1 rfl 17 (.slice ra ol.length rc)<|J.r 1 [] [(18,iv (Int.tmod n_ 16777216))] []<|J.newSlice S5 19 1 [iv (Int.tmod n_ 16777216)] 3 kr ?_
  intro b4 w9 S10
  refine J.append aM S10 1 ol (Int.tmod n_ 16777216) 20 26 (iv 0) 8 ⟨b4,0,none⟩ 1 rfl kr kr kr kr dE (bS (S10.nth 0 rfl)) kr kr (⟨om,om⟩) ?_
  intro ra2 rc2 w10 S11
  replace S11:Sep w [box b4 [iv (Int.tmod n_ 16777216)] 3,am aM ra2 rc2 3 1 (ol++[Int.tmod n_ 16777216]),box b2 [.bool (decide (n<0)),.slice ra ol.length rc] 87,box b1 [.bool false,.slice none 0 0] 87] w10:=S11
  exact J.sb 1 [] [] [] (S11.erase 0) 1 rfl [.bool (decide (n<0)),.slice ra2 ((ol++[Int.tmod n_ 16777216]).length) rc2] rfl fun w11 S12=>J.h 4 [] [] [] 23 (iv (IntKind.wrap .i64 (Int.tdiv n_ 16777216))) (iv (Int.tdiv n_ 16777216)) (congrArg (Value.int .i64) (IntWalk.i64_in _ (tdiv_in om)))<|J.t 4 (ih1 _ (show((Int.tdiv n_ 16777216)).natAbs<mm1 from by have:=tdiv_abs n_ om;omega) (ol++[Int.tmod n_ 16777216]) ra2 rc2 (Int.tdiv n_ 16777216) w11 (tdiv_in om) (by rw[List.append_assoc,← hv,of_step (n:=n_) om,show((Int.tmod n_ 16777216).natAbs:Int)=Int.tmod n_ 16777216 by omega];rfl) S12 rfl)
 exact J.t 4 (L76_1 _ ([]) none 0 n w3 om (rfl) S4 rfl)

theorem hb124:af prog 124:=fun _ _=>by kernel_rfl
def K124_0:=adv 7 [] (bo Tryz.f124)
theorem trim_any (la:Option Addr) (n c:Nat) (l:List Int) (w:World) (hI:dk w la n l) (hnc:n≤c) (hnb:n≤1000000):Ret prog 124 #[.slice la n c] w (fun v w'=>v=.slice la (bY l l.length) c∧Sep w [] w'):=by
 refine Ret.st (N:=21) func124 fun R hR S0=>?_
 have hll:=hI.len_eq
 have L124_1:∀ (mm_:Nat) (m:Nat) (w1:World),(m≤n)→(bY l m=bY l l.length)→Sep w [] w1→m=mm_→J prog 124 21 R K124_0 [(0,.slice la m c)] w1:=by
  intro mm1
  induction mm1 using Nat.strongRecOn with
  | _ mm1 ih1 =>
  intro m w1 hm ht S1 hm1
  refine J.c 7 [] [] [] 6 ((m:Int)>0) (fun fk1=>?_) fun fk1=>?_
  refine J.wi 4 [] [(7,.slice la m c)] [] 10 ((m:Int)-1) ?_
  obtain ⟨p1,hp1,hc1⟩:=hI.at 0 ((m:Int)-1).toNat om
  refine J.ok (OK.index 11 26 1 la p1 m ((m:Int)-1).toNat ((m:Int)-1) (p1.add ((m:Int)-1).toNat) kr kr hp1 om om nO)<|J.ok (OK.ldCell 12 3 (p1.add ((m:Int)-1).toNat) (iv (l.getD ((m:Int)-1).toNat 0)) kr kr (S1.cell hc1))<|J.c 3 [] [] [] 14 ((l.getD ((m:Int)-1).toNat 0)=0) (fun fk2=>?_) fun fk2=>?_
  exact J.wi 8 [true] [(15,.slice la m c)] [] 18 ((m:Int)-1)<|J.ok (OK.slice 19 26 1 la m c none (some (iv ((m:Int)-1))) 0 (((m:Int)-1).toNat) kr kr (.inl ⟨rfl,rfl⟩) (.inr ⟨_,_,rfl,om⟩) oz oz)<|J.head (.slice la (((m:Int)-1).toNat) c) (by rw[subA_zero];try rfl)<|J.t 4 (ih1 _ (show(((m:Int)-1).toNat)<mm1 from by omega) (((m:Int)-1).toNat) w1 om (by rw[← ht];obtain ⟨m1,e1⟩:∃ m1,m=m1+1:=⟨m-1,om⟩;rw[show(((m:Int)-1).toNat)=m1 by omega,e1,bY,if_pos (by have h_:=fk2;rwa [show((m:Int)-1).toNat=m1 by omega] at h_)]) S1 rfl)
  refine J.e 7 [.slice la m c] func124 (hR _ _ ?_)
  have e0:m=bY l l.length:=by rw[← ht];first | rw[show m=0 by omega];rfl | (obtain ⟨m1,rfl⟩:∃ m1,m=m1+1:=⟨m-1,om⟩;rw[bY,if_neg (by simpa using fk2)])
  exact⟨by rw[← e0];rfl,S1.nil⟩
  refine J.e 16 [.slice la m c] func124 (hR _ _ ?_)
  have e0:m=bY l l.length:=by rw[← ht];first | rw[show m=0 by omega];rfl | (obtain ⟨m1,rfl⟩:∃ m1,m=m1+1:=⟨m-1,om⟩;rw[bY,if_neg (by simpa using fk1)])
  exact⟨by rw[← e0];rfl,S1.nil⟩
 exact J.t 7 (L124_1 _ n w (Nat.le_refl _) (by rw[hll]) S0 rfl)

theorem hb125:af prog 125:=fun _ _=>by kernel_rfl
def K125_0:=adv 25 [false] (bo Tryz.f125)
theorem rless_any (la:Option Addr) (na ca:Nat) (xa:List Int) (lb:Option Addr) (nb cb:Nat) (xb:List Int) (w:World) (ha:dk w la na xa) (hb:dk w lb nb xb) (hna:na≤1000000):Ret prog 125 #[.slice la na ca,.slice lb nb cb] w (fun v w'=>v=.bool (lessF xa xb)∧Sep w [] w'):=by
 refine Ret.st (N:=41) func125 fun R hR S0=>?_
 have hla_:=ha.len_eq
 have hlb_:=hb.len_eq
 refine J.cn 13 [] [] [] 10 ((na:Int)=(nb:Int)) (fun fk1=>?_) fun fk1=>?_
 refine J.wi 8 [false] [] [] 18 ((na:Int)-1) ?_
 have L125_1:∀ (mm_:Nat) (i:Int) (w1:World),(-1≤i∧i<(na:Int))→(lessK xa xb (i+1).toNat=lessK xa xb xa.length)→Sep w [] w1→(i+1).toNat=mm_→J prog 125 41 R K125_0 [(5,iv i),(0,.slice la na ca),(1,.slice lb nb cb)] w1:=by
  intro mm1
  induction mm1 using Nat.strongRecOn with
  | _ mm1 ih1 =>
  intro i w1 h0 hk S1 hm1
  refine J.c 6 [] [] [] 20 (i≥0) (fun fk2=>?_) fun fk2=>?_
  refine J.r 5 [true] [] [] ?_
  obtain ⟨p1,hp1,hc1⟩:=ha.at 0 (i).toNat om
  obtain ⟨p2,hp2,hc2⟩:=hb.at 0 (i).toNat om
  refine J.drawStill S1 9 Tryz.mixed kr kr kr ?_
  intro w2 S2
  refine SL.r 23 (.slice la na ca)<|SL.r 24 (iv i)<|SL.ok dE (OK.index 25 26 1 la p1 na (i).toNat i (p1.add (i).toNat) kr kr hp1 om om nO)<|SL.ok dE (OK.ldCell 26 3 (p1.add (i).toNat) (iv (xa.getD (i).toNat 0)) kr kr (S2.cell hc1))<|SL.r 27 (.slice lb nb cb)<|SL.r 28 (iv i)<|SL.ok dE (OK.index 29 26 1 lb p2 nb (i).toNat i (p2.add (i).toNat) kr kr hp2 om om nO)<|SL.ok dE (OK.ldCell 30 3 (p2.add (i).toNat) (iv (xb.getD (i).toNat 0)) kr kr (S2.cell hc2))<|SL.r 31 (.bool ((xa.getD (i).toNat 0) != (xb.getD (i).toNat 0)))<|SL.done<|TL.done kr ?_
  refine J.cn 0 [] [] [] 31 ((xa.getD (i).toNat 0)=(xb.getD (i).toNat 0)) (fun fk3=>?_) fun fk3=>?_
  exact J.wi 6 [false] [] [] 22 (i-1)<|J.t 3 (ih1 _ (show((i-1)+1).toNat<mm1 from by omega) (i-1) w2 om (by rw[← hk,show(i+1).toNat=(i-1+1).toNat+1 by omega,lessK,show(i-1+1).toNat=i.toNat by omega,if_pos fk3]) S2 rfl)
  refine J.r 2 [true] [] []<|J.drawStill S2 10 Tryz.mixed kr kr kr ?_
  intro w3 S3
  refine SL.r 32 (.slice la na ca)<|SL.r 33 (iv i)<|SL.ok dE (OK.index 34 26 1 la p1 na (i).toNat i (p1.add (i).toNat) kr kr hp1 om om nO)<|SL.ok dE (OK.ldCell 35 3 (p1.add (i).toNat) (iv (xa.getD (i).toNat 0)) kr kr (S3.cell hc1))<|SL.r 36 (.slice lb nb cb)<|SL.r 37 (iv i)<|SL.ok dE (OK.index 38 26 1 lb p2 nb (i).toNat i (p2.add (i).toNat) kr kr hp2 om om nO)<|SL.ok dE (OK.ldCell 39 3 (p2.add (i).toNat) (iv (xb.getD (i).toNat 0)) kr kr (S3.cell hc2))<|SL.r 40 (.bool (decide ((xa.getD (i).toNat 0)<(xb.getD (i).toNat 0))))<|SL.r 4 (.bool (decide ((xa.getD (i).toNat 0)<(xb.getD (i).toNat 0))))<|SL.done ?_
  refine TL.done kr<|J.e 0 [.bool (decide ((xa.getD (i).toNat 0)<(xb.getD (i).toNat 0)))] func125 (hR _ _ ?_)
  exact⟨congrArg Value.bool (by unfold lessF;rw[if_pos om,← hk,show(i+1).toNat=i.toNat+1 by omega,lessK,if_neg fk3]),S3.nil⟩
  refine J.e 6 [.bool false] func125 (hR _ _ ?_)
  exact⟨congrArg Value.bool (by unfold lessF;rw[if_pos om,← hk,show(i+1).toNat=0 by omega];rfl),S1.nil⟩
 exact J.t 4 (L125_1 _ ((na:Int)-1) w om (by rw[show((na:Int)-1+1).toNat=xa.length by omega]) S0 rfl)
 refine J.e 10 [.bool (decide ((na:Int)<(nb:Int)))] func125 (hR _ _ ?_)
 exact⟨congrArg Value.bool (by unfold lessF;rw[if_neg om];exact decide_eq_decide.2 om),S0.nil⟩

theorem hb123:af prog 123:=fun _ _=>by kernel_rfl

theorem eD (la:Option Addr) (n c:Nat) (l:List Int) (i:Int) (w:World) (hI:dk w la n l) (hi:0≤i) (hnb:n≤1000000):Ret prog 123 #[.slice la n c,iv i] w (fun v w'=>v=iv (l.getD i.toNat 0)∧Sep w [] w'):=by
 refine Ret.st (N:=13) func123 fun R hR S0=>?_
 have hll:=hI.len_eq
 refine J.c 12 [] [] [] 8 (i<(n:Int)) (fun fk1=>?_) fun fk1=>?_
 refine J.r 5 [true] [(10,iv i),(9,.slice la n c)] [] ?_
 obtain ⟨p1,hp1,hc1⟩:=hI.at 0 (i).toNat om
 refine J.ok (OK.index 11 26 1 la p1 n (i).toNat i (p1.add (i).toNat) kr kr hp1 om om nO)<|J.ok (OK.ldCell 12 3 (p1.add (i).toNat) (iv (l.getD (i).toNat 0)) kr kr (S0.cell hc1))<|J.e 2 [iv (l.getD (i).toNat 0)] func123 (hR _ _ ?_)
 exact⟨rfl,S0.nil⟩
 refine J.e 6 [iv 0] func123 (hR _ _ ?_)
 exact⟨congrArg (Value.int .i64) (by rw[List.getD_eq_getElem?_getD,List.getElem?_eq_none om];rfl),S0.nil⟩

theorem hb39:af prog 39:=fun _ _=>by kernel_rfl

theorem eo (x:Int) (lx:Option Addr) (nx cx:Nat) (w:World) (hx:dk w lx nx (ak x)):Ret prog 39 #[.agg #[.bool (decide (x<0)),.slice lx nx cx]] w (fun v w'=>v=.agg #[.bool (decide (-x<0)),.slice lx nx cx]∧Sep w [] w'):=by
 refine Ret.st (N:=15) func39 fun R hR S0=>?_
 have ex:=hx.len_eq
 have hz:=digs_nil (x:=x)
 refine J.nw 2 [] [] [] S0 1 [.bool (decide (x<0)),.slice lx nx cx] 87 fun b1 w1 S1=>J.nw 0 [] [] [] S1 2 [.bool false,.slice none 0 0] 87 fun b2 w2 S2=>J.lb 4 [] [] [] S2 1 rfl 4 (.bool (decide (x<0)))<|J.bn 2 [] [] [] 6 (decide (x<0)) (fun fk1=>?_) fun fk1=>?_
 have fb1:=of_decide_eq_true fk1
 refine J.lb 6 [] [(11,.bool false)] [] S2 1 rfl 13 (.slice lx nx cx)<|J.sb 1 [] [] [] S2 0 rfl [.bool false,.slice lx nx cx] rfl fun w3 S3=>J.ez 1 [.agg #[.bool false,.slice lx nx cx]] func39 (bk (S3.nth 0 rfl) bn) (hR _ _ ?_)
 have e0:decide (-x<0)=false:=by first | exact decide_eq_decide.2 om | exact decide_eq_true om | exact decide_eq_false om
 exact⟨by rw[e0];rfl,S3.nil⟩
 have fb2:=of_decide_eq_false fk1
 refine J.lb 1 [] [] [] S2 1 rfl 8 (.slice lx nx cx)<|J.lb 4 [] [(11,.bool (decide ((nx:Int)>0)))] [] S2 1 rfl 13 (.slice lx nx cx)<|J.sb 1 [] [] [] S2 0 rfl [.bool (decide ((nx:Int)>0)),.slice lx nx cx] rfl fun w4 S4=>J.ez 1 [.agg #[.bool (decide ((nx:Int)>0)),.slice lx nx cx]] func39 (bk (S4.nth 0 rfl) bn) (hR _ _ ?_)
 have e0:decide (-x<0)=(decide ((nx:Int)>0)):=by first | exact decide_eq_decide.2 om | exact decide_eq_true om | exact decide_eq_false om
 exact⟨by rw[e0];rfl,S4.nil⟩

theorem hb79:af prog 79:=fun _ _=>by kernel_rfl

theorem rsign_any (x:Int) (lx:Option Addr) (nx cx:Nat) (w:World) (hx:dk w lx nx (ak x)):Ret prog 79 #[.agg #[.bool (decide (x<0)),.slice lx nx cx]] w (fun v w'=>v=iv (sgnI x)∧Sep w [] w'):=by
 refine Ret.st (N:=9) func79 fun R hR S0=>?_
 have ex:=hx.len_eq
 have hz:=digs_nil (x:=x)
 refine J.nw 2 [] [] [] S0 1 [.bool (decide (x<0)),.slice lx nx cx] 87 fun b1 w1 S1=>J.lb 6 [] [] [] S1 0 rfl 4 (.slice lx nx cx)<|J.c 3 [] [] [] 6 ((nx:Int)=0) (fun fk1=>?_) fun fk1=>?_
 refine J.e 5 [iv 0] func79 (hR _ _ ?_)
 exact⟨congrArg (Value.int .i64) (by unfold sgnI;(repeat first | rw[if_pos om] | rw[if_neg om])),S1.nil⟩
 refine J.lb 6 [false] [] [] S1 0 rfl 8 (.bool (decide (x<0)))<|J.b 1 [] [] [] 8 (decide (x<0)) (fun fk2=>?_) fun fk2=>?_
 have fb1:=of_decide_eq_true fk2
 refine J.e 5 [iv (-1)] func79 (hR _ _ ?_)
 exact⟨congrArg (Value.int .i64) (by unfold sgnI;(repeat first | rw[if_pos om] | rw[if_neg om])),S1.nil⟩
 have fb2:=of_decide_eq_false fk2
 refine J.e 6 [iv 1] func79 (hR _ _ ?_)
 exact⟨congrArg (Value.int .i64) (by unfold sgnI;(repeat first | rw[if_pos om] | rw[if_neg om])),S1.nil⟩

theorem hb77:af prog 77:=fun _ _=>by kernel_rfl
def K77_0:=adv 31 [true] (bo Tryz.f77)
theorem radd_same (x y:Int) (lx:Option Addr) (nx cx:Nat) (ly:Option Addr) (ny cy:Nat) (w:World) (hx:dk w lx nx (ak x)) (ox:ok7 x) (hy:dk w ly ny (ak y)) (oy:ok7 y) (hs:(x<0)=(y<0)):Ret prog 77 #[.agg #[.bool (decide (x<0)),.slice lx nx cx],.agg #[.bool (decide (y<0)),.slice ly ny cy]] w (fun v w'=>∃ a cap,v=.agg #[.bool (decide (x+y<0)),.slice a (ak (x+y)).length cap]∧Sep w [bgR (x+y) a cap] w'):=by
 refine Ret.st (N:=105) func77 fun R hR S0=>?_
 have ex:=hx.len_eq
 have dx:=digs_len ox
 have ey:=hy.len_eq
 have dy:=digs_len oy
 refine J.nw 2 [] [] [] S0 2 [.bool (decide (x<0)),.slice lx nx cx] 87 fun b1 w1 S1=>J.nw 0 [] [] [] S1 3 [.bool (decide (y<0)),.slice ly ny cy] 87 fun b2 w2 S2=>J.nw 0 [] [] [] S2 4 [.bool false,.slice none 0 0] 87 fun b3 w3 S3=>J.lb 5 [] [] [] S3 2 rfl 14 (.bool (decide (x<0)))<|J.lb 1 [] [] [] S3 1 rfl 16 (.bool (decide (y<0))) ?_
 have fk2:((decide (x<0))==(decide (y<0)))=true:=sg_same' hs
 refine J.h 2 [] [] [] 17 (.bool ((decide (x<0))==(decide (y<0)))) (.bool true) (congrArg Value.bool fk2) ?_
 have S4:Sep w [am aM none 0 3 1 ([]),box b3 [.bool false,.slice none 0 0] 87,box b2 [.bool (decide (y<0)),.slice ly ny cy] 87,box b1 [.bool (decide (x<0)),.slice lx nx cx] 87] w3:=S3.nilRow 3 1
 have L77_1:∀ (mm_:Nat) (ol:List Int) (ra:Option Addr) (rc:Nat) (c_:Int) (i:Int) (w4:World),(0≤i∧i≤8)→(addP (ak x) (ak y) (i).toNat ol c_)→(i≤7∨c_=0)→Sep w [am aM ra rc 3 1 ol,box b3 [.bool false,.slice none 0 0] 87,box b2 [.bool (decide (y<0)),.slice ly ny cy] 87,box b1 [.bool (decide (x<0)),.slice lx nx cx] 87] w4→(16-i).toNat=mm_→J prog 77 105 R K77_0 [(7,iv i),(6,iv c_),(5,.slice ra ol.length rc),(4,pv b3),(3,pv b2),(2,pv b1)] w4:=by
  intro mm1
  induction mm1 using Nat.strongRecOn with
  | _ mm1 ih1 =>
  intro ol ra rc c_ i w4 h0 hA h7 S5 hm1
  have hca:=hA.car
  have hol:=hA.len
  have hdx:=digs_at x i.toNat
  have hdy:=digs_at y i.toNat
  have hzx:(ak x).length≤i.toNat→(ak x).getD i.toNat 0=0:=digs_over
  have hzy:(ak y).length≤i.toNat→(ak y).getD i.toNat 0=0:=digs_over
  refine J.lb 5 [] [(18,iv i)] [] S5 3 rfl 20 (.slice lx nx cx)<|J.c 3 [] [] [] 23 (i<(nx:Int)) (fun fk3=>?_) fun fk3=>?_
  refine J.r 16 [true] [] []<|J.drawPlan (fun w_=>Sep w [am aM ra rc 3 1 ol,box b3 [.bool false,.slice none 0 0] 87,box b2 [.bool (decide (y<0)),.slice ly ny cy] 87,box b1 [.bool (decide (x<0)),.slice lx nx cx] 87] w_) [(0,true),(1,true),(2,true),(4,true),(5,true),(6,true),(9,true),(3,false),(7,false),(8,true),(10,true),(11,true)] S5 Tryz.mixed kr (aF (T:=[(0,some 36,4),(1,some 37,68719476736),(0,some 38,128),(6,some 39,412316860416),(0,some 40,8),(16,some 41,1099511627776),(0,some 42,128),(104,some 43,6597069766656),(136,some 44,9345848836096),(0,some 45,64),(768,some 46,52776558133248),(2047,some 8,70368744177664)]) kr kr) ?_
  intro w5 S6
  refine PB.mk S6<|PL.take 0 36 (.pointer (some ⟨b1,1,none⟩)) (fun _ _=>kr)<|PL.takeOK 1 (fun w_ S_=>OK.ldBox S_ 3 37 26 1 (.slice lx nx cx) kr rfl kr) rfl<|PL.take 2 38 (iv i) (fun _ _=>kr)<|PL.take 4 40 (.pointer (some ⟨b2,1,none⟩)) (fun _ _=>kr)<|PL.takeOK 5 (fun w_ S_=>OK.ldBox S_ 2 41 26 1 (.slice ly ny cy) kr rfl kr) rfl<|PL.take 6 42 (iv i) (fun _ _=>kr)<|PL.take 9 45 (iv c_) (fun _ _=>kr)<|PL.callF 39 123 #[.slice lx nx cx,iv i] hb123 kr (eD lx nx cx (ak x) i _ (hx.sep S6) om oz) ?_
  rintro _ w6 ⟨rfl,T1⟩
  have S7:Sep w [am aM ra rc 3 1 ol,box b3 [.bool false,.slice none 0 0] 87,box b2 [.bool (decide (y<0)),.slice ly ny cy] 87,box b1 [.bool (decide (x<0)),.slice lx nx cx] 87] w6:=S6.trans T1
  clear T1 S6
  refine PB.mk S7<|PL.callF 43 123 #[.slice ly ny cy,iv i] hb123 kr (eD ly ny cy (ak y) i _ (hy.sep S7) om oz) ?_
  rintro _ w7 ⟨rfl,T2⟩
  have S8:Sep w [am aM ra rc 3 1 ol,box b3 [.bool false,.slice none 0 0] 87,box b2 [.bool (decide (y<0)),.slice ly ny cy] 87,box b1 [.bool (decide (x<0)),.slice lx nx cx] 87] w7:=S7.trans T2
  clear T2 S7
  refine PB.mk S8<|PL.take 8 44 (iv (IntKind.wrap .i64 (((ak x).getD (i).toNat 0)+((ak y).getD (i).toNat 0)))) (fun _ _=>kr)<|PL.head (iv (((ak x).getD (i).toNat 0)+((ak y).getD (i).toNat 0))) (congrArg (Value.int .i64) (IntWalk.i64_in _ om))<|PL.take 10 46 (iv (IntKind.wrap .i64 ((((ak x).getD (i).toNat 0)+((ak y).getD (i).toNat 0))+c_))) (fun _ _=>kr)<|PL.head (iv ((((ak x).getD (i).toNat 0)+((ak y).getD (i).toNat 0))+c_)) (congrArg (Value.int .i64) (IntWalk.i64_in _ om))<|PL.take 11 8 (iv ((((ak x).getD (i).toNat 0)+((ak y).getD (i).toNat 0))+c_)) (fun _ _=>kr)<|PL.done<|J.h 5 [] [(47,.slice ra ol.length rc)] [] 49 (iv (Int.tmod ((((ak x).getD (i).toNat 0)+((ak y).getD (i).toNat 0))+c_) 16777216)) (iv (((((ak x).getD (i).toNat 0)+((ak y).getD (i).toNat 0))+c_)%16777216)) (congrArg (Value.int .i64) (IntWalk.rem_in _ _ om))<|J.newSlice S8 50 1 [iv (((((ak x).getD (i).toNat 0)+((ak y).getD (i).toNat 0))+c_)%16777216)] 3 kr ?_
  intro b4 w8 S9
  refine J.append aM S9 1 ol (((((ak x).getD (i).toNat 0)+((ak y).getD (i).toNat 0))+c_)%16777216) 51 26 (iv 0) 8 ⟨b4,0,none⟩ 1 rfl kr kr kr kr dE (bS (S9.nth 0 rfl)) kr kr (⟨om,om⟩) ?_
  intro ra1 rc1 w9 S10
  replace S10:Sep w [box b4 [iv (((((ak x).getD (i).toNat 0)+((ak y).getD (i).toNat 0))+c_)%16777216)] 3,am aM ra1 rc1 3 1 (ol++[((((ak x).getD (i).toNat 0)+((ak y).getD (i).toNat 0))+c_)%16777216]),box b3 [.bool false,.slice none 0 0] 87,box b2 [.bool (decide (y<0)),.slice ly ny cy] 87,box b1 [.bool (decide (x<0)),.slice lx nx cx] 87] w9:=S10
  exact J.h 5 [] [(5,.slice ra1 ((ol++[((((ak x).getD (i).toNat 0)+((ak y).getD (i).toNat 0))+c_)%16777216]).length) rc1)] [] 53 (iv (IntKind.wrap .i64 (Int.tdiv ((((ak x).getD (i).toNat 0)+((ak y).getD (i).toNat 0))+c_) 16777216))) (iv (((((ak x).getD (i).toNat 0)+((ak y).getD (i).toNat 0))+c_)/16777216)) (congrArg (Value.int .i64) (IntWalk.i64_quo _ _ om))<|J.wi 6 [] [(6,iv (((((ak x).getD (i).toNat 0)+((ak y).getD (i).toNat 0))+c_)/16777216))] [] 35 (i+1)<|J.t 3 (ih1 _ (show(16-(i+1)).toNat<mm1 from by omega) (ol++[((((ak x).getD (i).toNat 0)+((ak y).getD (i).toNat 0))+c_)%16777216]) ra1 rc1 (((((ak x).getD (i).toNat 0)+((ak y).getD (i).toNat 0))+c_)/16777216) (i+1) w9 om (by rw[show(i+1).toNat=i.toNat+1 by omega];exact add_round hA (dV x) (dV y) rfl) om (S10.erase 0) rfl)
  refine J.lb 2 [] [(24,iv i)] [] S5 2 rfl 26 (.slice ly ny cy)<|J.c 4 [] [] [] 30 (i<(ny:Int)) (fun fk4=>?_) fun fk4=>?_
  refine J.r 9 [true] [] []<|J.drawPlan (fun w_=>Sep w [am aM ra rc 3 1 ol,box b3 [.bool false,.slice none 0 0] 87,box b2 [.bool (decide (y<0)),.slice ly ny cy] 87,box b1 [.bool (decide (x<0)),.slice lx nx cx] 87] w_) [(0,true),(1,true),(2,true),(4,true),(5,true),(6,true),(9,true),(3,false),(7,false),(8,true),(10,true),(11,true)] S5 Tryz.mixed kr (aF (T:=[(0,some 36,4),(1,some 37,68719476736),(0,some 38,128),(6,some 39,412316860416),(0,some 40,8),(16,some 41,1099511627776),(0,some 42,128),(104,some 43,6597069766656),(136,some 44,9345848836096),(0,some 45,64),(768,some 46,52776558133248),(2047,some 8,70368744177664)]) kr kr) ?_
  intro w10 S11
  refine PB.mk S11<|PL.take 0 36 (.pointer (some ⟨b1,1,none⟩)) (fun _ _=>kr)<|PL.takeOK 1 (fun w_ S_=>OK.ldBox S_ 3 37 26 1 (.slice lx nx cx) kr rfl kr) rfl<|PL.take 2 38 (iv i) (fun _ _=>kr)<|PL.take 4 40 (.pointer (some ⟨b2,1,none⟩)) (fun _ _=>kr)<|PL.takeOK 5 (fun w_ S_=>OK.ldBox S_ 2 41 26 1 (.slice ly ny cy) kr rfl kr) rfl<|PL.take 6 42 (iv i) (fun _ _=>kr)<|PL.take 9 45 (iv c_) (fun _ _=>kr)<|PL.callF 39 123 #[.slice lx nx cx,iv i] hb123 kr (eD lx nx cx (ak x) i _ (hx.sep S11) om oz) ?_
  rintro _ w11 ⟨rfl,T3⟩
  have S12:Sep w [am aM ra rc 3 1 ol,box b3 [.bool false,.slice none 0 0] 87,box b2 [.bool (decide (y<0)),.slice ly ny cy] 87,box b1 [.bool (decide (x<0)),.slice lx nx cx] 87] w11:=S11.trans T3
  clear T3 S11
  refine PB.mk S12<|PL.callF 43 123 #[.slice ly ny cy,iv i] hb123 kr (eD ly ny cy (ak y) i _ (hy.sep S12) om oz) ?_
  rintro _ w12 ⟨rfl,T4⟩
  have S13:Sep w [am aM ra rc 3 1 ol,box b3 [.bool false,.slice none 0 0] 87,box b2 [.bool (decide (y<0)),.slice ly ny cy] 87,box b1 [.bool (decide (x<0)),.slice lx nx cx] 87] w12:=S12.trans T4
  clear T4 S12
  refine PB.mk S13<|PL.take 8 44 (iv (IntKind.wrap .i64 (((ak x).getD (i).toNat 0)+((ak y).getD (i).toNat 0)))) (fun _ _=>kr)<|PL.head (iv (((ak x).getD (i).toNat 0)+((ak y).getD (i).toNat 0))) (congrArg (Value.int .i64) (IntWalk.i64_in _ om))<|PL.take 10 46 (iv (IntKind.wrap .i64 ((((ak x).getD (i).toNat 0)+((ak y).getD (i).toNat 0))+c_))) (fun _ _=>kr)<|PL.head (iv ((((ak x).getD (i).toNat 0)+((ak y).getD (i).toNat 0))+c_)) (congrArg (Value.int .i64) (IntWalk.i64_in _ om))<|PL.take 11 8 (iv ((((ak x).getD (i).toNat 0)+((ak y).getD (i).toNat 0))+c_)) (fun _ _=>kr)<|PL.done<|J.h 5 [] [(47,.slice ra ol.length rc)] [] 49 (iv (Int.tmod ((((ak x).getD (i).toNat 0)+((ak y).getD (i).toNat 0))+c_) 16777216)) (iv (((((ak x).getD (i).toNat 0)+((ak y).getD (i).toNat 0))+c_)%16777216)) (congrArg (Value.int .i64) (IntWalk.rem_in _ _ om))<|J.newSlice S13 50 1 [iv (((((ak x).getD (i).toNat 0)+((ak y).getD (i).toNat 0))+c_)%16777216)] 3 kr ?_
  intro b5 w13 S14
  refine J.append aM S14 1 ol (((((ak x).getD (i).toNat 0)+((ak y).getD (i).toNat 0))+c_)%16777216) 51 26 (iv 0) 8 ⟨b5,0,none⟩ 1 rfl kr kr kr kr dE (bS (S14.nth 0 rfl)) kr kr (⟨om,om⟩) ?_
  intro ra2 rc2 w14 S15
  replace S15:Sep w [box b5 [iv (((((ak x).getD (i).toNat 0)+((ak y).getD (i).toNat 0))+c_)%16777216)] 3,am aM ra2 rc2 3 1 (ol++[((((ak x).getD (i).toNat 0)+((ak y).getD (i).toNat 0))+c_)%16777216]),box b3 [.bool false,.slice none 0 0] 87,box b2 [.bool (decide (y<0)),.slice ly ny cy] 87,box b1 [.bool (decide (x<0)),.slice lx nx cx] 87] w14:=S15
  exact J.h 5 [] [(5,.slice ra2 ((ol++[((((ak x).getD (i).toNat 0)+((ak y).getD (i).toNat 0))+c_)%16777216]).length) rc2)] [] 53 (iv (IntKind.wrap .i64 (Int.tdiv ((((ak x).getD (i).toNat 0)+((ak y).getD (i).toNat 0))+c_) 16777216))) (iv (((((ak x).getD (i).toNat 0)+((ak y).getD (i).toNat 0))+c_)/16777216)) (congrArg (Value.int .i64) (IntWalk.i64_quo _ _ om))<|J.wi 6 [] [(6,iv (((((ak x).getD (i).toNat 0)+((ak y).getD (i).toNat 0))+c_)/16777216))] [] 35 (i+1)<|J.t 3 (ih1 _ (show(16-(i+1)).toNat<mm1 from by omega) (ol++[((((ak x).getD (i).toNat 0)+((ak y).getD (i).toNat 0))+c_)%16777216]) ra2 rc2 (((((ak x).getD (i).toNat 0)+((ak y).getD (i).toNat 0))+c_)/16777216) (i+1) w14 om (by rw[show(i+1).toNat=i.toNat+1 by omega];exact add_round hA (dV x) (dV y) rfl) om (S15.erase 0) rfl)
  refine J.c 4 [] [] [] 33 (c_>0) (fun fk5=>?_) fun fk5=>?_
  refine J.r 5 [true] [] []<|J.drawPlan (fun w_=>Sep w [am aM ra rc 3 1 ol,box b3 [.bool false,.slice none 0 0] 87,box b2 [.bool (decide (y<0)),.slice ly ny cy] 87,box b1 [.bool (decide (x<0)),.slice lx nx cx] 87] w_) [(0,true),(1,true),(2,true),(4,true),(5,true),(6,true),(9,true),(3,false),(7,false),(8,true),(10,true),(11,true)] S5 Tryz.mixed kr (aF (T:=[(0,some 36,4),(1,some 37,68719476736),(0,some 38,128),(6,some 39,412316860416),(0,some 40,8),(16,some 41,1099511627776),(0,some 42,128),(104,some 43,6597069766656),(136,some 44,9345848836096),(0,some 45,64),(768,some 46,52776558133248),(2047,some 8,70368744177664)]) kr kr) ?_
  intro w15 S16
  refine PB.mk S16<|PL.take 0 36 (.pointer (some ⟨b1,1,none⟩)) (fun _ _=>kr)<|PL.takeOK 1 (fun w_ S_=>OK.ldBox S_ 3 37 26 1 (.slice lx nx cx) kr rfl kr) rfl<|PL.take 2 38 (iv i) (fun _ _=>kr)<|PL.take 4 40 (.pointer (some ⟨b2,1,none⟩)) (fun _ _=>kr)<|PL.takeOK 5 (fun w_ S_=>OK.ldBox S_ 2 41 26 1 (.slice ly ny cy) kr rfl kr) rfl<|PL.take 6 42 (iv i) (fun _ _=>kr)<|PL.take 9 45 (iv c_) (fun _ _=>kr)<|PL.callF 39 123 #[.slice lx nx cx,iv i] hb123 kr (eD lx nx cx (ak x) i _ (hx.sep S16) om oz) ?_
  rintro _ w16 ⟨rfl,T5⟩
  have S17:Sep w [am aM ra rc 3 1 ol,box b3 [.bool false,.slice none 0 0] 87,box b2 [.bool (decide (y<0)),.slice ly ny cy] 87,box b1 [.bool (decide (x<0)),.slice lx nx cx] 87] w16:=S16.trans T5
  clear T5 S16
  refine PB.mk S17<|PL.callF 43 123 #[.slice ly ny cy,iv i] hb123 kr (eD ly ny cy (ak y) i _ (hy.sep S17) om oz) ?_
  rintro _ w17 ⟨rfl,T6⟩
  have S18:Sep w [am aM ra rc 3 1 ol,box b3 [.bool false,.slice none 0 0] 87,box b2 [.bool (decide (y<0)),.slice ly ny cy] 87,box b1 [.bool (decide (x<0)),.slice lx nx cx] 87] w17:=S17.trans T6
  clear T6 S17
  refine PB.mk S18<|PL.take 8 44 (iv (IntKind.wrap .i64 (((ak x).getD (i).toNat 0)+((ak y).getD (i).toNat 0)))) (fun _ _=>kr)<|PL.head (iv (((ak x).getD (i).toNat 0)+((ak y).getD (i).toNat 0))) (congrArg (Value.int .i64) (IntWalk.i64_in _ om))<|PL.take 10 46 (iv (IntKind.wrap .i64 ((((ak x).getD (i).toNat 0)+((ak y).getD (i).toNat 0))+c_))) (fun _ _=>kr)<|PL.head (iv ((((ak x).getD (i).toNat 0)+((ak y).getD (i).toNat 0))+c_)) (congrArg (Value.int .i64) (IntWalk.i64_in _ om))<|PL.take 11 8 (iv ((((ak x).getD (i).toNat 0)+((ak y).getD (i).toNat 0))+c_)) (fun _ _=>kr)<|PL.done<|J.h 5 [] [(47,.slice ra ol.length rc)] [] 49 (iv (Int.tmod ((((ak x).getD (i).toNat 0)+((ak y).getD (i).toNat 0))+c_) 16777216)) (iv (((((ak x).getD (i).toNat 0)+((ak y).getD (i).toNat 0))+c_)%16777216)) (congrArg (Value.int .i64) (IntWalk.rem_in _ _ om))<|J.newSlice S18 50 1 [iv (((((ak x).getD (i).toNat 0)+((ak y).getD (i).toNat 0))+c_)%16777216)] 3 kr ?_
  intro b6 w18 S19
  refine J.append aM S19 1 ol (((((ak x).getD (i).toNat 0)+((ak y).getD (i).toNat 0))+c_)%16777216) 51 26 (iv 0) 8 ⟨b6,0,none⟩ 1 rfl kr kr kr kr dE (bS (S19.nth 0 rfl)) kr kr (⟨om,om⟩) ?_
  intro ra3 rc3 w19 S20
  replace S20:Sep w [box b6 [iv (((((ak x).getD (i).toNat 0)+((ak y).getD (i).toNat 0))+c_)%16777216)] 3,am aM ra3 rc3 3 1 (ol++[((((ak x).getD (i).toNat 0)+((ak y).getD (i).toNat 0))+c_)%16777216]),box b3 [.bool false,.slice none 0 0] 87,box b2 [.bool (decide (y<0)),.slice ly ny cy] 87,box b1 [.bool (decide (x<0)),.slice lx nx cx] 87] w19:=S20
  exact J.h 5 [] [(5,.slice ra3 ((ol++[((((ak x).getD (i).toNat 0)+((ak y).getD (i).toNat 0))+c_)%16777216]).length) rc3)] [] 53 (iv (IntKind.wrap .i64 (Int.tdiv ((((ak x).getD (i).toNat 0)+((ak y).getD (i).toNat 0))+c_) 16777216))) (iv (((((ak x).getD (i).toNat 0)+((ak y).getD (i).toNat 0))+c_)/16777216)) (congrArg (Value.int .i64) (IntWalk.i64_quo _ _ om))<|J.wi 6 [] [(6,iv (((((ak x).getD (i).toNat 0)+((ak y).getD (i).toNat 0))+c_)/16777216))] [] 35 (i+1)<|J.t 3 (ih1 _ (show(16-(i+1)).toNat<mm1 from by omega) (ol++[((((ak x).getD (i).toNat 0)+((ak y).getD (i).toNat 0))+c_)%16777216]) ra3 rc3 (((((ak x).getD (i).toNat 0)+((ak y).getD (i).toNat 0))+c_)/16777216) (i+1) w19 om (by rw[show(i+1).toNat=i.toNat+1 by omega];exact add_round hA (dV x) (dV y) rfl) om (S20.erase 0) rfl)
  refine J.r 3 [false] [] []<|J.drawPlan (fun w_=>Sep w [box b2 [.bool (decide (y<0)),.slice ly ny cy] 87,box b1 [.bool (decide (x<0)),.slice lx nx cx] 87] w_) [(0,true),(1,true),(2,true),(3,false),(4,true),(5,false)] S5 Tryz.mixed kr (aF (T:=[(0,some 54,4),(1,some 55,18014398509481984),(0,some 56,32),(4,some 57,72057594037927936),(10,some 58,180143985094819840),(31,none,288230376151711760)]) kr kr) ?_
  intro w20 S21
  refine PB.mk ((S21.erase 1).erase 0)<|PL.take 0 54 (pv b1) (fun _ _=>kr)<|PL.takeOK 1 (fun w_ S_=>OK.ldBox S_ 1 55 4 0 (.bool (decide (x<0))) kr rfl kr) rfl<|PL.take 2 56 (.slice ra ol.length rc) (fun _ _=>kr)<|PL.callF 57 124 #[.slice ra ol.length rc] hb124 kr (trim_any ra ol.length rc ol _ (aD (S21.nth 0 rfl) _ (by first | rfl | (simp;omega))) (by first | exact(en (S21.nth 0 rfl)).2.2 | simp) oz) ?_
  rintro _ w21 ⟨rfl,T7⟩
  have S22:Sep w [am aM ra rc 3 1 ol,box b3 [.bool false,.slice none 0 0] 87,box b2 [.bool (decide (y<0)),.slice ly ny cy] 87,box b1 [.bool (decide (x<0)),.slice lx nx cx] 87] w21:=S21.trans T7
  clear T7 S21
  have S23:Sep w [am aM ra rc 3 1 ((ol).take (bY ol (ol).length)),box b3 [.bool false,.slice none 0 0] 87,box b2 [.bool (decide (y<0)),.slice ly ny cy] 87,box b1 [.bool (decide (x<0)),.slice lx nx cx] 87] w21:=S22.cut 0 rfl (fun _=>rfl) _ (dF _ _)
  refine PB.mk ((S23.erase 1).erase 0)<|PL.take 4 58 (.agg #[.bool (decide (x<0)),.slice ra (bY ol (ol).length) rc]) (fun _ _=>kr)<|PL.stBox S23 1 87 0 (.agg #[.bool (decide (x<0)),.slice ra (bY ol (ol).length) rc]) [.bool (decide (x<0)),.slice ra (bY ol (ol).length) rc] [am aM ra rc 3 1 ((ol).take (bY ol (ol).length)),box b3 [.bool (decide (x<0)),.slice ra (bY ol (ol).length) rc] 87,box b2 [.bool (decide (y<0)),.slice ly ny cy] 87,box b1 [.bool (decide (x<0)),.slice lx nx cx] 87] kr rfl kr kr rfl ?_
  intro w22 S24
  refine PB.mk ((S24.erase 1).erase 0)<|PL.done<|J.ez 0 [.agg #[.bool (decide (x<0)),.slice ra (bY ol (ol).length) rc]] func77 (bk (S24.nth 1 rfl) bn) (hR _ _ ?_)
  have hc0:c_=0:=by have:=hA.car;omega
  rw[hc0] at hA
  have hd:=add_end hA om om hs
  have hs2:x<0↔y<0:=by rw[hs]
  have e0:decide (x+y<0)=decide (x<0):=decide_eq_decide.2 om
  exact⟨_,_,by rw[e0,← hd,List.length_take,Nat.min_eq_left (dF _ _)];rfl,by unfold bgR;rw[← hd];exact S24.pick 0 rfl⟩
 exact J.t 16 (L77_1 _ ([]) none 0 0 0 w3 om (add_start _ _) om S4 rfl)

def K77a_0:=adv 43 [false,false] (bo Tryz.f77)
theorem radd_ge (x y:Int) (lx:Option Addr) (nx cx:Nat) (ly:Option Addr) (ny cy:Nat) (w:World) (hx:dk w lx nx (ak x)) (ox:ok7 x) (hy:dk w ly ny (ak y)) (oy:ok7 y) (hs:(x<0)≠(y<0)) (hg:y.natAbs≤x.natAbs):Ret prog 77 #[.agg #[.bool (decide (x<0)),.slice lx nx cx],.agg #[.bool (decide (y<0)),.slice ly ny cy]] w (fun v w'=>∃ a cap,v=.agg #[.bool (decide (x+y<0)),.slice a (ak (x+y)).length cap]∧Sep w [bgR (x+y) a cap] w'):=by
 refine Ret.st (N:=105) func77 fun R hR S0=>?_
 have ex:=hx.len_eq
 have dx:=digs_len ox
 have ey:=hy.len_eq
 have dy:=digs_len oy
 refine J.nw 2 [] [] [] S0 2 [.bool (decide (x<0)),.slice lx nx cx] 87 fun b1 w1 S1=>J.nw 0 [] [] [] S1 3 [.bool (decide (y<0)),.slice ly ny cy] 87 fun b2 w2 S2=>J.nw 0 [] [] [] S2 4 [.bool false,.slice none 0 0] 87 fun b3 w3 S3=>J.lb 5 [] [] [] S3 2 rfl 14 (.bool (decide (x<0)))<|J.lb 1 [] [] [] S3 1 rfl 16 (.bool (decide (y<0))) ?_
 have fk2:((decide (x<0))==(decide (y<0)))=false:=sg_diff' hs
 refine J.h 2 [] [] [] 17 (.bool ((decide (x<0))==(decide (y<0)))) (.bool false) (congrArg Value.bool fk2)<|J.lb 6 [false] [] [] S3 2 rfl 60 (.slice lx nx cx)<|J.lb 1 [] [] [] S3 1 rfl 62 (.slice ly ny cy)<|J.c0 0 [] [] [] S3 63 hb125 (rless_any lx nx cx (ak x) ly ny cy (ak y) _ (hx.sep S3) (hy.sep S3) oz) fun w4 S4=>?_
 have fk4:(lessF (ak x) (ak y))=false:=less_no hg
 refine J.h 1 [] [] [] 63 (.bool (lessF (ak x) (ak y))) (.bool false) (congrArg Value.bool fk4) ?_
 have S5:Sep w [am aM none 0 3 1 ([]),box b3 [.bool false,.slice none 0 0] 87,box b2 [.bool (decide (y<0)),.slice ly ny cy] 87,box b1 [.bool (decide (x<0)),.slice lx nx cx] 87] w4:=S4.nilRow 3 1
 have L77_1:∀ (mm_:Nat) (ol:List Int) (ra:Option Addr) (rc:Nat) (c_:Int) (i:Int) (w5:World),(0≤i∧i≤(nx:Int))→(subP (ak x) (ak y) (i).toNat ol c_)→Sep w [am aM ra rc 3 1 ol,box b3 [.bool false,.slice none 0 0] 87,box b2 [.bool (decide (y<0)),.slice ly ny cy] 87,box b1 [.bool (decide (x<0)),.slice lx nx cx] 87] w5→(16-i).toNat=mm_→J prog 77 105 R K77a_0 [(11,iv i),(10,iv c_),(9,.slice ra ol.length rc),(4,pv b3),(3,pv b2),(2,pv b1)] w5:=by
  intro mm1
  induction mm1 using Nat.strongRecOn with
  | _ mm1 ih1 =>
  intro ol ra rc c_ i w5 h0 hA S6 hm1
  have hca:=hA.car
  have hol:=hA.len
  have hdx:=digs_at x i.toNat
  have hdy:=digs_at y i.toNat
  refine J.lb 5 [] [(67,iv i)] [] S6 3 rfl 69 (.slice lx nx cx)<|J.c 3 [] [] [] 71 (i<(nx:Int)) (fun fk5=>?_) fun fk5=>?_
  refine J.r 5 [true] [] [] ?_
  obtain ⟨p1,hp1,hc1⟩:=hx.at 0 (i).toNat om
  refine J.drawPlan (fun w_=>Sep w [am aM ra rc 3 1 ol,box b3 [.bool false,.slice none 0 0] 87,box b2 [.bool (decide (y<0)),.slice ly ny cy] 87,box b1 [.bool (decide (x<0)),.slice lx nx cx] 87] w_) [(0,true),(1,true),(2,true),(3,true),(4,true),(5,true),(6,true),(7,true),(10,true),(8,false),(9,true),(11,true),(12,true)] S6 Tryz.mixed kr (aF (T:=[(0,some 74,4),(1,some 75,18889465931478580854784),(0,some 76,2048),(6,some 77,113336795588871485128704),(8,some 78,151115727451828646838272),(0,some 79,8),(32,some 80,604462909807314587353088),(0,some 81,2048),(192,some 82,3626777458843887524118528),(272,some 83,5137934733362173992501248),(0,some 84,1024),(1536,some 85,29014219670751100192948224),(4095,some 12,38685626227668133590597632)]) kr kr) ?_
  intro w6 S7
  refine PB.mk S7<|PL.take 0 74 (.pointer (some ⟨b1,1,none⟩)) (fun _ _=>kr)<|PL.takeOK 1 (fun w_ S_=>OK.ldBox S_ 3 75 26 1 (.slice lx nx cx) kr rfl kr) rfl<|PL.take 2 76 (iv i) (fun _ _=>kr)<|PL.takeOK 3 (fun w_ S_=>OK.index 77 26 1 lx p1 nx (i).toNat i (p1.add (i).toNat) kr kr hp1 om om nO) rfl<|PL.takeOK 4 (fun w_ S_=>OK.ldCell 78 3 (p1.add (i).toNat) (iv ((ak x).getD (i).toNat 0)) kr kr (S_.cell hc1)) rfl<|PL.take 5 79 (.pointer (some ⟨b2,1,none⟩)) (fun _ _=>kr)<|PL.takeOK 6 (fun w_ S_=>OK.ldBox S_ 2 80 26 1 (.slice ly ny cy) kr rfl kr) rfl<|PL.take 7 81 (iv i) (fun _ _=>kr)<|PL.take 10 84 (iv c_) (fun _ _=>kr)<|PL.callF 82 123 #[.slice ly ny cy,iv i] hb123 kr (eD ly ny cy (ak y) i _ (hy.sep S7) om oz) ?_
  rintro _ w7 ⟨rfl,T1⟩
  have S8:Sep w [am aM ra rc 3 1 ol,box b3 [.bool false,.slice none 0 0] 87,box b2 [.bool (decide (y<0)),.slice ly ny cy] 87,box b1 [.bool (decide (x<0)),.slice lx nx cx] 87] w7:=S7.trans T1
  clear T1 S7
  refine PB.mk S8<|PL.take 9 83 (iv (IntKind.wrap .i64 (((ak x).getD (i).toNat 0)-((ak y).getD (i).toNat 0)))) (fun _ _=>kr)<|PL.head (iv (((ak x).getD (i).toNat 0)-((ak y).getD (i).toNat 0))) (congrArg (Value.int .i64) (IntWalk.i64_in _ om))<|PL.take 11 85 (iv (IntKind.wrap .i64 ((((ak x).getD (i).toNat 0)-((ak y).getD (i).toNat 0))-c_))) (fun _ _=>kr)<|PL.head (iv ((((ak x).getD (i).toNat 0)-((ak y).getD (i).toNat 0))-c_)) (congrArg (Value.int .i64) (IntWalk.i64_in _ om))<|PL.take 12 12 (iv ((((ak x).getD (i).toNat 0)-((ak y).getD (i).toNat 0))-c_)) (fun _ _=>kr)<|PL.done<|J.c 10 [] [(10,iv 0)] [] 87 (((((ak x).getD (i).toNat 0)-((ak y).getD (i).toNat 0))-c_)<0) (fun fk6=>?_) fun fk6=>?_
  refine J.wi 5 [true] [] [] 89 (((((ak x).getD (i).toNat 0)-((ak y).getD (i).toNat 0))-c_)+16777216)<|J.r 8 [] [(91,iv (((((ak x).getD (i).toNat 0)-((ak y).getD (i).toNat 0))-c_)+16777216)),(90,.slice ra ol.length rc),(10,iv 1)] [12]<|J.newSlice S8 92 1 [iv (((((ak x).getD (i).toNat 0)-((ak y).getD (i).toNat 0))-c_)+16777216)] 3 kr ?_
  intro b4 w8 S9
  refine J.append aM S9 1 ol (((((ak x).getD (i).toNat 0)-((ak y).getD (i).toNat 0))-c_)+16777216) 93 26 (iv 0) 8 ⟨b4,0,none⟩ 1 rfl kr kr kr kr dE (bS (S9.nth 0 rfl)) kr kr (⟨om,om⟩) ?_
  intro ra1 rc1 w9 S10
  replace S10:Sep w [box b4 [iv (((((ak x).getD (i).toNat 0)-((ak y).getD (i).toNat 0))-c_)+16777216)] 3,am aM ra1 rc1 3 1 (ol++[((((ak x).getD (i).toNat 0)-((ak y).getD (i).toNat 0))-c_)+16777216]),box b3 [.bool false,.slice none 0 0] 87,box b2 [.bool (decide (y<0)),.slice ly ny cy] 87,box b1 [.bool (decide (x<0)),.slice lx nx cx] 87] w9:=S10
  exact J.wi 6 [] [(9,.slice ra1 ((ol++[((((ak x).getD (i).toNat 0)-((ak y).getD (i).toNat 0))-c_)+16777216]).length) rc1)] [] 73 (i+1)<|J.t 3 (ih1 _ (show(16-(i+1)).toNat<mm1 from by omega) (ol++[((((ak x).getD (i).toNat 0)-((ak y).getD (i).toNat 0))-c_)+16777216]) ra1 rc1 1 (i+1) w9 om (by rw[show(i+1).toNat=i.toNat+1 by omega];exact sub_round hA (show((((ak x).getD (i).toNat 0)-((ak y).getD (i).toNat 0))-c_)+16777216=(ak x).getD i.toNat 0-(ak y).getD i.toNat 0-c_+1*16777216 by omega) om om) (S10.erase 0) rfl)
  refine J.r 5 [false] [(91,iv ((((ak x).getD (i).toNat 0)-((ak y).getD (i).toNat 0))-c_)),(90,.slice ra ol.length rc)] []<|J.newSlice S8 92 1 [iv ((((ak x).getD (i).toNat 0)-((ak y).getD (i).toNat 0))-c_)] 3 kr ?_
  intro b5 w10 S11
  refine J.append aM S11 1 ol ((((ak x).getD (i).toNat 0)-((ak y).getD (i).toNat 0))-c_) 93 26 (iv 0) 8 ⟨b5,0,none⟩ 1 rfl kr kr kr kr dE (bS (S11.nth 0 rfl)) kr kr (⟨om,om⟩) ?_
  intro ra2 rc2 w11 S12
  replace S12:Sep w [box b5 [iv ((((ak x).getD (i).toNat 0)-((ak y).getD (i).toNat 0))-c_)] 3,am aM ra2 rc2 3 1 (ol++[(((ak x).getD (i).toNat 0)-((ak y).getD (i).toNat 0))-c_]),box b3 [.bool false,.slice none 0 0] 87,box b2 [.bool (decide (y<0)),.slice ly ny cy] 87,box b1 [.bool (decide (x<0)),.slice lx nx cx] 87] w11:=S12
  exact J.wi 6 [] [(9,.slice ra2 ((ol++[(((ak x).getD (i).toNat 0)-((ak y).getD (i).toNat 0))-c_]).length) rc2)] [] 73 (i+1)<|J.t 3 (ih1 _ (show(16-(i+1)).toNat<mm1 from by omega) (ol++[(((ak x).getD (i).toNat 0)-((ak y).getD (i).toNat 0))-c_]) ra2 rc2 0 (i+1) w11 om (by rw[show(i+1).toNat=i.toNat+1 by omega];exact sub_round hA (show(((ak x).getD (i).toNat 0)-((ak y).getD (i).toNat 0))-c_=(ak x).getD i.toNat 0-(ak y).getD i.toNat 0-c_+0*16777216 by omega) om om) (S12.erase 0) rfl)
  refine J.r 5 [false] [(94,.slice ra ol.length rc)] []<|J.c0 0 [] [] [] S6 95 hb124 (trim_any ra ol.length rc ol _ (aD (S6.nth 0 rfl) _ (by first | rfl | (simp;omega))) (by first | exact(en (S6.nth 0 rfl)).2.2 | simp) oz) fun w12 S13=>?_
  have S14:Sep w [am aM ra rc 3 1 ((ol).take (bY ol (ol).length)),box b3 [.bool false,.slice none 0 0] 87,box b2 [.bool (decide (y<0)),.slice ly ny cy] 87,box b1 [.bool (decide (x<0)),.slice lx nx cx] 87] w12:=S13.cut 0 rfl (fun _=>rfl) _ (dF _ _)
  refine J.lb 5 [] [(9,.slice ra (bY ol (ol).length) rc)] [] S14 3 rfl 97 (.bool (decide (x<0)))<|J.b 1 [] [] [] 98 (decide (x<0)) (fun fk7=>?_) fun fk7=>?_
  have fb1:=of_decide_eq_true fk7
  refine J.sb 6 [] [] [] S14 1 rfl [.bool (decide (((bY ol (ol).length):Int)>0)),.slice ra (bY ol (ol).length) rc] rfl fun w13 S15=>J.ez 1 [.agg #[.bool (decide (((bY ol (ol).length):Int)>0)),.slice ra (bY ol (ol).length) rc]] func77 (bk (S15.nth 1 rfl) bn) (hR _ _ ?_)
  have hd:=sub_end hA om hg hs
  have hl:=congrArg List.length hd
  rw[List.length_take,Nat.min_eq_left (dF _ _)] at hl
  have hz:=digs_nil (x:=x+y)
  have hs2:¬ (x<0↔y<0):=fun e_=>hs (propext e_)
  have e0:decide (x+y<0)=(decide (((bY ol (ol).length):Int)>0)):=decide_eq_decide.2 om
  exact⟨_,_,by rw[e0,← hd,List.length_take,Nat.min_eq_left (dF _ _)];rfl,by unfold bgR;rw[← hd];exact S15.pick 0 rfl⟩
  have fb2:=of_decide_eq_false fk7
  refine J.sb 6 [] [] [] S14 1 rfl [.bool false,.slice ra (bY ol (ol).length) rc] rfl fun w14 S16=>J.ez 1 [.agg #[.bool false,.slice ra (bY ol (ol).length) rc]] func77 (bk (S16.nth 1 rfl) bn) (hR _ _ ?_)
  have hd:=sub_end hA om hg hs
  have hl:=congrArg List.length hd
  rw[List.length_take,Nat.min_eq_left (dF _ _)] at hl
  have hz:=digs_nil (x:=x+y)
  have hs2:¬ (x<0↔y<0):=fun e_=>hs (propext e_)
  have e0:decide (x+y<0)=false:=decide_eq_false om
  exact⟨_,_,by rw[e0,← hd,List.length_take,Nat.min_eq_left (dF _ _)];rfl,by unfold bgR;rw[← hd];exact S16.pick 0 rfl⟩
 exact J.t 17 (L77_1 _ ([]) none 0 0 0 w4 om (sub_start _ _) S5 rfl)

theorem radd_lt (x y:Int) (lx:Option Addr) (nx cx:Nat) (ly:Option Addr) (ny cy:Nat) (w:World) (hx:dk w lx nx (ak x)) (ox:ok7 x) (hy:dk w ly ny (ak y)) (oy:ok7 y) (hs:(x<0)≠(y<0)) (hg:x.natAbs<y.natAbs):Ret prog 77 #[.agg #[.bool (decide (x<0)),.slice lx nx cx],.agg #[.bool (decide (y<0)),.slice ly ny cy]] w (fun v w'=>∃ a cap,v=.agg #[.bool (decide (x+y<0)),.slice a (ak (x+y)).length cap]∧Sep w [bgR (x+y) a cap] w'):=by
 refine Ret.st (N:=105) func77 fun R hR S0=>?_
 have ex:=hx.len_eq
 have dx:=digs_len ox
 have ey:=hy.len_eq
 have dy:=digs_len oy
 refine J.nw 2 [] [] [] S0 2 [.bool (decide (x<0)),.slice lx nx cx] 87 fun b1 w1 S1=>J.nw 0 [] [] [] S1 3 [.bool (decide (y<0)),.slice ly ny cy] 87 fun b2 w2 S2=>J.nw 0 [] [] [] S2 4 [.bool false,.slice none 0 0] 87 fun b3 w3 S3=>J.lb 5 [] [] [] S3 2 rfl 14 (.bool (decide (x<0)))<|J.lb 1 [] [] [] S3 1 rfl 16 (.bool (decide (y<0))) ?_
 have fk2:((decide (x<0))==(decide (y<0)))=false:=sg_diff' hs
 refine J.h 2 [] [] [] 17 (.bool ((decide (x<0))==(decide (y<0)))) (.bool false) (congrArg Value.bool fk2)<|J.lb 6 [false] [] [] S3 2 rfl 60 (.slice lx nx cx)<|J.lb 1 [] [] [] S3 1 rfl 62 (.slice ly ny cy)<|J.c0 0 [] [] [] S3 63 hb125 (rless_any lx nx cx (ak x) ly ny cy (ak y) _ (hx.sep S3) (hy.sep S3) oz) fun w4 S4=>?_
 have fk4:(lessF (ak x) (ak y))=true:=less_yes hg
 refine J.h 1 [] [] [] 63 (.bool (lessF (ak x) (ak y))) (.bool true) (congrArg Value.bool fk4)<|J.lb 3 [true] [] [] S4 1 rfl 64 (.agg #[.bool (decide (y<0)),.slice ly ny cy])<|J.lb 0 [] [] [] S4 2 rfl 65 (.agg #[.bool (decide (x<0)),.slice lx nx cx])<|J.cf 0 [] [] [] 66 hb77 (radd_ge y x ly ny cy lx nx cx _ (hy.sep S4) oy (hx.sep S4) ox (Ne.symm hs) (Nat.le_of_lt hg)) ?_
 rintro _ w5 ⟨ra1,rc1,rfl,T1⟩
 have S5:Sep w [bgR (y+x) ra1 rc1,box b3 [.bool false,.slice none 0 0] 87,box b2 [.bool (decide (y<0)),.slice ly ny cy] 87,box b1 [.bool (decide (x<0)),.slice lx nx cx] 87] w5:=S4.trans T1
 refine J.sb 0 [] [] [] S5 1 rfl (bgC (y+x) ra1 rc1) rfl fun w6 S6=>J.ez 1 [bgV (y+x) ra1 rc1] func77 (bk (S6.nth 1 rfl) bn) (hR _ _ ?_)
 exact⟨_,_,by rw[Int.add_comm x y];rfl,by rw[Int.add_comm x y];exact S6.pick 0 rfl⟩

theorem radd_any (x y:Int) (lx:Option Addr) (nx cx:Nat) (ly:Option Addr) (ny cy:Nat) (w:World) (hx:dk w lx nx (ak x)) (ox:ok7 x) (hy:dk w ly ny (ak y)) (oy:ok7 y):Ret prog 77 #[.agg #[.bool (decide (x<0)),.slice lx nx cx],.agg #[.bool (decide (y<0)),.slice ly ny cy]] w (fun v w'=>∃ a cap,v=.agg #[.bool (decide (x+y<0)),.slice a (ak (x+y)).length cap]∧Sep w [bgR (x+y) a cap] w'):=by
  rcases sg_or x y with hs | hs
  · exact radd_same x y lx nx cx ly ny cy w hx ox hy oy hs
  · rcases Nat.lt_or_ge x.natAbs y.natAbs with hg | hg
    · exact radd_lt x y lx nx cx ly ny cy w hx ox hy oy hs hg
    · exact radd_ge x y lx nx cx ly ny cy w hx ox hy oy hs hg
theorem hb78:af prog 78:=fun _ _=>by kernel_rfl
def K78_0:=adv 26 [] (bo Tryz.f78)
def K78_1:=adv 23 [true] K78_0
theorem bT (x y:Int) (lx:Option Addr) (nx cx:Nat) (ly:Option Addr) (ny cy:Nat) (w:World) (hx:dk w lx nx (ak x)) (ox:ok7 x) (hy:dk w ly ny (ak y)) (oy:ok7 y):Ret prog 78 #[.agg #[.bool (decide (x<0)),.slice lx nx cx],.agg #[.bool (decide (y<0)),.slice ly ny cy]] w (fun v w'=>∃ a cap,v=.agg #[.bool (decide (x*y<0)),.slice a (ak (x*y)).length cap]∧Sep w [bgR (x*y) a cap] w'):=by
 refine Ret.st (N:=79) func78 fun R hR S0=>?_
 have ex:=hx.len_eq
 have dx:=digs_len ox
 have ey:=hy.len_eq
 have dy:=digs_len oy
 refine J.nw 2 [] [] [] S0 2 [.bool (decide (x<0)),.slice lx nx cx] 87 fun b1 w1 S1=>J.nw 0 [] [] [] S1 3 [.bool (decide (y<0)),.slice ly ny cy] 87 fun b2 w2 S2=>J.nw 0 [] [] [] S2 4 [.bool false,.slice none 0 0] 87 fun b3 w3 S3=>J.lb 4 [] [] [] S3 2 rfl 11 (.slice lx nx cx)<|J.lb 2 [] [(12,iv (nx:Int))] [] S3 1 rfl 14 (.slice ly ny cy)<|J.wi 2 [] [] [] 16 ((nx:Int)+(ny:Int))<|J.wi 1 [] [] [] 17 (((nx:Int)+(ny:Int))+1)<|J.make aM (0:Int) S3 18 26 3 1 (((nx:Int)+(ny:Int))+1) (((nx:Int)+(ny:Int))+1) ((((nx:Int)+(ny:Int))+1).toNat) (iv 0) 8 kr om om kr kr kr rF om ?_
 intro b4 w4 S4
 have L78_1:∀ (mm_:Nat) (ol:List Int) (i:Int) (w5:World),(0≤i∧i≤(nx:Int))→(mulP (ak x) (ak y) (i).toNat 0 ol 0)→Sep w [am aM (some ⟨b4,0,none⟩) ((((nx:Int)+(ny:Int))+1).toNat) 3 1 ol,box b3 [.bool false,.slice none 0 0] 87,box b2 [.bool (decide (y<0)),.slice ly ny cy] 87,box b1 [.bool (decide (x<0)),.slice lx nx cx] 87] w5→(16-i).toNat=mm_→J prog 78 79 R K78_0 [(6,iv i),(5,.slice (some ⟨b4,0,none⟩) ((List.replicate ((((nx:Int)+(ny:Int))+1).toNat) (0:Int)).length) ((((nx:Int)+(ny:Int))+1).toNat)),(4,pv b3),(3,pv b2),(2,pv b1)] w5:=by
  intro mm1
  induction mm1 using Nat.strongRecOn with
  | _ mm1 ih1 =>
  intro ol i w5 h0 hM S5 hm1
  have hol:=hM.len
  refine J.lb 5 [] [(19,iv i)] [] S5 3 rfl 21 (.slice lx nx cx)<|J.c 3 [] [] [] 23 (i<(nx:Int)) (fun fk1=>?_) fun fk1=>?_
  have L78_2:∀ (mm_:Nat) (pl:List Int) (c_:Int) (k:Int) (w6:World),(0≤k∧k≤8)→(mulP (ak x) (ak y) i.toNat (k).toNat pl c_)→Sep w [am aM (some ⟨b4,0,none⟩) ((((nx:Int)+(ny:Int))+1).toNat) 3 1 pl,box b3 [.bool false,.slice none 0 0] 87,box b2 [.bool (decide (y<0)),.slice ly ny cy] 87,box b1 [.bool (decide (x<0)),.slice lx nx cx] 87] w6→(16-k).toNat=mm_→J prog 78 79 R K78_1 [(8,iv k),(7,iv c_),(6,iv i),(5,.slice (some ⟨b4,0,none⟩) ((List.replicate ((((nx:Int)+(ny:Int))+1).toNat) (0:Int)).length) ((((nx:Int)+(ny:Int))+1).toNat)),(4,pv b3),(3,pv b2),(2,pv b1)] w6:=by
   intro mm2
   induction mm2 using Nat.strongRecOn with
   | _ mm2 ih2 =>
   intro pl c_ k w6 k0 hP S6 hm2
   have hpl:=hP.len
   have hfi:=hP.fin
   have hca:=hP.car
   have hik:i.toNat+k.toNat=(i+k).toNat:=by omega
   have hb:=mulP_bd hP (dV x) (dV y)
   rw[hik] at hb
   refine J.lb 5 [] [(26,iv k)] [] S6 2 rfl 28 (.slice ly ny cy)<|J.c 3 [] [] [] 31 (k<(ny:Int)) (fun fk2=>?_) fun fk2=>?_
   refine J.r 9 [true] [] [] ?_
   obtain ⟨p1,hp1⟩:=ck (S6.nth 0 rfl) (show 0<(pl).length by first | omega | (simp;omega))
   obtain ⟨p2,hp2,hc1⟩:=hx.at 0 (i).toNat om
   refine J.drawPlan (fun w_=>Sep w [am aM (some ⟨b4,0,none⟩) ((((nx:Int)+(ny:Int))+1).toNat) 3 1 pl,box b3 [.bool false,.slice none 0 0] 87,box b2 [.bool (decide (y<0)),.slice ly ny cy] 87,box b1 [.bool (decide (x<0)),.slice lx nx cx] 87] w_) [(0,true),(1,true),(2,true),(3,true),(4,true),(5,true),(6,true),(7,true),(8,true),(9,true),(10,true),(11,true),(12,true),(13,true),(17,true),(14,false),(15,true),(16,true),(18,true),(19,true)] S6 Tryz.mixed kr (aF (T:=[(0,some 37,32),(0,some 38,64),(0,some 39,256),(6,some 40,824633720832),(9,some 41,1236950581248),(16,some 42,2199023255552),(0,some 43,4),(64,some 44,8796093022208),(0,some 45,64),(384,some 46,52776558133248),(512,some 47,70368744177664),(0,some 48,8),(2048,some 49,281474976710656),(0,some 50,256),(12288,some 51,1688849860263936),(17408,some 52,2392537302040576),(32800,some 53,4507997673881600),(0,some 54,128),(196608,some 55,27021597764222976),(524287,some 9,36028797018963968)]) kr kr) ?_
   intro w7 S7
   refine PB.mk S7<|PL.take 0 37 (.slice (some ⟨b4,0,none⟩) ((List.replicate ((((nx:Int)+(ny:Int))+1).toNat) (0:Int)).length) ((((nx:Int)+(ny:Int))+1).toNat)) (fun _ _=>kr)<|PL.take 1 38 (iv i) (fun _ _=>kr)<|PL.take 2 39 (iv k) (fun _ _=>kr)<|PL.take 3 40 (iv (IntKind.wrap .i64 (i+k))) (fun _ _=>kr)<|PL.head (iv (i+k)) (congrArg (Value.int .i64) (IntWalk.i64_in _ om))<|PL.takeOK 4 (fun w_ S_=>OK.index 41 26 1 (some ⟨b4,0,none⟩) p1 ((List.replicate ((((nx:Int)+(ny:Int))+1).toNat) (0:Int)).length) (i+k).toNat (i+k) (p1.add (i+k).toNat) kr kr hp1 om oz nO) rfl<|PL.takeOK 5 (fun w_ S_=>OK.ldCell 42 3 (p1.add (i+k).toNat) (iv (pl.getD (i+k).toNat 0)) kr kr (cQ (g:=(Value.int .i64)) S_ 0 rfl hp1 0 (i+k).toNat oz)) rfl<|PL.take 6 43 (.pointer (some ⟨b1,1,none⟩)) (fun _ _=>kr)<|PL.takeOK 7 (fun w_ S_=>OK.ldBox S_ 3 44 26 1 (.slice lx nx cx) kr rfl kr) rfl<|PL.take 8 45 (iv i) (fun _ _=>kr) ?_
   refine PL.takeOK 9 (fun w_ S_=>OK.index 46 26 1 lx p2 nx (i).toNat i (p2.add (i).toNat) kr kr hp2 om om nO) rfl<|PL.takeOK 10 (fun w_ S_=>OK.ldCell 47 3 (p2.add (i).toNat) (iv ((ak x).getD (i).toNat 0)) kr kr (S_.cell hc1)) rfl<|PL.take 11 48 (.pointer (some ⟨b2,1,none⟩)) (fun _ _=>kr)<|PL.takeOK 12 (fun w_ S_=>OK.ldBox S_ 2 49 26 1 (.slice ly ny cy) kr rfl kr) rfl<|PL.take 13 50 (iv k) (fun _ _=>kr)<|PL.take 17 54 (iv c_) (fun _ _=>kr)<|PL.callF 51 123 #[.slice ly ny cy,iv k] hb123 kr (eD ly ny cy (ak y) k _ (hy.sep S7) om oz) ?_
   rintro _ w8 ⟨rfl,T1⟩
   have S8:Sep w [am aM (some ⟨b4,0,none⟩) ((((nx:Int)+(ny:Int))+1).toNat) 3 1 pl,box b3 [.bool false,.slice none 0 0] 87,box b2 [.bool (decide (y<0)),.slice ly ny cy] 87,box b1 [.bool (decide (x<0)),.slice lx nx cx] 87] w8:=S7.trans T1
   clear T1 S7
   refine PB.mk S8<|PL.take 15 52 (iv (IntKind.wrap .i64 (((ak x).getD (i).toNat 0)*((ak y).getD (k).toNat 0)))) (fun _ _=>kr)<|PL.head (iv (((ak x).getD (i).toNat 0)*((ak y).getD (k).toNat 0))) (congrArg (Value.int .i64) (IntWalk.i64_in _ om))<|PL.take 16 53 (iv (IntKind.wrap .i64 ((pl.getD (i+k).toNat 0)+(((ak x).getD (i).toNat 0)*((ak y).getD (k).toNat 0))))) (fun _ _=>kr)<|PL.head (iv ((pl.getD (i+k).toNat 0)+(((ak x).getD (i).toNat 0)*((ak y).getD (k).toNat 0)))) (congrArg (Value.int .i64) (IntWalk.i64_in _ om))<|PL.take 18 55 (iv (IntKind.wrap .i64 (((pl.getD (i+k).toNat 0)+(((ak x).getD (i).toNat 0)*((ak y).getD (k).toNat 0)))+c_))) (fun _ _=>kr)<|PL.head (iv (((pl.getD (i+k).toNat 0)+(((ak x).getD (i).toNat 0)*((ak y).getD (k).toNat 0)))+c_)) (congrArg (Value.int .i64) (IntWalk.i64_in _ om))<|PL.take 19 9 (iv (((pl.getD (i+k).toNat 0)+(((ak x).getD (i).toNat 0)*((ak y).getD (k).toNat 0)))+c_)) (fun _ _=>kr)<|PL.done<|J.wi 6 [] [(56,.slice (some ⟨b4,0,none⟩) ((List.replicate ((((nx:Int)+(ny:Int))+1).toNat) (0:Int)).length) ((((nx:Int)+(ny:Int))+1).toNat))] [] 59 (i+k)<|J.h 2 [] [] [] 61 (iv (Int.tmod (((pl.getD (i+k).toNat 0)+(((ak x).getD (i).toNat 0)*((ak y).getD (k).toNat 0)))+c_) 16777216)) (iv ((((pl.getD (i+k).toNat 0)+(((ak x).getD (i).toNat 0)*((ak y).getD (k).toNat 0)))+c_)%16777216)) (congrArg (Value.int .i64) (IntWalk.rem_in _ _ om)) ?_
   refine J.ok (OK.index 62 26 1 (some ⟨b4,0,none⟩) p1 ((List.replicate ((((nx:Int)+(ny:Int))+1).toNat) (0:Int)).length) (i+k).toNat (i+k) (p1.add (i+k).toNat) kr kr hp1 om oz nO)<|J.stRow1 (Value.int .i64) (eU _) S8 0 pl 3 p1 (i+k).toNat ((((pl.getD (i+k).toNat 0)+(((ak x).getD (i).toNat 0)*((ak y).getD (k).toNat 0)))+c_)%16777216) rfl kr hp1 oz kr ?_
   intro w9 S9
   replace S9:Sep w [am aM (some ⟨b4,0,none⟩) ((((nx:Int)+(ny:Int))+1).toNat) 3 1 (pl.set (i+k).toNat ((((pl.getD (i+k).toNat 0)+(((ak x).getD (i).toNat 0)*((ak y).getD (k).toNat 0)))+c_)%16777216)),box b3 [.bool false,.slice none 0 0] 87,box b2 [.bool (decide (y<0)),.slice ly ny cy] 87,box b1 [.bool (decide (x<0)),.slice lx nx cx] 87] w9:=S9
   exact J.h 4 [] [] [] 64 (iv (IntKind.wrap .i64 (Int.tdiv (((pl.getD (i+k).toNat 0)+(((ak x).getD (i).toNat 0)*((ak y).getD (k).toNat 0)))+c_) 16777216))) (iv ((((pl.getD (i+k).toNat 0)+(((ak x).getD (i).toNat 0)*((ak y).getD (k).toNat 0)))+c_)/16777216)) (congrArg (Value.int .i64) (IntWalk.i64_quo _ _ om))<|J.wi 6 [] [(7,iv ((((pl.getD (i+k).toNat 0)+(((ak x).getD (i).toNat 0)*((ak y).getD (k).toNat 0)))+c_)/16777216))] [] 36 (k+1)<|J.t 3 (ih2 _ (show(16-(k+1)).toNat<mm2 from by omega) (pl.set (i+k).toNat ((((pl.getD (i+k).toNat 0)+(((ak x).getD (i).toNat 0)*((ak y).getD (k).toNat 0)))+c_)%16777216)) ((((pl.getD (i+k).toNat 0)+(((ak x).getD (i).toNat 0)*((ak y).getD (k).toNat 0)))+c_)/16777216) (k+1) w9 om (by have h_:=mul_round hP (dV x) (dV y) (s:=(((pl.getD (i+k).toNat 0)+(((ak x).getD (i).toNat 0)*((ak y).getD (k).toNat 0)))+c_)) om om (by rw[hik]);rw[hik] at h_;rw[show(k+1).toNat=k.toNat+1 by omega];exact h_) S9 rfl)
   refine J.c 4 [] [] [] 34 (c_>0) (fun fk3=>?_) fun fk3=>?_
   refine J.r 5 [true] [] [] ?_
   obtain ⟨p3,hp3⟩:=ck (S6.nth 0 rfl) (show 0<(pl).length by first | omega | (simp;omega))
   obtain ⟨p4,hp4,hc2⟩:=hx.at 0 (i).toNat om
   refine J.drawPlan (fun w_=>Sep w [am aM (some ⟨b4,0,none⟩) ((((nx:Int)+(ny:Int))+1).toNat) 3 1 pl,box b3 [.bool false,.slice none 0 0] 87,box b2 [.bool (decide (y<0)),.slice ly ny cy] 87,box b1 [.bool (decide (x<0)),.slice lx nx cx] 87] w_) [(0,true),(1,true),(2,true),(3,true),(4,true),(5,true),(6,true),(7,true),(8,true),(9,true),(10,true),(11,true),(12,true),(13,true),(17,true),(14,false),(15,true),(16,true),(18,true),(19,true)] S6 Tryz.mixed kr (aF (T:=[(0,some 37,32),(0,some 38,64),(0,some 39,256),(6,some 40,824633720832),(9,some 41,1236950581248),(16,some 42,2199023255552),(0,some 43,4),(64,some 44,8796093022208),(0,some 45,64),(384,some 46,52776558133248),(512,some 47,70368744177664),(0,some 48,8),(2048,some 49,281474976710656),(0,some 50,256),(12288,some 51,1688849860263936),(17408,some 52,2392537302040576),(32800,some 53,4507997673881600),(0,some 54,128),(196608,some 55,27021597764222976),(524287,some 9,36028797018963968)]) kr kr) ?_
   intro w10 S10
   refine PB.mk S10<|PL.take 0 37 (.slice (some ⟨b4,0,none⟩) ((List.replicate ((((nx:Int)+(ny:Int))+1).toNat) (0:Int)).length) ((((nx:Int)+(ny:Int))+1).toNat)) (fun _ _=>kr)<|PL.take 1 38 (iv i) (fun _ _=>kr)<|PL.take 2 39 (iv k) (fun _ _=>kr)<|PL.take 3 40 (iv (IntKind.wrap .i64 (i+k))) (fun _ _=>kr)<|PL.head (iv (i+k)) (congrArg (Value.int .i64) (IntWalk.i64_in _ om))<|PL.takeOK 4 (fun w_ S_=>OK.index 41 26 1 (some ⟨b4,0,none⟩) p3 ((List.replicate ((((nx:Int)+(ny:Int))+1).toNat) (0:Int)).length) (i+k).toNat (i+k) (p3.add (i+k).toNat) kr kr hp3 om oz nO) rfl<|PL.takeOK 5 (fun w_ S_=>OK.ldCell 42 3 (p3.add (i+k).toNat) (iv (pl.getD (i+k).toNat 0)) kr kr (cQ (g:=(Value.int .i64)) S_ 0 rfl hp3 0 (i+k).toNat oz)) rfl<|PL.take 6 43 (.pointer (some ⟨b1,1,none⟩)) (fun _ _=>kr)<|PL.takeOK 7 (fun w_ S_=>OK.ldBox S_ 3 44 26 1 (.slice lx nx cx) kr rfl kr) rfl<|PL.take 8 45 (iv i) (fun _ _=>kr) ?_
   refine PL.takeOK 9 (fun w_ S_=>OK.index 46 26 1 lx p4 nx (i).toNat i (p4.add (i).toNat) kr kr hp4 om om nO) rfl<|PL.takeOK 10 (fun w_ S_=>OK.ldCell 47 3 (p4.add (i).toNat) (iv ((ak x).getD (i).toNat 0)) kr kr (S_.cell hc2)) rfl<|PL.take 11 48 (.pointer (some ⟨b2,1,none⟩)) (fun _ _=>kr)<|PL.takeOK 12 (fun w_ S_=>OK.ldBox S_ 2 49 26 1 (.slice ly ny cy) kr rfl kr) rfl<|PL.take 13 50 (iv k) (fun _ _=>kr)<|PL.take 17 54 (iv c_) (fun _ _=>kr)<|PL.callF 51 123 #[.slice ly ny cy,iv k] hb123 kr (eD ly ny cy (ak y) k _ (hy.sep S10) om oz) ?_
   rintro _ w11 ⟨rfl,T2⟩
   have S11:Sep w [am aM (some ⟨b4,0,none⟩) ((((nx:Int)+(ny:Int))+1).toNat) 3 1 pl,box b3 [.bool false,.slice none 0 0] 87,box b2 [.bool (decide (y<0)),.slice ly ny cy] 87,box b1 [.bool (decide (x<0)),.slice lx nx cx] 87] w11:=S10.trans T2
   clear T2 S10
   refine PB.mk S11<|PL.take 15 52 (iv (IntKind.wrap .i64 (((ak x).getD (i).toNat 0)*((ak y).getD (k).toNat 0)))) (fun _ _=>kr)<|PL.head (iv (((ak x).getD (i).toNat 0)*((ak y).getD (k).toNat 0))) (congrArg (Value.int .i64) (IntWalk.i64_in _ om))<|PL.take 16 53 (iv (IntKind.wrap .i64 ((pl.getD (i+k).toNat 0)+(((ak x).getD (i).toNat 0)*((ak y).getD (k).toNat 0))))) (fun _ _=>kr)<|PL.head (iv ((pl.getD (i+k).toNat 0)+(((ak x).getD (i).toNat 0)*((ak y).getD (k).toNat 0)))) (congrArg (Value.int .i64) (IntWalk.i64_in _ om))<|PL.take 18 55 (iv (IntKind.wrap .i64 (((pl.getD (i+k).toNat 0)+(((ak x).getD (i).toNat 0)*((ak y).getD (k).toNat 0)))+c_))) (fun _ _=>kr)<|PL.head (iv (((pl.getD (i+k).toNat 0)+(((ak x).getD (i).toNat 0)*((ak y).getD (k).toNat 0)))+c_)) (congrArg (Value.int .i64) (IntWalk.i64_in _ om))<|PL.take 19 9 (iv (((pl.getD (i+k).toNat 0)+(((ak x).getD (i).toNat 0)*((ak y).getD (k).toNat 0)))+c_)) (fun _ _=>kr)<|PL.done<|J.wi 6 [] [(56,.slice (some ⟨b4,0,none⟩) ((List.replicate ((((nx:Int)+(ny:Int))+1).toNat) (0:Int)).length) ((((nx:Int)+(ny:Int))+1).toNat))] [] 59 (i+k)<|J.h 2 [] [] [] 61 (iv (Int.tmod (((pl.getD (i+k).toNat 0)+(((ak x).getD (i).toNat 0)*((ak y).getD (k).toNat 0)))+c_) 16777216)) (iv ((((pl.getD (i+k).toNat 0)+(((ak x).getD (i).toNat 0)*((ak y).getD (k).toNat 0)))+c_)%16777216)) (congrArg (Value.int .i64) (IntWalk.rem_in _ _ om)) ?_
   refine J.ok (OK.index 62 26 1 (some ⟨b4,0,none⟩) p3 ((List.replicate ((((nx:Int)+(ny:Int))+1).toNat) (0:Int)).length) (i+k).toNat (i+k) (p3.add (i+k).toNat) kr kr hp3 om oz nO)<|J.stRow1 (Value.int .i64) (eU _) S11 0 pl 3 p3 (i+k).toNat ((((pl.getD (i+k).toNat 0)+(((ak x).getD (i).toNat 0)*((ak y).getD (k).toNat 0)))+c_)%16777216) rfl kr hp3 oz kr ?_
   intro w12 S12
   replace S12:Sep w [am aM (some ⟨b4,0,none⟩) ((((nx:Int)+(ny:Int))+1).toNat) 3 1 (pl.set (i+k).toNat ((((pl.getD (i+k).toNat 0)+(((ak x).getD (i).toNat 0)*((ak y).getD (k).toNat 0)))+c_)%16777216)),box b3 [.bool false,.slice none 0 0] 87,box b2 [.bool (decide (y<0)),.slice ly ny cy] 87,box b1 [.bool (decide (x<0)),.slice lx nx cx] 87] w12:=S12
   exact J.h 4 [] [] [] 64 (iv (IntKind.wrap .i64 (Int.tdiv (((pl.getD (i+k).toNat 0)+(((ak x).getD (i).toNat 0)*((ak y).getD (k).toNat 0)))+c_) 16777216))) (iv ((((pl.getD (i+k).toNat 0)+(((ak x).getD (i).toNat 0)*((ak y).getD (k).toNat 0)))+c_)/16777216)) (congrArg (Value.int .i64) (IntWalk.i64_quo _ _ om))<|J.wi 6 [] [(7,iv ((((pl.getD (i+k).toNat 0)+(((ak x).getD (i).toNat 0)*((ak y).getD (k).toNat 0)))+c_)/16777216))] [] 36 (k+1)<|J.t 3 (ih2 _ (show(16-(k+1)).toNat<mm2 from by omega) (pl.set (i+k).toNat ((((pl.getD (i+k).toNat 0)+(((ak x).getD (i).toNat 0)*((ak y).getD (k).toNat 0)))+c_)%16777216)) ((((pl.getD (i+k).toNat 0)+(((ak x).getD (i).toNat 0)*((ak y).getD (k).toNat 0)))+c_)/16777216) (k+1) w12 om (by have h_:=mul_round hP (dV x) (dV y) (s:=(((pl.getD (i+k).toNat 0)+(((ak x).getD (i).toNat 0)*((ak y).getD (k).toNat 0)))+c_)) om om (by rw[hik]);rw[hik] at h_;rw[show(k+1).toNat=k.toNat+1 by omega];exact h_) S12 rfl)
   exact J.wi 6 [false] [] [] 25 (i+1)<|J.t 3 (ih1 _ (show(16-(i+1)).toNat<mm1 from by omega) pl (i+1) w6 om (by rw[show(i+1).toNat=i.toNat+1 by omega];exact mul_next hP om) S6 rfl)
  exact J.t 14 (L78_2 _ ol 0 0 w5 om (hM) S5 rfl)
  refine J.r 5 [false] [(65,.slice (some ⟨b4,0,none⟩) ((List.replicate ((((nx:Int)+(ny:Int))+1).toNat) (0:Int)).length) ((((nx:Int)+(ny:Int))+1).toNat))] []<|J.c0 0 [] [] [] S5 66 hb124 (trim_any (some ⟨b4,0,none⟩) ((List.replicate ((((nx:Int)+(ny:Int))+1).toNat) (0:Int)).length) ((((nx:Int)+(ny:Int))+1).toNat) ol _ (aD (S5.nth 0 rfl) _ (by first | rfl | (simp;omega))) (by first | exact(en (S5.nth 0 rfl)).2.2 | simp) oz) fun w13 S13=>?_
  have S14:Sep w [am aM (some ⟨b4,0,none⟩) ((((nx:Int)+(ny:Int))+1).toNat) 3 1 ((ol).take (bY ol (ol).length)),box b3 [.bool false,.slice none 0 0] 87,box b2 [.bool (decide (y<0)),.slice ly ny cy] 87,box b1 [.bool (decide (x<0)),.slice lx nx cx] 87] w13:=S13.cut 0 rfl (fun _=>rfl) _ (dF _ _)
  refine J.lb 5 [] [(5,.slice (some ⟨b4,0,none⟩) (bY ol (ol).length) ((((nx:Int)+(ny:Int))+1).toNat))] [] S14 3 rfl 68 (.bool (decide (x<0)))<|J.lb 1 [] [] [] S14 2 rfl 70 (.bool (decide (y<0)))<|J.b 2 [] [] [] 72 (!((decide (x<0))==(decide (y<0)))) (fun fk4=>?_) fun fk4=>?_
  refine J.sb 6 [] [] [] S14 1 rfl [.bool (decide (((bY ol (ol).length):Int)>0)),.slice (some ⟨b4,0,none⟩) (bY ol (ol).length) ((((nx:Int)+(ny:Int))+1).toNat)] rfl fun w14 S15=>J.ez 1 [.agg #[.bool (decide (((bY ol (ol).length):Int)>0)),.slice (some ⟨b4,0,none⟩) (bY ol (ol).length) ((((nx:Int)+(ny:Int))+1).toNat)]] func78 (bk (S15.nth 1 rfl) bn) (hR _ _ ?_)
  have hd:=mul_end hM om
  have hl:=congrArg List.length hd
  rw[List.length_take,Nat.min_eq_left (dF _ _)] at hl
  have hz:=digs_nil (x:=x*y)
  have e0:decide (x*y<0)=(decide (((bY ol (ol).length):Int)>0)):=by rw[mul_sg,fk4];exact decide_eq_decide.2 om
  exact⟨_,_,by rw[e0,← hd,List.length_take,Nat.min_eq_left (dF _ _)];rfl,by unfold bgR;rw[← hd];exact S15.pick 0 rfl⟩
  refine J.sb 6 [] [] [] S14 1 rfl [.bool false,.slice (some ⟨b4,0,none⟩) (bY ol (ol).length) ((((nx:Int)+(ny:Int))+1).toNat)] rfl fun w15 S16=>J.ez 1 [.agg #[.bool false,.slice (some ⟨b4,0,none⟩) (bY ol (ol).length) ((((nx:Int)+(ny:Int))+1).toNat)]] func78 (bk (S16.nth 1 rfl) bn) (hR _ _ ?_)
  have hd:=mul_end hM om
  have hl:=congrArg List.length hd
  rw[List.length_take,Nat.min_eq_left (dF _ _)] at hl
  have hz:=digs_nil (x:=x*y)
  have e0:decide (x*y<0)=false:=by rw[mul_sg,fk4];rfl
  exact⟨_,_,by rw[e0,← hd,List.length_take,Nat.min_eq_left (dF _ _)];rfl,by unfold bgR;rw[← hd];exact S16.pick 0 rfl⟩
 exact J.t 9 (L78_1 _ (List.replicate ((((nx:Int)+(ny:Int))+1).toNat) (0:Int)) 0 w4 om (by rw[show((((nx:Int)+(ny:Int))+1).toNat)=(ak x).length+(ak y).length+1 by omega];exact mul_start _ _) S4 rfl)

theorem hb75:af prog 75:=fun _ _=>by kernel_rfl

theorem rlim_any (t:Fxd) (w:World) (ht:cE w t) (ft:bP t=true):Ret prog 75 #[.agg (aJ t)] w (fun v w'=>v=.tuple #[iv (bW t),iv (bZ t)]∧Sep w [] w'):=by
 refine Ret.st (N:=20) func75 fun R hR S0=>?_
 obtain ⟨q1,q2,q3,q4,q5,q6,q7,q8,q9,_⟩:=id ht
 have hfp:=eO.1 ft
 have hp1:=pow_bd (k:=(t.aL-1).toNat) om
 have hp2:=pow_bd (k:=(t.aL).toNat) om
 refine J.nw 2 [] [] [] S0 1 (aP t) 75 fun b1 w1 S1=>J.lb 7 [] [] [] S1 0 rfl 5 (.bool t.dU)<|J.b 1 [] [] [] 5 t.dU (fun fk1=>?_) fun fk1=>?_
 refine J.r 2 [true] [] []<|J.drawStill S1 12 Tryz.mixed kr kr kr ?_
 intro w2 S2
 refine SL.r 6 (pv b1)<|SL.lb S2 0 rfl 7 (iv t.aL)<|SL.r 8 (iv (IntKind.wrap .i64 (t.aL-1)))<|SL.head (iv (t.aL-1)) (congrArg (Value.int .i64) (IntWalk.i64_in _ om))<|SL.ok dE (OK.shl 9 .i64 1 (t.aL-1) (1*2^(t.aL-1).toNat) kr om ((lim_shl om om)))<|SL.r 10 (iv (IntKind.wrap .i64 (0-(1*2^(t.aL-1).toNat))))<|SL.head (iv (0-(1*2^(t.aL-1).toNat))) (congrArg (Value.int .i64) (IntWalk.i64_in _ om))<|SL.r 11 (pv b1)<|SL.lb S2 0 rfl 12 (iv t.aL)<|SL.r 13 (iv (IntKind.wrap .i64 (t.aL-1)))<|SL.head (iv (t.aL-1)) (congrArg (Value.int .i64) (IntWalk.i64_in _ om)) ?_
 refine SL.ok dE (OK.shl 14 .i64 1 (t.aL-1) (1*2^(t.aL-1).toNat) kr om ((lim_shl om om)))<|SL.r 15 (iv (IntKind.wrap .i64 ((1*2^(t.aL-1).toNat)-1)))<|SL.head (iv ((1*2^(t.aL-1).toNat)-1)) (congrArg (Value.int .i64) (IntWalk.i64_in _ om))<|SL.r 2 (iv (0-(1*2^(t.aL-1).toNat)))<|SL.r 3 (iv ((1*2^(t.aL-1).toNat)-1))<|SL.done<|TL.done kr<|J.e 0 [iv (0-(1*2^(t.aL-1).toNat)),iv ((1*2^(t.aL-1).toNat)-1)] func75 (hR _ _ ?_)
 obtain ⟨e1,e2⟩:=lim_s ft fk1
 exact⟨by rw[tup_two,e1,e2]<;>first | rfl | (rw[show(0:Int)-1*2^(t.aL-1).toNat=(-1)*2^(t.aL-1).toNat by omega]),S2.nil⟩
 refine J.r 3 [false] [] []<|J.drawStill S1 6 Tryz.mixed kr kr kr ?_
 intro w3 S3
 refine SL.r 16 (pv b1)<|SL.lb S3 0 rfl 17 (iv t.aL)<|SL.ok dE (OK.shl 18 .i64 1 t.aL (1*2^(t.aL).toNat) kr om ((lim_shl om om)))<|SL.r 19 (iv (IntKind.wrap .i64 ((1*2^(t.aL).toNat)-1)))<|SL.head (iv ((1*2^(t.aL).toNat)-1)) (congrArg (Value.int .i64) (IntWalk.i64_in _ om))<|SL.r 2 (iv 0)<|SL.r 3 (iv ((1*2^(t.aL).toNat)-1))<|SL.done<|TL.done kr<|J.e 0 [iv 0,iv ((1*2^(t.aL).toNat)-1)] func75 (hR _ _ ?_)
 obtain ⟨e1,e2⟩:=lim_u ft fk1
 exact⟨by rw[tup_two,e1,e2]<;>first | rfl | (rw[show(0:Int)-1*2^(t.aL-1).toNat=(-1)*2^(t.aL-1).toNat by omega]),S3.nil⟩

theorem hb37:af prog 37:=fun _ _=>by kernel_rfl

theorem dZ (t:Fxd) (r:Int) (w:World) (ht:cE w t) (ft:bP t=true) (rt:inT t r):Ret prog 37 #[.agg (aJ t),iv r] w (fun v w'=>∃ a1 c1 a2 c2,v=.tuple #[.agg #[.bool (decide (ac t r<0)),.slice a1 (ak (ac t r)).length c1],bgV t.aa a2 c2]∧Sep w [bgR (ac t r) a1 c1,bgR t.aa a2 c2] w'):=by
 refine Ret.st (N:=17) func37 fun R hR S0=>?_
 obtain ⟨q1,q2,q3,q4,q5,q6,q7,q8,q9,_⟩:=id ht
 have hfp:=eO.1 ft
 have hlim:=lim_bd t
 have hnb:=num_bd ft rt
 have hnd:ac t r=r*t.aY+t.aG:=rfl
 refine J.nw 2 [] [] [] S0 2 (aP t) 75 fun b1 w1 S1=>J.nw 0 [] [] [] S1 4 [.bool false,.slice none 0 0] 87 fun b2 w2 S2=>J.nw 0 [] [] [] S2 5 [.bool false,.slice none 0 0] 87 fun b3 w3 S3=>J.r 2 [] [] []<|J.drawPlan (fun w_=>Sep w [box b1 (aP t) 75] w_) [(0,true),(1,true),(2,true),(3,true),(4,true),(5,true),(6,true),(8,true),(9,true),(7,false),(10,false),(11,false),(12,false)] S3 Tryz.mixed kr (aF (T:=[(0,some 6,2),(0,some 7,4),(2,some 8,128),(5,some 9,320),(0,some 10,4),(16,some 11,1024),(40,some 12,2560),(64,some 13,4096),(0,some 14,4),(256,some 15,16384),(640,some 16,32768),(1279,none,8208),(4095,none,65568)]) kr kr) ?_
 intro w4 S4
 refine PB.mk ((S4.erase 1).erase 0)<|PL.take 0 6 (iv r) (fun _ _=>kr)<|PL.take 1 7 (.pointer (some ⟨b1,2,none⟩)) (fun _ _=>kr)<|PL.takeOK 2 (fun w_ S_=>OK.ldBox S_ 0 8 3 2 (iv t.aY) kr rfl kr) rfl<|PL.take 3 9 (iv (IntKind.wrap .i64 (r*t.aY))) (fun _ _=>kr)<|PL.head (iv (r*t.aY)) (congrArg (Value.int .i64) (IntWalk.i64_in _ om))<|PL.take 4 10 (.pointer (some ⟨b1,3,none⟩)) (fun _ _=>kr)<|PL.takeOK 5 (fun w_ S_=>OK.ldBox S_ 0 11 3 3 (iv t.aG) kr rfl kr) rfl<|PL.take 6 12 (iv (IntKind.wrap .i64 ((r*t.aY)+t.aG))) (fun _ _=>kr)<|PL.head (iv (ac t r)) (congrArg (Value.int .i64) (IntWalk.i64_in _ om))<|PL.take 8 14 (.pointer (some ⟨b1,4,none⟩)) (fun _ _=>kr) ?_
 refine PL.takeOK 9 (fun w_ S_=>OK.ldBox S_ 0 15 3 4 (iv t.aa) kr rfl kr) rfl<|PL.callF 13 76 #[iv (ac t r)] hb76 kr (eS (ac t r) _ om) ?_
 rintro _ w5 ⟨ra1,rc1,rfl,T1⟩
 have S5:Sep w [bgR (ac t r) ra1 rc1,box b3 [.bool false,.slice none 0 0] 87,box b2 [.bool false,.slice none 0 0] 87,box b1 (aP t) 75] w5:=S4.trans T1
 clear T1 S4
 refine PB.mk (((S5.erase 2).erase 1).erase 0)<|PL.callF 16 76 #[iv t.aa] hb76 kr (eS t.aa _ om) ?_
 rintro _ w6 ⟨ra2,rc2,rfl,T2⟩
 have S6:Sep w [bgR t.aa ra2 rc2,bgR (ac t r) ra1 rc1,box b3 [.bool false,.slice none 0 0] 87,box b2 [.bool false,.slice none 0 0] 87,box b1 (aP t) 75] w6:=S5.trans T2
 clear T2 S5
 refine PB.mk ((((S6.erase 3).erase 2).erase 1).erase 0)<|PL.stBox S6 3 87 0 (bgV (ac t r) ra1 rc1) (bgC (ac t r) ra1 rc1) [bgR t.aa ra2 rc2,bgR (ac t r) ra1 rc1,box b3 [.bool false,.slice none 0 0] 87,box b2 (bgC (ac t r) ra1 rc1) 87,box b1 (aP t) 75] kr rfl kr kr rfl ?_
 intro w7 S7
 refine PB.mk ((((S7.erase 3).erase 2).erase 1).erase 0)<|PL.stBox S7 2 87 0 (bgV t.aa ra2 rc2) (bgC t.aa ra2 rc2) [bgR t.aa ra2 rc2,bgR (ac t r) ra1 rc1,box b3 (bgC t.aa ra2 rc2) 87,box b2 (bgC (ac t r) ra1 rc1) 87,box b1 (aP t) 75] kr rfl kr kr rfl ?_
 intro w8 S8
 refine PB.mk ((((S8.erase 3).erase 2).erase 1).erase 0)<|PL.done<|J.ez 0 [bgV (ac t r) ra1 rc1,bgV t.aa ra2 rc2] func37 (bk (S8.nth 3 rfl) (bk (S8.nth 2 rfl) bn)) (hR _ _ ?_)
 exact⟨_,_,_,_,rfl,S8.two 0 1 rfl rfl dE⟩

theorem hb38:af prog 38:=fun _ _=>by kernel_rfl
def K38_0:=adv 8 [] (bo Tryz.f38)
abbrev cg (b3:Nat) (d:Int) (ly:Option Addr) (ny:Nat) (cy:Nat) (b2:Nat) (n:Int) (lx:Option Addr) (nx:Nat) (cx:Nat) (b1:Nat) (t:Fxd):List Eng.Claim:=[box b3 [.bool (decide (d<0)),.slice ly ny cy] 87,box b2 [.bool (decide (n<0)),.slice lx nx cx] 87,box b1 [iv t.aL,.bool t.dU,iv t.aY,iv t.aG,iv t.aa,iv t.ah,iv t.ae,iv t.ag,iv t.aj,iv t.ai] 75]
def K38_1:=adv 1 [] (cL (adv 8 [] (bo Tryz.f38)))
abbrev eI (ad11:Option Addr) (cd11:Nat) (n:Int) (d:Int) (t:Fxd) (bd12:Nat) (b3:Nat) (ly:Option Addr) (ny:Nat) (cy:Nat) (b2:Nat) (lx:Option Addr) (nx:Nat) (cx:Nat) (b1:Nat):List Eng.Claim:=(am aM ad11 cd11 3 1 (ak (nzX n d t))::box bd12 [.bool (decide ((nzX n d t)<0)),.slice ad11 ((ak (nzX n d t)).length) cd11] 87::(cg b3 d ly ny cy b2 n lx nx cx b1 t))
def K38_2:=adv 11 [] (cL (adv 1 [] (cL (adv 8 [] (bo Tryz.f38)))))
abbrev cP (ad104:Option Addr) (cd104:Nat) (d:Int) (t:Fxd) (bd105:Nat) (ad11:Option Addr) (cd11:Nat) (n:Int) (bd12:Nat) (b3:Nat) (ly:Option Addr) (ny:Nat) (cy:Nat) (b2:Nat) (lx:Option Addr) (nx:Nat) (cx:Nat) (b1:Nat):List Eng.Claim:=(am aM ad104 cd104 3 1 (ak (nzY d t))::box bd105 [.bool (decide ((nzY d t)<0)),.slice ad104 ((ak (nzY d t)).length) cd104] 87::(eI ad11 cd11 n d t bd12 b3 ly ny cy b2 lx nx cx b1))
def K38_3:=adv 3 [] (cL (adv 11 [] (cL (adv 1 [] (cL (adv 8 [] (bo Tryz.f38)))))))
theorem rnear_any (t:Fxd) (n:Int) (lx:Option Addr) (nx cx:Nat) (d:Int) (ly:Option Addr) (ny cy:Nat) (w:World) (ht:cE w t) (ft:bP t=true) (hc:okC n d) (hx:dk w lx nx (ak n)) (hy:dk w ly ny (ak d)):Ret prog 38 #[.agg (aJ t),.agg #[.bool (decide (n<0)),.slice lx nx cx],.agg #[.bool (decide (d<0)),.slice ly ny cy]] w (fun v w'=>v=iv (du n d t)∧Sep w [] w'):=by
 refine Ret.st (N:=65) func38 fun R hR S0=>?_
 obtain ⟨q1,q2,q3,q4,q5,q6,q7,q8,q9,_⟩:=id ht
 have hfp:=eO.1 ft
 have hlim:=lim_bd t
 have hr1:=dd (x:=n) (y:=t.aa) 40564819207303340847894502572032 1048576 om om
 have hr2:=dd (x:=d) (y:=t.aG) 9444732965739290427392 1073741824 om om
 have hr3:=dd (x:=d) (y:=t.aY) 9444732965739290427392 1048576 om om
 have hr4:=prod_pos (x:=d) (y:=t.aY) om om
 have hzX:nzX n d t=n*t.aa+ -1*(d*t.aG):=by unfold nzX;omega
 have hzY:nzY d t=1*(d*t.aY):=by unfold nzY;omega
 have hzZ:nzZ d t=2*nzY d t:=rfl
 have hzB:nzB n d t=2*nzX n d t+nzY d t:=rfl
 refine J.nw 2 [] [] [] S0 3 (aP t) 75 fun b1 w1 S1=>J.nw 0 [] [] [] S1 4 [.bool (decide (n<0)),.slice lx nx cx] 87 fun b2 w2 S2=>J.nw 0 [] [] [] S2 5 [.bool (decide (d<0)),.slice ly ny cy] 87 fun b3 w3 S3=>J.r 3 [] [] [] ?_
 replace S3:Sep w (cg b3 d ly ny cy b2 n lx nx cx b1 t) w3:=S3
 have W1:∀ (bd12:Nat) (ad11:Option Addr) (cd11:Nat) (w4:World),Sep w (bgR (nzX n d t) ad11 cd11::box bd12 (bgC (nzX n d t) ad11 cd11) 87::(cg b3 d ly ny cy b2 n lx nx cx b1 t)) w4→WA prog 38 65 R K38_0 (fun w_=>Sep w (cg b3 d ly ny cy b2 n lx nx cx b1 t) w_) 0 (bA 14 16383) [(3,pv b1),(5,pv b3),(7,pv bd12)] w4:=by
  intro bd12 ad11 cd11 w4 S4
  refine WA.done kr<|J.r 1 [] [] [] ?_
  replace S4:Sep w (eI ad11 cd11 n d t bd12 b3 ly ny cy b2 lx nx cx b1) w4:=S4
  have W2:∀ (bd105:Nat) (ad104:Option Addr) (cd104:Nat) (w5:World),Sep w (bgR (nzY d t) ad104 cd104::box bd105 (bgC (nzY d t) ad104 cd104) 87::(eI ad11 cd11 n d t bd12 b3 ly ny cy b2 lx nx cx b1)) w5→WA prog 38 65 R K38_1 (fun w_=>Sep w (eI ad11 cd11 n d t bd12 b3 ly ny cy b2 lx nx cx b1) w_) 0 (bA 7 127) [(3,pv b1),(7,pv bd12),(8,pv bd105)] w5:=by
   intro bd105 ad104 cd104 w5 S5
   refine WA.done kr<|J.lb 2 [] [] [] S5 6 rfl 31 (.agg (aJ t))<|J.c0 0 [] [] [] S5 32 hb75 (rlim_any t _ (aq ht S5) ft) fun w6 S6=>?_
   have hlim:=lim_bd (t)
   refine J.r 7 [] [(10,iv (bZ t)),(9,iv (bW t))] [] ?_
   replace S6:Sep w (cP ad104 cd104 d t bd105 ad11 cd11 n bd12 b3 ly ny cy b2 lx nx cx b1) w6:=S6
   have W3:∀ (bd205:Nat) (ad204:Option Addr) (cd204:Nat) (w7:World),Sep w (bgR (nzB n d t) ad204 cd204::box bd205 (bgC (nzB n d t) ad204 cd204) 87::(cP ad104 cd104 d t bd105 ad11 cd11 n bd12 b3 ly ny cy b2 lx nx cx b1)) w7→WA prog 38 65 R K38_2 (fun w_=>Sep w (cP ad104 cd104 d t bd105 ad11 cd11 n bd12 b3 ly ny cy b2 lx nx cx b1) w_) 0 (bA 7 127) [(8,pv bd105),(9,iv (bW t)),(10,iv (bZ t)),(11,pv bd205)] w7:=by
    intro bd205 ad204 cd204 w7 S7
    refine WA.done kr ?_
    have L38_1:∀ (mm_:Nat) (lo:Int) (hi:Int) (w8:World),(bW t≤lo∧lo≤hi∧hi≤bZ t)→(min (max (qF n d t) lo) hi=du n d t)→Sep w (bgR (nzB n d t) ad204 cd204::box bd205 (bgC (nzB n d t) ad204 cd204) 87::(cP ad104 cd104 d t bd105 ad11 cd11 n bd12 b3 ly ny cy b2 lx nx cx b1)) w8→(hi-lo).toNat=mm_→J prog 38 65 R K38_3 [(8,pv bd105),(9,iv lo),(10,iv hi),(11,pv bd205)] w8:=by
     intro mm1
     induction mm1 using Nat.strongRecOn with
     | _ mm1 ih1 =>
     intro lo hi w8 h0 hq S8 hm1
     refine J.c 7 [] [] [] 42 (lo<hi) (fun fk1=>?_) fun fk1=>?_
     refine J.wi 9 [true] [(43,iv lo)] [] 46 (hi-lo)<|J.wi 1 [] [] [] 47 ((hi-lo)+1)<|J.h 1 [] [] [] 48 (iv (IntKind.wrap .i64 (Int.tdiv ((hi-lo)+1) 2))) (iv (((hi-lo)+1)/2)) (congrArg (Value.int .i64) (IntWalk.i64_quo _ _ om))<|J.wi 1 [] [] [] 49 (lo+(((hi-lo)+1)/2)) ?_
     have hmb:=dd (x:=nzZ d t) (y:=(lo+(((hi-lo)+1)/2))) 19807040628566084398385987584 4294967296 om om
     have hms:=near_step (n:=n) (m:=lo+(((hi-lo)+1)/2)) hr4
     refine J.r 3 [] [(12,iv (lo+(((hi-lo)+1)/2)))] []<|J.drawPlan (fun w_=>Sep w (bgR (nzB n d t) ad204 cd204::box bd205 (bgC (nzB n d t) ad204 cd204) 87::(cP ad104 cd104 d t bd105 ad11 cd11 n bd12 b3 ly ny cy b2 lx nx cx b1)) w_) [(1,true),(3,true),(6,true),(0,false),(2,false),(4,false),(5,false),(7,false),(8,false),(9,false),(10,true)] S8 Tryz.mixed kr (aF (T:=[(0,some 50,0),(0,some 51,256),(3,some 52,3377699720527872),(0,some 53,4096),(12,some 54,9007199254740992),(20,some 55,22517998136852480),(0,some 56,2048),(96,some 57,72057594037927936),(160,some 58,180143985094819840),(256,some 59,288230376151711744),(512,some 60,576460752303423488)]) kr kr) ?_
     intro w9 S9
     refine PB.mk S9<|PL.takeOK 1 (fun w_ S_=>OK.ldBox S_ 3 51 87 0 (bgV (nzY d t) ad104 cd104) kr rfl kr) rfl<|PL.take 3 53 (iv (lo+(((hi-lo)+1)/2))) (fun _ _=>kr)<|PL.takeOK 6 (fun w_ S_=>OK.ldBox S_ 1 56 87 0 (bgV (nzB n d t) ad204 cd204) kr rfl kr) rfl<|PL.callF 50 76 #[iv 2] hb76 kr (eS 2 _ om) ?_
     rintro _ w10 ⟨ra1,rc1,rfl,T1⟩
     have S10:Sep w (bgR 2 ra1 rc1::bgR (nzB n d t) ad204 cd204::box bd205 (bgC (nzB n d t) ad204 cd204) 87::(cP ad104 cd104 d t bd105 ad11 cd11 n bd12 b3 ly ny cy b2 lx nx cx b1)) w10:=S9.trans T1
     clear T1 S9
     refine PB.mk (S10.erase 0) ?_
     have:=aB (S10.nth 0 rfl)
     have:=aB (S10.nth 3 rfl)
     refine PL.callF 52 78 #[bgV 2 ra1 rc1,bgV (nzY d t) ad104 cd104] hb78 kr (bT 2 (nzY d t) ra1 ((ak 2).length) rc1 ad104 ((ak (nzY d t)).length) cd104 _ ((aD (S10.nth 0 rfl) ((ak 2).length) rO)) cO ((aD (S10.nth 3 rfl) ((ak (nzY d t)).length) rO)) cO) ?_
     rintro _ w11 ⟨ra2,rc2,rfl,T2⟩
     have S11:Sep w (bgR (nzZ d t) ra2 rc2::bgR 2 ra1 rc1::bgR (nzB n d t) ad204 cd204::box bd205 (bgC (nzB n d t) ad204 cd204) 87::(cP ad104 cd104 d t bd105 ad11 cd11 n bd12 b3 ly ny cy b2 lx nx cx b1)) w11:=S10.trans T2
     clear T2 S10
     refine PB.mk ((S11.erase 1).erase 0)<|PL.callF 54 76 #[iv (lo+(((hi-lo)+1)/2))] hb76 kr (eS (lo+(((hi-lo)+1)/2)) _ om) ?_
     rintro _ w12 ⟨ra3,rc3,rfl,T3⟩
     have S12:Sep w (bgR (lo+(((hi-lo)+1)/2)) ra3 rc3::bgR (nzZ d t) ra2 rc2::bgR 2 ra1 rc1::bgR (nzB n d t) ad204 cd204::box bd205 (bgC (nzB n d t) ad204 cd204) 87::(cP ad104 cd104 d t bd105 ad11 cd11 n bd12 b3 ly ny cy b2 lx nx cx b1)) w12:=S11.trans T3
     clear T3 S11
     refine PB.mk (((S12.erase 2).erase 1).erase 0) ?_
     have:=aB (S12.nth 1 rfl)
     have:=aB (S12.nth 0 rfl)
     refine PL.callF 55 78 #[bgV (nzZ d t) ra2 rc2,bgV (lo+(((hi-lo)+1)/2)) ra3 rc3] hb78 kr (bT (nzZ d t) (lo+(((hi-lo)+1)/2)) ra2 ((ak (nzZ d t)).length) rc2 ra3 ((ak (lo+(((hi-lo)+1)/2))).length) rc3 _ ((aD (S12.nth 1 rfl) ((ak (nzZ d t)).length) rO)) cO ((aD (S12.nth 0 rfl) ((ak (lo+(((hi-lo)+1)/2))).length) rO)) cO) ?_
     rintro _ w13 ⟨ra4,rc4,rfl,T4⟩
     have S13:Sep w (bgR ((nzZ d t)*(lo+(((hi-lo)+1)/2))) ra4 rc4::bgR (lo+(((hi-lo)+1)/2)) ra3 rc3::bgR (nzZ d t) ra2 rc2::bgR 2 ra1 rc1::bgR (nzB n d t) ad204 cd204::box bd205 (bgC (nzB n d t) ad204 cd204) 87::(cP ad104 cd104 d t bd105 ad11 cd11 n bd12 b3 ly ny cy b2 lx nx cx b1)) w13:=S12.trans T4
     clear T4 S12
     refine PB.mk ((((S13.erase 3).erase 2).erase 1).erase 0) ?_
     have:=aB (S13.nth 4 rfl)
     refine PL.callF 57 39 #[bgV (nzB n d t) ad204 cd204] hb39 kr (eo (nzB n d t) ad204 ((ak (nzB n d t)).length) cd204 _ ((aD (S13.nth 4 rfl) ((ak (nzB n d t)).length) rO))) ?_
     rintro _ w14 ⟨rfl,T5⟩
     have S14:Sep w (bgR ((nzZ d t)*(lo+(((hi-lo)+1)/2))) ra4 rc4::bgR (lo+(((hi-lo)+1)/2)) ra3 rc3::bgR (nzZ d t) ra2 rc2::bgR 2 ra1 rc1::bgR (nzB n d t) ad204 cd204::box bd205 (bgC (nzB n d t) ad204 cd204) 87::(cP ad104 cd104 d t bd105 ad11 cd11 n bd12 b3 ly ny cy b2 lx nx cx b1)) w14:=S13.trans T5
     clear T5 S13
     refine PB.mk ((((S14.erase 3).erase 2).erase 1).erase 0) ?_
     have:=aB (S14.nth 0 rfl)
     have:=aB (S14.nth 4 rfl)
     refine PL.callF 58 77 #[bgV ((nzZ d t)*(lo+(((hi-lo)+1)/2))) ra4 rc4,.agg #[.bool (decide ((-(nzB n d t))<0)),.slice ad204 ((ak (nzB n d t)).length) cd204]] hb77 kr (radd_any ((nzZ d t)*(lo+(((hi-lo)+1)/2))) (-(nzB n d t)) ra4 ((ak ((nzZ d t)*(lo+(((hi-lo)+1)/2)))).length) rc4 ad204 ((ak (nzB n d t)).length) cd204 _ ((aD (S14.nth 0 rfl) ((ak ((nzZ d t)*(lo+(((hi-lo)+1)/2)))).length) rO)) cO (by rw[dj];exact(aD (S14.nth 4 rfl) ((ak (nzB n d t)).length) rO)) cO) ?_
     rintro _ w15 ⟨ra5,rc5,rfl,T6⟩
     have S15:Sep w (bgR (((nzZ d t)*(lo+(((hi-lo)+1)/2)))+(-(nzB n d t))) ra5 rc5::bgR ((nzZ d t)*(lo+(((hi-lo)+1)/2))) ra4 rc4::bgR (lo+(((hi-lo)+1)/2)) ra3 rc3::bgR (nzZ d t) ra2 rc2::bgR 2 ra1 rc1::bgR (nzB n d t) ad204 cd204::box bd205 (bgC (nzB n d t) ad204 cd204) 87::(cP ad104 cd104 d t bd105 ad11 cd11 n bd12 b3 ly ny cy b2 lx nx cx b1)) w15:=S14.trans T6
     clear T6 S14
     refine PB.mk (((((S15.erase 4).erase 3).erase 2).erase 1).erase 0) ?_
     have:=aB (S15.nth 0 rfl)
     refine PL.callF 59 79 #[bgV (((nzZ d t)*(lo+(((hi-lo)+1)/2)))+(-(nzB n d t))) ra5 rc5] hb79 kr (rsign_any (((nzZ d t)*(lo+(((hi-lo)+1)/2)))+(-(nzB n d t))) ra5 ((ak (((nzZ d t)*(lo+(((hi-lo)+1)/2)))+(-(nzB n d t)))).length) rc5 _ ((aD (S15.nth 0 rfl) ((ak (((nzZ d t)*(lo+(((hi-lo)+1)/2)))+(-(nzB n d t)))).length) rO))) ?_
     rintro _ w16 ⟨rfl,T7⟩
     have S16:Sep w (bgR (((nzZ d t)*(lo+(((hi-lo)+1)/2)))+(-(nzB n d t))) ra5 rc5::bgR ((nzZ d t)*(lo+(((hi-lo)+1)/2))) ra4 rc4::bgR (lo+(((hi-lo)+1)/2)) ra3 rc3::bgR (nzZ d t) ra2 rc2::bgR 2 ra1 rc1::bgR (nzB n d t) ad204 cd204::box bd205 (bgC (nzB n d t) ad204 cd204) 87::(cP ad104 cd104 d t bd105 ad11 cd11 n bd12 b3 ly ny cy b2 lx nx cx b1)) w16:=S15.trans T7
     clear T7 S15
     refine PB.mk (((((S16.erase 4).erase 3).erase 2).erase 1).erase 0)<|PL.take 10 60 (.bool (decide ((sgnI (((nzZ d t)*(lo+(((hi-lo)+1)/2)))+(-(nzB n d t))))≤0))) (fun _ _=>kr)<|PL.done<|J.c 0 [] [] [] 60 ((sgnI (((nzZ d t)*(lo+(((hi-lo)+1)/2)))+(-(nzB n d t))))≤0) (fun fk2=>?_) fun fk2=>?_
     have fb1:=sgn_le.1 fk2
     exact J.t 7 (ih1 _ (show(hi-(lo+(((hi-lo)+1)/2))).toNat<mm1 from by omega) (lo+(((hi-lo)+1)/2)) hi w16 om (by rw[← hq];omega) (((((S16.erase 4).erase 3).erase 2).erase 1).erase 0) rfl)
     have fb2:=mt sgn_le.2 fk2
     exact J.wi 4 [false] [] [] 63 ((lo+(((hi-lo)+1)/2))-1)<|J.t 4 (ih1 _ (show(((lo+(((hi-lo)+1)/2))-1)-lo).toNat<mm1 from by omega) lo ((lo+(((hi-lo)+1)/2))-1) w16 om (by rw[← hq];omega) (((((S16.erase 4).erase 3).erase 2).erase 1).erase 0) rfl)
     refine J.e 7 [iv lo] func38 (hR _ _ ?_)
     have e1:lo=du n d t:=by rw[← hq];omega
     exact⟨by rw[← e1];rfl,S8.nil⟩
    exact J.t 3 (L38_1 _ (bW t) (bZ t) w7 om (rfl) S7 rfl)
   have W4:∀ (bd205:Nat) (ad204:Option Addr) (cd204:Nat) (w17:World),Sep w (bgR (nzB n d t) ad204 cd204::box bd205 [.bool false,.slice none 0 0] 87::(cP ad104 cd104 d t bd105 ad11 cd11 n bd12 b3 ly ny cy b2 lx nx cx b1)) w17→WA prog 38 65 R K38_2 (fun w_=>Sep w (cP ad104 cd104 d t bd105 ad11 cd11 n bd12 b3 ly ny cy b2 lx nx cx b1) w_) 1 (bA 7 63) [(8,pv bd105),(9,iv (bW t)),(10,iv (bZ t)),(11,pv bd205),(39,bgV (nzB n d t) ad204 cd204)] w17:=by
    intro bd205 ad204 cd204 w17 S17
    refine WA.all [6] kr rfl ⟨?_,trivial⟩
    refine WO.set (bA 7 127) kr<|WO.stBox S17 1 87 0 (bgV (nzB n d t) ad204 cd204) (bgC (nzB n d t) ad204 cd204) (bgR (nzB n d t) ad204 cd204::box bd205 (bgC (nzB n d t) ad204 cd204) 87::(cP ad104 cd104 d t bd105 ad11 cd11 n bd12 b3 ly ny cy b2 lx nx cx b1)) kr rfl kr kr rfl ?_
    intro w18 S18
    exact WB.mk ((S18.erase 1).erase 0)<|WA.weaken kr (W3 bd205 ad204 cd204 w18 S18)
   have W5:∀ (bd205:Nat) (ad202:Option Addr) (cd202:Nat) (w19:World),Sep w (bgR (2*(nzX n d t)) ad202 cd202::box bd205 [.bool false,.slice none 0 0] 87::(cP ad104 cd104 d t bd105 ad11 cd11 n bd12 b3 ly ny cy b2 lx nx cx b1)) w19→WA prog 38 65 R K38_2 (fun w_=>Sep w (cP ad104 cd104 d t bd105 ad11 cd11 n bd12 b3 ly ny cy b2 lx nx cx b1) w_) 2 (bA 7 47) [(8,pv bd105),(9,iv (bW t)),(10,iv (bZ t)),(11,pv bd205),(37,bgV (2*(nzX n d t)) ad202 cd202),(38,bgV (nzY d t) ad104 cd104)] w19:=by
    intro bd205 ad202 cd202 w19 S19
    refine WA.all [4] kr rfl ⟨?_,trivial⟩
    refine WO.set (bA 7 63) kr ?_
    have:=aB (S19.nth 0 rfl)
    have:=aB (S19.nth 2 rfl)
    refine WO.callF 39 77 #[bgV (2*(nzX n d t)) ad202 cd202,bgV (nzY d t) ad104 cd104] hb77 kr (radd_any (2*(nzX n d t)) (nzY d t) ad202 ((ak (2*(nzX n d t))).length) cd202 ad104 ((ak (nzY d t)).length) cd104 _ ((aD (S19.nth 0 rfl) ((ak (2*(nzX n d t))).length) rO)) cO ((aD (S19.nth 2 rfl) ((ak (nzY d t)).length) rO)) cO) ?_
    rintro _ w20 ⟨ad204,cd204,rfl,T8⟩
    exact WB.mk ((((S19.trans T8).erase 2).erase 1).erase 0)<|WA.weaken kr (W4 bd205 ad204 cd204 w20 ((S19.trans T8).erase 1))
   have W6:∀ (ad204:Option Addr) (cd204:Nat) (w21:World),Sep w (bgR (nzB n d t) ad204 cd204::(cP ad104 cd104 d t bd105 ad11 cd11 n bd12 b3 ly ny cy b2 lx nx cx b1)) w21→WA prog 38 65 R K38_2 (fun w_=>Sep w (cP ad104 cd104 d t bd105 ad11 cd11 n bd12 b3 ly ny cy b2 lx nx cx b1) w_) 2 (bA 7 31) [(8,pv bd105),(9,iv (bW t)),(10,iv (bZ t)),(39,bgV (nzB n d t) ad204 cd204)] w21:=by
    intro ad204 cd204 w21 S21
    refine WA.all [5] kr rfl ⟨?_,trivial⟩
    refine WO.set (bA 7 63) kr<|WO.new S21 11 [.bool false,.slice none 0 0] 87 kr ?_
    intro bd205 w22 S22
    refine WB.mk ((S22.erase 1).erase 0) ?_
    have S23:Sep w (box bd205 [.bool false,.slice none 0 0] 87::bgR (nzB n d t) ad204 cd204::(cP ad104 cd104 d t bd105 ad11 cd11 n bd12 b3 ly ny cy b2 lx nx cx b1)) w22:=S22.front 0 rfl
    have S24:Sep w (bgR (nzB n d t) ad204 cd204::box bd205 [.bool false,.slice none 0 0] 87::(cP ad104 cd104 d t bd105 ad11 cd11 n bd12 b3 ly ny cy b2 lx nx cx b1)) w22:=S23.front 1 rfl
    exact WA.weaken kr (W4 bd205 ad204 cd204 w22 S24)
   have W7:∀ (bd205:Nat) (ad200:Option Addr) (cd200:Nat) (w23:World),Sep w (bgR 2 ad200 cd200::box bd205 [.bool false,.slice none 0 0] 87::(cP ad104 cd104 d t bd105 ad11 cd11 n bd12 b3 ly ny cy b2 lx nx cx b1)) w23→WA prog 38 65 R K38_2 (fun w_=>Sep w (cP ad104 cd104 d t bd105 ad11 cd11 n bd12 b3 ly ny cy b2 lx nx cx b1) w_) 3 (bA 7 43) [(8,pv bd105),(9,iv (bW t)),(10,iv (bZ t)),(11,pv bd205),(35,bgV 2 ad200 cd200),(36,bgV (nzX n d t) ad11 cd11),(38,bgV (nzY d t) ad104 cd104)] w23:=by
    intro bd205 ad200 cd200 w23 S25
    refine WA.all [2] kr rfl ⟨?_,trivial⟩
    refine WO.set (bA 7 47) kr ?_
    have:=aB (S25.nth 0 rfl)
    have:=aB (S25.nth 4 rfl)
    refine WO.callF 37 78 #[bgV 2 ad200 cd200,bgV (nzX n d t) ad11 cd11] hb78 kr (bT 2 (nzX n d t) ad200 ((ak 2).length) cd200 ad11 ((ak (nzX n d t)).length) cd11 _ ((aD (S25.nth 0 rfl) ((ak 2).length) rO)) cO ((aD (S25.nth 4 rfl) ((ak (nzX n d t)).length) rO)) cO) ?_
    rintro _ w24 ⟨ad202,cd202,rfl,T9⟩
    exact WB.mk ((((S25.trans T9).erase 2).erase 1).erase 0)<|WA.weaken kr (W5 bd205 ad202 cd202 w24 ((S25.trans T9).erase 1))
   have W8:∀ (ad202:Option Addr) (cd202:Nat) (w25:World),Sep w (bgR (2*(nzX n d t)) ad202 cd202::(cP ad104 cd104 d t bd105 ad11 cd11 n bd12 b3 ly ny cy b2 lx nx cx b1)) w25→WA prog 38 65 R K38_2 (fun w_=>Sep w (cP ad104 cd104 d t bd105 ad11 cd11 n bd12 b3 ly ny cy b2 lx nx cx b1) w_) 3 (bA 7 15) [(8,pv bd105),(9,iv (bW t)),(10,iv (bZ t)),(37,bgV (2*(nzX n d t)) ad202 cd202),(38,bgV (nzY d t) ad104 cd104)] w25:=by
    intro ad202 cd202 w25 S27
    refine WA.all [4,5] kr rfl ⟨?_,?_,trivial⟩
    refine WO.set (bA 7 31) kr ?_
    have:=aB (S27.nth 0 rfl)
    have:=aB (S27.nth 1 rfl)
    refine WO.callF 39 77 #[bgV (2*(nzX n d t)) ad202 cd202,bgV (nzY d t) ad104 cd104] hb77 kr (radd_any (2*(nzX n d t)) (nzY d t) ad202 ((ak (2*(nzX n d t))).length) cd202 ad104 ((ak (nzY d t)).length) cd104 _ ((aD (S27.nth 0 rfl) ((ak (2*(nzX n d t))).length) rO)) cO ((aD (S27.nth 1 rfl) ((ak (nzY d t)).length) rO)) cO) ?_
    rintro _ w26 ⟨ad204,cd204,rfl,T10⟩
    exact WB.mk (((S27.trans T10).erase 1).erase 0)<|WA.weaken kr (W6 ad204 cd204 w26 ((S27.trans T10).erase 1))
    refine WO.set (bA 7 47) kr<|WO.new S27 11 [.bool false,.slice none 0 0] 87 kr ?_
    intro bd205 w27 S29
    refine WB.mk ((S29.erase 1).erase 0) ?_
    have S30:Sep w (box bd205 [.bool false,.slice none 0 0] 87::bgR (2*(nzX n d t)) ad202 cd202::(cP ad104 cd104 d t bd105 ad11 cd11 n bd12 b3 ly ny cy b2 lx nx cx b1)) w27:=S29.front 0 rfl
    have S31:Sep w (bgR (2*(nzX n d t)) ad202 cd202::box bd205 [.bool false,.slice none 0 0] 87::(cP ad104 cd104 d t bd105 ad11 cd11 n bd12 b3 ly ny cy b2 lx nx cx b1)) w27:=S30.front 1 rfl
    exact WA.weaken kr (W5 bd205 ad202 cd202 w27 S31)
   have W9:∀ (ad200:Option Addr) (cd200:Nat) (w28:World),Sep w (bgR 2 ad200 cd200::(cP ad104 cd104 d t bd105 ad11 cd11 n bd12 b3 ly ny cy b2 lx nx cx b1)) w28→WA prog 38 65 R K38_2 (fun w_=>Sep w (cP ad104 cd104 d t bd105 ad11 cd11 n bd12 b3 ly ny cy b2 lx nx cx b1) w_) 4 (bA 7 11) [(8,pv bd105),(9,iv (bW t)),(10,iv (bZ t)),(35,bgV 2 ad200 cd200),(36,bgV (nzX n d t) ad11 cd11),(38,bgV (nzY d t) ad104 cd104)] w28:=by
    intro ad200 cd200 w28 S32
    refine WA.all [2,5] kr rfl ⟨?_,?_,trivial⟩
    refine WO.set (bA 7 15) kr ?_
    have:=aB (S32.nth 0 rfl)
    have:=aB (S32.nth 3 rfl)
    refine WO.callF 37 78 #[bgV 2 ad200 cd200,bgV (nzX n d t) ad11 cd11] hb78 kr (bT 2 (nzX n d t) ad200 ((ak 2).length) cd200 ad11 ((ak (nzX n d t)).length) cd11 _ ((aD (S32.nth 0 rfl) ((ak 2).length) rO)) cO ((aD (S32.nth 3 rfl) ((ak (nzX n d t)).length) rO)) cO) ?_
    rintro _ w29 ⟨ad202,cd202,rfl,T11⟩
    exact WB.mk (((S32.trans T11).erase 1).erase 0)<|WA.weaken kr (W8 ad202 cd202 w29 ((S32.trans T11).erase 1))
    refine WO.set (bA 7 43) kr<|WO.new S32 11 [.bool false,.slice none 0 0] 87 kr ?_
    intro bd205 w30 S34
    refine WB.mk ((S34.erase 1).erase 0) ?_
    have S35:Sep w (box bd205 [.bool false,.slice none 0 0] 87::bgR 2 ad200 cd200::(cP ad104 cd104 d t bd105 ad11 cd11 n bd12 b3 ly ny cy b2 lx nx cx b1)) w30:=S34.front 0 rfl
    have S36:Sep w (bgR 2 ad200 cd200::box bd205 [.bool false,.slice none 0 0] 87::(cP ad104 cd104 d t bd105 ad11 cd11 n bd12 b3 ly ny cy b2 lx nx cx b1)) w30:=S35.front 1 rfl
    exact WA.weaken kr (W7 bd205 ad200 cd200 w30 S36)
   have W10:∀ (bd205:Nat) (w31:World),Sep w (box bd205 [.bool false,.slice none 0 0] 87::(cP ad104 cd104 d t bd105 ad11 cd11 n bd12 b3 ly ny cy b2 lx nx cx b1)) w31→WA prog 38 65 R K38_2 (fun w_=>Sep w (cP ad104 cd104 d t bd105 ad11 cd11 n bd12 b3 ly ny cy b2 lx nx cx b1) w_) 4 (bA 7 42) [(8,pv bd105),(9,iv (bW t)),(10,iv (bZ t)),(11,pv bd205),(36,bgV (nzX n d t) ad11 cd11),(38,bgV (nzY d t) ad104 cd104)] w31:=by
    intro bd205 w31 S37
    refine WA.all [0] kr rfl ⟨?_,trivial⟩
    refine WO.set (bA 7 43) kr<|WO.callF 35 76 #[iv 2] hb76 kr (eS 2 _ om) ?_
    rintro _ w32 ⟨ad200,cd200,rfl,T12⟩
    exact WB.mk (((S37.trans T12).erase 1).erase 0)<|WA.weaken kr (W7 bd205 ad200 cd200 w32 (S37.trans T12))
   have W11:∀ (w33:World),Sep w (cP ad104 cd104 d t bd105 ad11 cd11 n bd12 b3 ly ny cy b2 lx nx cx b1) w33→WA prog 38 65 R K38_2 (fun w_=>Sep w (cP ad104 cd104 d t bd105 ad11 cd11 n bd12 b3 ly ny cy b2 lx nx cx b1) w_) 5 (bA 7 10) [(8,pv bd105),(9,iv (bW t)),(10,iv (bZ t)),(36,bgV (nzX n d t) ad11 cd11),(38,bgV (nzY d t) ad104 cd104)] w33:=by
    intro w33 S39
    refine WA.all [0,5] kr rfl ⟨?_,?_,trivial⟩
    refine WO.set (bA 7 11) kr<|WO.callF 35 76 #[iv 2] hb76 kr (eS 2 _ om) ?_
    rintro _ w34 ⟨ad200,cd200,rfl,T13⟩
    exact WB.mk ((S39.trans T13).erase 0)<|WA.weaken kr (W9 ad200 cd200 w34 (S39.trans T13))
    refine WO.set (bA 7 42) kr<|WO.new S39 11 [.bool false,.slice none 0 0] 87 kr ?_
    intro bd205 w35 S41
    exact WB.mk (S41.erase 0)<|WA.weaken kr (W10 bd205 w35 S41)
   refine J.drawAny (fun w_=>Sep w (cP ad104 cd104 d t bd105 ad11 cd11 n bd12 b3 ly ny cy b2 lx nx cx b1) w_) S6 7 (bA 7 0) Tryz.mixed kr kr kr ?_
   intro w36 S42
   exact WB.mk S42<|WA.takeOK 1 (bA 7 2) kr kr kr kr (fun w_ S_=>OK.ldBox S_ 3 36 87 0 (bgV (nzX n d t) ad11 cd11) kr rfl kr) rfl<|WA.takeOK 3 (bA 7 10) kr kr kr kr (fun w_ S_=>OK.ldBox S_ 1 38 87 0 (bgV (nzY d t) ad104 cd104) kr rfl kr) rfl<|WA.weaken (env':=[(8,pv bd105),(9,iv (bW t)),(10,iv (bZ t)),(36,bgV (nzX n d t) ad11 cd11),(38,bgV (nzY d t) ad104 cd104)]) kr<|W11 w36 S42
  have W12:∀ (bd105:Nat) (ad104:Option Addr) (cd104:Nat) (w37:World),Sep w (bgR (nzY d t) ad104 cd104::box bd105 [.bool false,.slice none 0 0] 87::(eI ad11 cd11 n d t bd12 b3 ly ny cy b2 lx nx cx b1)) w37→WA prog 38 65 R K38_1 (fun w_=>Sep w (eI ad11 cd11 n d t bd12 b3 ly ny cy b2 lx nx cx b1) w_) 1 (bA 7 63) [(3,pv b1),(7,pv bd12),(8,pv bd105),(29,bgV (nzY d t) ad104 cd104)] w37:=by
   intro bd105 ad104 cd104 w37 S43
   refine WA.all [6] kr rfl ⟨?_,trivial⟩
   refine WO.set (bA 7 127) kr<|WO.stBox S43 1 87 0 (bgV (nzY d t) ad104 cd104) (bgC (nzY d t) ad104 cd104) (cP ad104 cd104 d t bd105 ad11 cd11 n bd12 b3 ly ny cy b2 lx nx cx b1) kr rfl kr kr rfl ?_
   intro w38 S44
   exact WB.mk ((S44.erase 1).erase 0)<|WA.weaken kr (W2 bd105 ad104 cd104 w38 S44)
  have W13:∀ (bd105:Nat) (ad103:Option Addr) (cd103:Nat) (w39:World),Sep w (bgR t.aY ad103 cd103::box bd105 [.bool false,.slice none 0 0] 87::(eI ad11 cd11 n d t bd12 b3 ly ny cy b2 lx nx cx b1)) w39→WA prog 38 65 R K38_1 (fun w_=>Sep w (eI ad11 cd11 n d t bd12 b3 ly ny cy b2 lx nx cx b1) w_) 2 (bA 7 47) [(3,pv b1),(7,pv bd12),(8,pv bd105),(25,.agg #[.bool (decide (d<0)),.slice ly ny cy]),(28,bgV t.aY ad103 cd103)] w39:=by
   intro bd105 ad103 cd103 w39 S45
   refine WA.all [4] kr rfl ⟨?_,trivial⟩
   refine WO.set (bA 7 63) kr ?_
   have:=aB (S45.nth 0 rfl)
   refine WO.callF 29 78 #[.agg #[.bool (decide (d<0)),.slice ly ny cy],bgV t.aY ad103 cd103] hb78 kr (bT d t.aY ly ny cy ad103 ((ak t.aY).length) cd103 _ (hy.sep S45) cO ((aD (S45.nth 0 rfl) ((ak t.aY).length) rO)) cO) ?_
   rintro _ w40 ⟨ad104,cd104,rfl,T14⟩
   exact WB.mk ((((S45.trans T14).erase 2).erase 1).erase 0)<|WA.weaken kr (W12 bd105 ad104 cd104 w40 ((S45.trans T14).erase 1))
  have W14:∀ (ad104:Option Addr) (cd104:Nat) (w41:World),Sep w (bgR (nzY d t) ad104 cd104::(eI ad11 cd11 n d t bd12 b3 ly ny cy b2 lx nx cx b1)) w41→WA prog 38 65 R K38_1 (fun w_=>Sep w (eI ad11 cd11 n d t bd12 b3 ly ny cy b2 lx nx cx b1) w_) 2 (bA 7 31) [(3,pv b1),(7,pv bd12),(29,bgV (nzY d t) ad104 cd104)] w41:=by
   intro ad104 cd104 w41 S47
   refine WA.all [5] kr rfl ⟨?_,trivial⟩
   refine WO.set (bA 7 63) kr<|WO.new S47 8 [.bool false,.slice none 0 0] 87 kr ?_
   intro bd105 w42 S48
   refine WB.mk ((S48.erase 1).erase 0) ?_
   have S49:Sep w (box bd105 [.bool false,.slice none 0 0] 87::bgR (nzY d t) ad104 cd104::(eI ad11 cd11 n d t bd12 b3 ly ny cy b2 lx nx cx b1)) w42:=S48.front 0 rfl
   have S50:Sep w (bgR (nzY d t) ad104 cd104::box bd105 [.bool false,.slice none 0 0] 87::(eI ad11 cd11 n d t bd12 b3 ly ny cy b2 lx nx cx b1)) w42:=S49.front 1 rfl
   exact WA.weaken kr (W12 bd105 ad104 cd104 w42 S50)
  have W15:∀ (ad103:Option Addr) (cd103:Nat) (w43:World),Sep w (bgR t.aY ad103 cd103::(eI ad11 cd11 n d t bd12 b3 ly ny cy b2 lx nx cx b1)) w43→WA prog 38 65 R K38_1 (fun w_=>Sep w (eI ad11 cd11 n d t bd12 b3 ly ny cy b2 lx nx cx b1) w_) 3 (bA 7 15) [(3,pv b1),(7,pv bd12),(25,.agg #[.bool (decide (d<0)),.slice ly ny cy]),(28,bgV t.aY ad103 cd103)] w43:=by
   intro ad103 cd103 w43 S51
   refine WA.all [4,5] kr rfl ⟨?_,?_,trivial⟩
   refine WO.set (bA 7 31) kr ?_
   have:=aB (S51.nth 0 rfl)
   refine WO.callF 29 78 #[.agg #[.bool (decide (d<0)),.slice ly ny cy],bgV t.aY ad103 cd103] hb78 kr (bT d t.aY ly ny cy ad103 ((ak t.aY).length) cd103 _ (hy.sep S51) cO ((aD (S51.nth 0 rfl) ((ak t.aY).length) rO)) cO) ?_
   rintro _ w44 ⟨ad104,cd104,rfl,T15⟩
   exact WB.mk (((S51.trans T15).erase 1).erase 0)<|WA.weaken kr (W14 ad104 cd104 w44 ((S51.trans T15).erase 1))
   refine WO.set (bA 7 47) kr<|WO.new S51 8 [.bool false,.slice none 0 0] 87 kr ?_
   intro bd105 w45 S53
   refine WB.mk ((S53.erase 1).erase 0) ?_
   have S54:Sep w (box bd105 [.bool false,.slice none 0 0] 87::bgR t.aY ad103 cd103::(eI ad11 cd11 n d t bd12 b3 ly ny cy b2 lx nx cx b1)) w45:=S53.front 0 rfl
   have S55:Sep w (bgR t.aY ad103 cd103::box bd105 [.bool false,.slice none 0 0] 87::(eI ad11 cd11 n d t bd12 b3 ly ny cy b2 lx nx cx b1)) w45:=S54.front 1 rfl
   exact WA.weaken kr (W13 bd105 ad103 cd103 w45 S55)
  have W16:∀ (bd105:Nat) (w46:World),Sep w (box bd105 [.bool false,.slice none 0 0] 87::(eI ad11 cd11 n d t bd12 b3 ly ny cy b2 lx nx cx b1)) w46→WA prog 38 65 R K38_1 (fun w_=>Sep w (eI ad11 cd11 n d t bd12 b3 ly ny cy b2 lx nx cx b1) w_) 3 (bA 7 39) [(3,pv b1),(7,pv bd12),(8,pv bd105),(25,.agg #[.bool (decide (d<0)),.slice ly ny cy]),(27,iv t.aY)] w46:=by
   intro bd105 w46 S56
   refine WA.all [3] kr rfl ⟨?_,trivial⟩
   refine WO.set (bA 7 47) kr<|WO.callF 28 76 #[iv t.aY] hb76 kr (eS t.aY _ om) ?_
   rintro _ w47 ⟨ad103,cd103,rfl,T16⟩
   exact WB.mk (((S56.trans T16).erase 1).erase 0)<|WA.weaken kr (W13 bd105 ad103 cd103 w47 (S56.trans T16))
  have W17:∀ (w48:World),Sep w (eI ad11 cd11 n d t bd12 b3 ly ny cy b2 lx nx cx b1) w48→WA prog 38 65 R K38_1 (fun w_=>Sep w (eI ad11 cd11 n d t bd12 b3 ly ny cy b2 lx nx cx b1) w_) 4 (bA 7 7) [(3,pv b1),(7,pv bd12),(25,.agg #[.bool (decide (d<0)),.slice ly ny cy]),(27,iv t.aY)] w48:=by
   intro w48 S58
   refine WA.all [3,5] kr rfl ⟨?_,?_,trivial⟩
   refine WO.set (bA 7 15) kr<|WO.callF 28 76 #[iv t.aY] hb76 kr (eS t.aY _ om) ?_
   rintro _ w49 ⟨ad103,cd103,rfl,T17⟩
   exact WB.mk ((S58.trans T17).erase 0)<|WA.weaken kr (W15 ad103 cd103 w49 (S58.trans T17))
   refine WO.set (bA 7 39) kr<|WO.new S58 8 [.bool false,.slice none 0 0] 87 kr ?_
   intro bd105 w50 S60
   exact WB.mk (S60.erase 0)<|WA.weaken kr (W16 bd105 w50 S60)
  refine J.drawAny (fun w_=>Sep w (eI ad11 cd11 n d t bd12 b3 ly ny cy b2 lx nx cx b1) w_) S4 7 (bA 7 0) Tryz.mixed kr kr kr ?_
  intro w51 S61
  exact WB.mk S61<|WA.takeOK 0 (bA 7 1) kr kr kr kr (fun w_ S_=>OK.ldBox S_ 2 25 87 0 (.agg #[.bool (decide (d<0)),.slice ly ny cy]) kr rfl kr) rfl<|WA.take 1 26 (.pointer (some ⟨b1,2,none⟩)) (bA 7 3) kr kr kr (fun _ _=>kr) kr<|WA.takeOK 2 (bA 7 7) kr kr kr kr (fun w_ S_=>OK.ldBox S_ 4 27 3 2 (iv t.aY) kr rfl kr) rfl<|WA.weaken (env':=[(3,pv b1),(7,pv bd12),(25,.agg #[.bool (decide (d<0)),.slice ly ny cy]),(27,iv t.aY)]) kr<|W17 w51 S61
 have W18:∀ (bd12:Nat) (ad11:Option Addr) (cd11:Nat) (w52:World),Sep w (bgR (nzX n d t) ad11 cd11::box bd12 [.bool false,.slice none 0 0] 87::(cg b3 d ly ny cy b2 n lx nx cx b1 t)) w52→WA prog 38 65 R K38_0 (fun w_=>Sep w (cg b3 d ly ny cy b2 n lx nx cx b1 t) w_) 1 (bA 14 8191) [(3,pv b1),(5,pv b3),(7,pv bd12),(24,bgV (nzX n d t) ad11 cd11)] w52:=by
  intro bd12 ad11 cd11 w52 S62
  refine WA.all [13] kr rfl ⟨?_,trivial⟩
  refine WO.set (bA 14 16383) kr<|WO.stBox S62 1 87 0 (bgV (nzX n d t) ad11 cd11) (bgC (nzX n d t) ad11 cd11) (eI ad11 cd11 n d t bd12 b3 ly ny cy b2 lx nx cx b1) kr rfl kr kr rfl ?_
  intro w53 S63
  exact WB.mk ((S63.erase 1).erase 0)<|WA.weaken kr (W1 bd12 ad11 cd11 w53 S63)
 have W19:∀ (bd12:Nat) (ad4:Option Addr) (cd4:Nat) (ad9:Option Addr) (cd9:Nat) (w54:World),Sep w (bgR (d*t.aG) ad9 cd9::bgR (n*t.aa) ad4 cd4::box bd12 [.bool false,.slice none 0 0] 87::(cg b3 d ly ny cy b2 n lx nx cx b1 t)) w54→WA prog 38 65 R K38_0 (fun w_=>Sep w (cg b3 d ly ny cy b2 n lx nx cx b1 t) w_) 2 (bA 14 6143) [(3,pv b1),(5,pv b3),(7,pv bd12),(17,bgV (n*t.aa) ad4 cd4),(23,.agg #[.bool (decide ((-(d*t.aG))<0)),.slice ad9 ((ak (d*t.aG)).length) cd9])] w54:=by
  intro bd12 ad4 cd4 ad9 cd9 w54 S64
  refine WA.all [11] kr rfl ⟨?_,trivial⟩
  refine WO.set (bA 14 8191) kr ?_
  have:=aB (S64.nth 1 rfl)
  have:=aB (S64.nth 0 rfl)
  refine WO.callF 24 77 #[bgV (n*t.aa) ad4 cd4,.agg #[.bool (decide ((-(d*t.aG))<0)),.slice ad9 ((ak (d*t.aG)).length) cd9]] hb77 kr (radd_any (n*t.aa) (-(d*t.aG)) ad4 ((ak (n*t.aa)).length) cd4 ad9 ((ak (d*t.aG)).length) cd9 _ ((aD (S64.nth 1 rfl) ((ak (n*t.aa)).length) rO)) cO (by rw[dj];exact(aD (S64.nth 0 rfl) ((ak (d*t.aG)).length) rO)) cO) ?_
  rintro _ w55 ⟨ad11,cd11,rfl,T18⟩
  exact WB.mk (((((S64.trans T18).erase 3).erase 2).erase 1).erase 0)<|WA.weaken kr (W18 bd12 ad11 cd11 w55 (((S64.trans T18).erase 2).erase 1))
 have W20:∀ (ad11:Option Addr) (cd11:Nat) (w56:World),Sep w (bgR (nzX n d t) ad11 cd11::(cg b3 d ly ny cy b2 n lx nx cx b1 t)) w56→WA prog 38 65 R K38_0 (fun w_=>Sep w (cg b3 d ly ny cy b2 n lx nx cx b1 t) w_) 2 (bA 14 4095) [(3,pv b1),(5,pv b3),(24,bgV (nzX n d t) ad11 cd11)] w56:=by
  intro ad11 cd11 w56 S66
  refine WA.all [12] kr rfl ⟨?_,trivial⟩
  refine WO.set (bA 14 8191) kr<|WO.new S66 7 [.bool false,.slice none 0 0] 87 kr ?_
  intro bd12 w57 S67
  refine WB.mk ((S67.erase 1).erase 0) ?_
  have S68:Sep w (box bd12 [.bool false,.slice none 0 0] 87::bgR (nzX n d t) ad11 cd11::(cg b3 d ly ny cy b2 n lx nx cx b1 t)) w57:=S67.front 0 rfl
  have S69:Sep w (bgR (nzX n d t) ad11 cd11::box bd12 [.bool false,.slice none 0 0] 87::(cg b3 d ly ny cy b2 n lx nx cx b1 t)) w57:=S68.front 1 rfl
  exact WA.weaken kr (W18 bd12 ad11 cd11 w57 S69)
 have W21:∀ (bd12:Nat) (ad4:Option Addr) (cd4:Nat) (ad9:Option Addr) (cd9:Nat) (w58:World),Sep w (bgR (d*t.aG) ad9 cd9::bgR (n*t.aa) ad4 cd4::box bd12 [.bool false,.slice none 0 0] 87::(cg b3 d ly ny cy b2 n lx nx cx b1 t)) w58→WA prog 38 65 R K38_0 (fun w_=>Sep w (cg b3 d ly ny cy b2 n lx nx cx b1 t) w_) 3 (bA 14 5119) [(3,pv b1),(5,pv b3),(7,pv bd12),(17,bgV (n*t.aa) ad4 cd4),(22,bgV (d*t.aG) ad9 cd9)] w58:=by
  intro bd12 ad4 cd4 ad9 cd9 w58 S70
  refine WA.all [10] kr rfl ⟨?_,trivial⟩
  refine WO.set (bA 14 6143) kr ?_
  have:=aB (S70.nth 0 rfl)
  refine WO.callF 23 39 #[bgV (d*t.aG) ad9 cd9] hb39 kr (eo (d*t.aG) ad9 ((ak (d*t.aG)).length) cd9 _ ((aD (S70.nth 0 rfl) ((ak (d*t.aG)).length) rO))) ?_
  rintro _ w59 ⟨rfl,T19⟩
  exact WB.mk ((((S70.trans T19).erase 2).erase 1).erase 0)<|WA.weaken kr (W19 bd12 ad4 cd4 ad9 cd9 w59 (S70.trans T19))
 have W22:∀ (ad4:Option Addr) (cd4:Nat) (ad9:Option Addr) (cd9:Nat) (w60:World),Sep w (bgR (d*t.aG) ad9 cd9::bgR (n*t.aa) ad4 cd4::(cg b3 d ly ny cy b2 n lx nx cx b1 t)) w60→WA prog 38 65 R K38_0 (fun w_=>Sep w (cg b3 d ly ny cy b2 n lx nx cx b1 t) w_) 3 (bA 14 2047) [(3,pv b1),(5,pv b3),(17,bgV (n*t.aa) ad4 cd4),(23,.agg #[.bool (decide ((-(d*t.aG))<0)),.slice ad9 ((ak (d*t.aG)).length) cd9])] w60:=by
  intro ad4 cd4 ad9 cd9 w60 S72
  refine WA.all [11,12] kr rfl ⟨?_,?_,trivial⟩
  refine WO.set (bA 14 4095) kr ?_
  have:=aB (S72.nth 1 rfl)
  have:=aB (S72.nth 0 rfl)
  refine WO.callF 24 77 #[bgV (n*t.aa) ad4 cd4,.agg #[.bool (decide ((-(d*t.aG))<0)),.slice ad9 ((ak (d*t.aG)).length) cd9]] hb77 kr (radd_any (n*t.aa) (-(d*t.aG)) ad4 ((ak (n*t.aa)).length) cd4 ad9 ((ak (d*t.aG)).length) cd9 _ ((aD (S72.nth 1 rfl) ((ak (n*t.aa)).length) rO)) cO (by rw[dj];exact(aD (S72.nth 0 rfl) ((ak (d*t.aG)).length) rO)) cO) ?_
  rintro _ w61 ⟨ad11,cd11,rfl,T20⟩
  exact WB.mk ((((S72.trans T20).erase 2).erase 1).erase 0)<|WA.weaken kr (W20 ad11 cd11 w61 (((S72.trans T20).erase 2).erase 1))
  refine WO.set (bA 14 6143) kr<|WO.new S72 7 [.bool false,.slice none 0 0] 87 kr ?_
  intro bd12 w62 S74
  refine WB.mk (((S74.erase 2).erase 1).erase 0) ?_
  have S75:Sep w (box bd12 [.bool false,.slice none 0 0] 87::bgR (d*t.aG) ad9 cd9::bgR (n*t.aa) ad4 cd4::(cg b3 d ly ny cy b2 n lx nx cx b1 t)) w62:=S74.front 0 rfl
  have S76:Sep w (bgR (n*t.aa) ad4 cd4::box bd12 [.bool false,.slice none 0 0] 87::bgR (d*t.aG) ad9 cd9::(cg b3 d ly ny cy b2 n lx nx cx b1 t)) w62:=S75.front 2 rfl
  have S77:Sep w (bgR (d*t.aG) ad9 cd9::bgR (n*t.aa) ad4 cd4::box bd12 [.bool false,.slice none 0 0] 87::(cg b3 d ly ny cy b2 n lx nx cx b1 t)) w62:=S76.front 2 rfl
  exact WA.weaken kr (W19 bd12 ad4 cd4 ad9 cd9 w62 S77)
 have W23:∀ (bd12:Nat) (ad4:Option Addr) (cd4:Nat) (ad8:Option Addr) (cd8:Nat) (w63:World),Sep w (bgR t.aG ad8 cd8::bgR (n*t.aa) ad4 cd4::box bd12 [.bool false,.slice none 0 0] 87::(cg b3 d ly ny cy b2 n lx nx cx b1 t)) w63→WA prog 38 65 R K38_0 (fun w_=>Sep w (cg b3 d ly ny cy b2 n lx nx cx b1 t) w_) 4 (bA 14 4607) [(3,pv b1),(5,pv b3),(7,pv bd12),(17,bgV (n*t.aa) ad4 cd4),(18,.agg #[.bool (decide (d<0)),.slice ly ny cy]),(21,bgV t.aG ad8 cd8)] w63:=by
  intro bd12 ad4 cd4 ad8 cd8 w63 S78
  refine WA.all [9] kr rfl ⟨?_,trivial⟩
  refine WO.set (bA 14 5119) kr ?_
  have:=aB (S78.nth 0 rfl)
  refine WO.callF 22 78 #[.agg #[.bool (decide (d<0)),.slice ly ny cy],bgV t.aG ad8 cd8] hb78 kr (bT d t.aG ly ny cy ad8 ((ak t.aG).length) cd8 _ (hy.sep S78) cO ((aD (S78.nth 0 rfl) ((ak t.aG).length) rO)) cO) ?_
  rintro _ w64 ⟨ad9,cd9,rfl,T21⟩
  exact WB.mk (((((S78.trans T21).erase 3).erase 2).erase 1).erase 0)<|WA.weaken kr (W21 bd12 ad4 cd4 ad9 cd9 w64 ((S78.trans T21).erase 1))
 have W24:∀ (ad4:Option Addr) (cd4:Nat) (ad9:Option Addr) (cd9:Nat) (w65:World),Sep w (bgR (d*t.aG) ad9 cd9::bgR (n*t.aa) ad4 cd4::(cg b3 d ly ny cy b2 n lx nx cx b1 t)) w65→WA prog 38 65 R K38_0 (fun w_=>Sep w (cg b3 d ly ny cy b2 n lx nx cx b1 t) w_) 4 (bA 14 1023) [(3,pv b1),(5,pv b3),(17,bgV (n*t.aa) ad4 cd4),(22,bgV (d*t.aG) ad9 cd9)] w65:=by
  intro ad4 cd4 ad9 cd9 w65 S80
  refine WA.all [10,12] kr rfl ⟨?_,?_,trivial⟩
  refine WO.set (bA 14 2047) kr ?_
  have:=aB (S80.nth 0 rfl)
  refine WO.callF 23 39 #[bgV (d*t.aG) ad9 cd9] hb39 kr (eo (d*t.aG) ad9 ((ak (d*t.aG)).length) cd9 _ ((aD (S80.nth 0 rfl) ((ak (d*t.aG)).length) rO))) ?_
  rintro _ w66 ⟨rfl,T22⟩
  exact WB.mk (((S80.trans T22).erase 1).erase 0)<|WA.weaken kr (W22 ad4 cd4 ad9 cd9 w66 (S80.trans T22))
  refine WO.set (bA 14 5119) kr<|WO.new S80 7 [.bool false,.slice none 0 0] 87 kr ?_
  intro bd12 w67 S82
  refine WB.mk (((S82.erase 2).erase 1).erase 0) ?_
  have S83:Sep w (box bd12 [.bool false,.slice none 0 0] 87::bgR (d*t.aG) ad9 cd9::bgR (n*t.aa) ad4 cd4::(cg b3 d ly ny cy b2 n lx nx cx b1 t)) w67:=S82.front 0 rfl
  have S84:Sep w (bgR (n*t.aa) ad4 cd4::box bd12 [.bool false,.slice none 0 0] 87::bgR (d*t.aG) ad9 cd9::(cg b3 d ly ny cy b2 n lx nx cx b1 t)) w67:=S83.front 2 rfl
  have S85:Sep w (bgR (d*t.aG) ad9 cd9::bgR (n*t.aa) ad4 cd4::box bd12 [.bool false,.slice none 0 0] 87::(cg b3 d ly ny cy b2 n lx nx cx b1 t)) w67:=S84.front 2 rfl
  exact WA.weaken kr (W21 bd12 ad4 cd4 ad9 cd9 w67 S85)
 have W25:∀ (bd12:Nat) (ad4:Option Addr) (cd4:Nat) (w68:World),Sep w (bgR (n*t.aa) ad4 cd4::box bd12 [.bool false,.slice none 0 0] 87::(cg b3 d ly ny cy b2 n lx nx cx b1 t)) w68→WA prog 38 65 R K38_0 (fun w_=>Sep w (cg b3 d ly ny cy b2 n lx nx cx b1 t) w_) 5 (bA 14 4351) [(3,pv b1),(5,pv b3),(7,pv bd12),(17,bgV (n*t.aa) ad4 cd4),(18,.agg #[.bool (decide (d<0)),.slice ly ny cy]),(20,iv t.aG)] w68:=by
  intro bd12 ad4 cd4 w68 S86
  refine WA.all [8] kr rfl ⟨?_,trivial⟩
  refine WO.set (bA 14 4607) kr<|WO.callF 21 76 #[iv t.aG] hb76 kr (eS t.aG _ om) ?_
  rintro _ w69 ⟨ad8,cd8,rfl,T23⟩
  exact WB.mk ((((S86.trans T23).erase 2).erase 1).erase 0)<|WA.weaken kr (W23 bd12 ad4 cd4 ad8 cd8 w69 (S86.trans T23))
 have W26:∀ (ad4:Option Addr) (cd4:Nat) (ad8:Option Addr) (cd8:Nat) (w70:World),Sep w (bgR t.aG ad8 cd8::bgR (n*t.aa) ad4 cd4::(cg b3 d ly ny cy b2 n lx nx cx b1 t)) w70→WA prog 38 65 R K38_0 (fun w_=>Sep w (cg b3 d ly ny cy b2 n lx nx cx b1 t) w_) 5 (bA 14 511) [(3,pv b1),(5,pv b3),(17,bgV (n*t.aa) ad4 cd4),(18,.agg #[.bool (decide (d<0)),.slice ly ny cy]),(21,bgV t.aG ad8 cd8)] w70:=by
  intro ad4 cd4 ad8 cd8 w70 S88
  refine WA.all [9,12] kr rfl ⟨?_,?_,trivial⟩
  refine WO.set (bA 14 1023) kr ?_
  have:=aB (S88.nth 0 rfl)
  refine WO.callF 22 78 #[.agg #[.bool (decide (d<0)),.slice ly ny cy],bgV t.aG ad8 cd8] hb78 kr (bT d t.aG ly ny cy ad8 ((ak t.aG).length) cd8 _ (hy.sep S88) cO ((aD (S88.nth 0 rfl) ((ak t.aG).length) rO)) cO) ?_
  rintro _ w71 ⟨ad9,cd9,rfl,T24⟩
  exact WB.mk ((((S88.trans T24).erase 2).erase 1).erase 0)<|WA.weaken kr (W24 ad4 cd4 ad9 cd9 w71 ((S88.trans T24).erase 1))
  refine WO.set (bA 14 4607) kr<|WO.new S88 7 [.bool false,.slice none 0 0] 87 kr ?_
  intro bd12 w72 S90
  refine WB.mk (((S90.erase 2).erase 1).erase 0) ?_
  have S91:Sep w (box bd12 [.bool false,.slice none 0 0] 87::bgR t.aG ad8 cd8::bgR (n*t.aa) ad4 cd4::(cg b3 d ly ny cy b2 n lx nx cx b1 t)) w72:=S90.front 0 rfl
  have S92:Sep w (bgR (n*t.aa) ad4 cd4::box bd12 [.bool false,.slice none 0 0] 87::bgR t.aG ad8 cd8::(cg b3 d ly ny cy b2 n lx nx cx b1 t)) w72:=S91.front 2 rfl
  have S93:Sep w (bgR t.aG ad8 cd8::bgR (n*t.aa) ad4 cd4::box bd12 [.bool false,.slice none 0 0] 87::(cg b3 d ly ny cy b2 n lx nx cx b1 t)) w72:=S92.front 2 rfl
  exact WA.weaken kr (W23 bd12 ad4 cd4 ad8 cd8 w72 S93)
 have W27:∀ (bd12:Nat) (ad3:Option Addr) (cd3:Nat) (w73:World),Sep w (bgR t.aa ad3 cd3::box bd12 [.bool false,.slice none 0 0] 87::(cg b3 d ly ny cy b2 n lx nx cx b1 t)) w73→WA prog 38 65 R K38_0 (fun w_=>Sep w (cg b3 d ly ny cy b2 n lx nx cx b1 t) w_) 6 (bA 14 4335) [(3,pv b1),(5,pv b3),(7,pv bd12),(13,.agg #[.bool (decide (n<0)),.slice lx nx cx]),(16,bgV t.aa ad3 cd3),(18,.agg #[.bool (decide (d<0)),.slice ly ny cy]),(20,iv t.aG)] w73:=by
  intro bd12 ad3 cd3 w73 S94
  refine WA.all [4] kr rfl ⟨?_,trivial⟩
  refine WO.set (bA 14 4351) kr ?_
  have:=aB (S94.nth 0 rfl)
  refine WO.callF 17 78 #[.agg #[.bool (decide (n<0)),.slice lx nx cx],bgV t.aa ad3 cd3] hb78 kr (bT n t.aa lx nx cx ad3 ((ak t.aa).length) cd3 _ (hx.sep S94) cO ((aD (S94.nth 0 rfl) ((ak t.aa).length) rO)) cO) ?_
  rintro _ w74 ⟨ad4,cd4,rfl,T25⟩
  exact WB.mk ((((S94.trans T25).erase 2).erase 1).erase 0)<|WA.weaken kr (W25 bd12 ad4 cd4 w74 ((S94.trans T25).erase 1))
 have W28:∀ (ad4:Option Addr) (cd4:Nat) (w75:World),Sep w (bgR (n*t.aa) ad4 cd4::(cg b3 d ly ny cy b2 n lx nx cx b1 t)) w75→WA prog 38 65 R K38_0 (fun w_=>Sep w (cg b3 d ly ny cy b2 n lx nx cx b1 t) w_) 6 (bA 14 255) [(3,pv b1),(5,pv b3),(17,bgV (n*t.aa) ad4 cd4),(18,.agg #[.bool (decide (d<0)),.slice ly ny cy]),(20,iv t.aG)] w75:=by
  intro ad4 cd4 w75 S96
  refine WA.all [8,12] kr rfl ⟨?_,?_,trivial⟩
  refine WO.set (bA 14 511) kr<|WO.callF 21 76 #[iv t.aG] hb76 kr (eS t.aG _ om) ?_
  rintro _ w76 ⟨ad8,cd8,rfl,T26⟩
  exact WB.mk (((S96.trans T26).erase 1).erase 0)<|WA.weaken kr (W26 ad4 cd4 ad8 cd8 w76 (S96.trans T26))
  refine WO.set (bA 14 4351) kr<|WO.new S96 7 [.bool false,.slice none 0 0] 87 kr ?_
  intro bd12 w77 S98
  refine WB.mk ((S98.erase 1).erase 0) ?_
  have S99:Sep w (box bd12 [.bool false,.slice none 0 0] 87::bgR (n*t.aa) ad4 cd4::(cg b3 d ly ny cy b2 n lx nx cx b1 t)) w77:=S98.front 0 rfl
  have S100:Sep w (bgR (n*t.aa) ad4 cd4::box bd12 [.bool false,.slice none 0 0] 87::(cg b3 d ly ny cy b2 n lx nx cx b1 t)) w77:=S99.front 1 rfl
  exact WA.weaken kr (W25 bd12 ad4 cd4 w77 S100)
 have W29:∀ (ad3:Option Addr) (cd3:Nat) (w78:World),Sep w (bgR t.aa ad3 cd3::(cg b3 d ly ny cy b2 n lx nx cx b1 t)) w78→WA prog 38 65 R K38_0 (fun w_=>Sep w (cg b3 d ly ny cy b2 n lx nx cx b1 t) w_) 7 (bA 14 239) [(3,pv b1),(5,pv b3),(13,.agg #[.bool (decide (n<0)),.slice lx nx cx]),(16,bgV t.aa ad3 cd3),(18,.agg #[.bool (decide (d<0)),.slice ly ny cy]),(20,iv t.aG)] w78:=by
  intro ad3 cd3 w78 S101
  refine WA.all [4,12] kr rfl ⟨?_,?_,trivial⟩
  refine WO.set (bA 14 255) kr ?_
  have:=aB (S101.nth 0 rfl)
  refine WO.callF 17 78 #[.agg #[.bool (decide (n<0)),.slice lx nx cx],bgV t.aa ad3 cd3] hb78 kr (bT n t.aa lx nx cx ad3 ((ak t.aa).length) cd3 _ (hx.sep S101) cO ((aD (S101.nth 0 rfl) ((ak t.aa).length) rO)) cO) ?_
  rintro _ w79 ⟨ad4,cd4,rfl,T27⟩
  exact WB.mk (((S101.trans T27).erase 1).erase 0)<|WA.weaken kr (W28 ad4 cd4 w79 ((S101.trans T27).erase 1))
  refine WO.set (bA 14 4335) kr<|WO.new S101 7 [.bool false,.slice none 0 0] 87 kr ?_
  intro bd12 w80 S103
  refine WB.mk ((S103.erase 1).erase 0) ?_
  have S104:Sep w (box bd12 [.bool false,.slice none 0 0] 87::bgR t.aa ad3 cd3::(cg b3 d ly ny cy b2 n lx nx cx b1 t)) w80:=S103.front 0 rfl
  have S105:Sep w (bgR t.aa ad3 cd3::box bd12 [.bool false,.slice none 0 0] 87::(cg b3 d ly ny cy b2 n lx nx cx b1 t)) w80:=S104.front 1 rfl
  exact WA.weaken kr (W27 bd12 ad3 cd3 w80 S105)
 have W30:∀ (bd12:Nat) (w81:World),Sep w (box bd12 [.bool false,.slice none 0 0] 87::(cg b3 d ly ny cy b2 n lx nx cx b1 t)) w81→WA prog 38 65 R K38_0 (fun w_=>Sep w (cg b3 d ly ny cy b2 n lx nx cx b1 t) w_) 7 (bA 14 4327) [(3,pv b1),(5,pv b3),(7,pv bd12),(13,.agg #[.bool (decide (n<0)),.slice lx nx cx]),(15,iv t.aa),(18,.agg #[.bool (decide (d<0)),.slice ly ny cy]),(20,iv t.aG)] w81:=by
  intro bd12 w81 S106
  refine WA.all [3] kr rfl ⟨?_,trivial⟩
  refine WO.set (bA 14 4335) kr<|WO.callF 16 76 #[iv t.aa] hb76 kr (eS t.aa _ om) ?_
  rintro _ w82 ⟨ad3,cd3,rfl,T28⟩
  exact WB.mk (((S106.trans T28).erase 1).erase 0)<|WA.weaken kr (W27 bd12 ad3 cd3 w82 (S106.trans T28))
 have W31:∀ (w83:World),Sep w (cg b3 d ly ny cy b2 n lx nx cx b1 t) w83→WA prog 38 65 R K38_0 (fun w_=>Sep w (cg b3 d ly ny cy b2 n lx nx cx b1 t) w_) 8 (bA 14 231) [(3,pv b1),(5,pv b3),(13,.agg #[.bool (decide (n<0)),.slice lx nx cx]),(15,iv t.aa),(18,.agg #[.bool (decide (d<0)),.slice ly ny cy]),(20,iv t.aG)] w83:=by
  intro w83 S108
  refine WA.all [3,12] kr rfl ⟨?_,?_,trivial⟩
  refine WO.set (bA 14 239) kr<|WO.callF 16 76 #[iv t.aa] hb76 kr (eS t.aa _ om) ?_
  rintro _ w84 ⟨ad3,cd3,rfl,T29⟩
  exact WB.mk ((S108.trans T29).erase 0)<|WA.weaken kr (W29 ad3 cd3 w84 (S108.trans T29))
  refine WO.set (bA 14 4327) kr<|WO.new S108 7 [.bool false,.slice none 0 0] 87 kr ?_
  intro bd12 w85 S110
  exact WB.mk (S110.erase 0)<|WA.weaken kr (W30 bd12 w85 S110)
 refine J.drawAny (fun w_=>Sep w (cg b3 d ly ny cy b2 n lx nx cx b1 t) w_) S3 14 (bA 14 0) Tryz.mixed kr kr kr ?_
 intro w86 S111
 exact WB.mk S111<|WA.takeOK 0 (bA 14 1) kr kr kr kr (fun w_ S_=>OK.ldBox S_ 1 13 87 0 (.agg #[.bool (decide (n<0)),.slice lx nx cx]) kr rfl kr) rfl<|WA.take 1 14 (.pointer (some ⟨b1,4,none⟩)) (bA 14 3) kr kr kr (fun _ _=>kr) kr<|WA.takeOK 2 (bA 14 7) kr kr kr kr (fun w_ S_=>OK.ldBox S_ 2 15 3 4 (iv t.aa) kr rfl kr) rfl<|WA.takeOK 5 (bA 14 39) kr kr kr kr (fun w_ S_=>OK.ldBox S_ 0 18 87 0 (.agg #[.bool (decide (d<0)),.slice ly ny cy]) kr rfl kr) rfl<|WA.take 6 19 (.pointer (some ⟨b1,3,none⟩)) (bA 14 103) kr kr kr (fun _ _=>kr) kr<|WA.takeOK 7 (bA 14 231) kr kr kr kr (fun w_ S_=>OK.ldBox S_ 2 20 3 3 (iv t.aG) kr rfl kr) rfl<|WA.weaken (env':=[(3,pv b1),(5,pv b3),(13,.agg #[.bool (decide (n<0)),.slice lx nx cx]),(15,iv t.aa),(18,.agg #[.bool (decide (d<0)),.slice ly ny cy]),(20,iv t.aG)]) kr<|W31 w86 S111

end
end Go.Proofs.YtaoolgcddapegaaGreatDoor

