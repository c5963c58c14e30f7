/- Walks of functions of this seat, printed by a program over the engine. Conditions: as each theorem says. -/
import Derived.Test.YtaoolgcddapegaaGreatDoorZrShelf
set_option linter.unusedSimpArgs false
set_option linter.unusedVariables false
namespace Go.Proofs.YtaoolgcddapegaaGreatDoor
open Go.Eng Go.RowKit Go.Proofs.Tryz
set_option maxRecDepth 20000
set_option maxHeartbeats 20000000
def es (x0 x1 y0 y1 x:Int):Int:=y0+(x-x0)*(y1-y0)/(x1-x0)
theorem btw_div {d k t:Int} (hd:0<d) (h0:0≤t) (h1:t≤d):(0≤k→0≤t*k/d∧t*k/d≤k)∧(k≤0→k≤t*k/d∧t*k/d≤0):=by
  constructor<;>intro hk
  · refine⟨Int.ediv_nonneg (Int.mul_nonneg h0 hk) om,?_⟩
    have:=Int.mul_le_mul_of_nonneg_right h1 hk
    exact Int.ediv_le_of_le_mul hd (by rw[Int.mul_comm k d];exact this)
  · have h2:d*k≤t*k:=Int.mul_le_mul_of_nonpos_right h1 hk
    have h3:t*k≤0:=Int.mul_nonpos_of_nonneg_of_nonpos h0 hk
    exact⟨(Int.le_ediv_iff_mul_le hd).2 (by rw[Int.mul_comm];exact h2),by
      have:=Int.ediv_le_ediv hd h3;simpa using this⟩
theorem dX {x0 x1 y0 y1 x:Int} (h:x0<x1) (h0:x0≤x) (h1:x≤x1):(y0≤y1→y0≤es x0 x1 y0 y1 x∧es x0 x1 y0 y1 x≤y1)∧(y1≤y0→y1≤es x0 x1 y0 y1 x∧es x0 x1 y0 y1 x≤y0):=by
  obtain ⟨a1,a2⟩:=btw_div (d:=x1-x0) (k:=y1-y0) (t:=x-x0) om om om
  unfold es
  exact⟨fun hk=>by have:=a1 om;omega,fun hk=>by have:=a2 om;omega⟩
theorem btw_left (x0 x1 y0 y1:Int):es x0 x1 y0 y1 x0=y0:=by unfold es;simp
theorem btw_right {x0 x1:Int} (y0 y1:Int) (h:x0<x1):es x0 x1 y0 y1 x1=y1:=by
  unfold es;rw[Int.mul_comm,Int.mul_ediv_cancel _ om];omega
def segF (xs:List Int) (x:Int):Nat:=(bR (fun a=>decide (x<a)) xs).toNat-1
def cZ (xs ys:List Int) (x:Int):Int :=
  if x≤xs.getD 0 0 then ys.getD 0 0 else if xs.getD (xs.length-1) 0≤x then ys.getD (xs.length-1) 0 else
  es (xs.getD (segF xs x) 0) (xs.getD (segF xs x+1) 0) (ys.getD (segF xs x) 0) (ys.getD (segF xs x+1) 0) x
theorem axis_le {l:List Int} (h:ce l=true) {i j:Nat} (hij:i≤j) (hj:j<l.length):l.getD i 0≤l.getD j 0:=by
  rcases Nat.lt_or_eq_of_le hij with e | e
  · exact Int.le_of_lt (cz h e hj)
  · subst e;exact Int.le_refl _
theorem seg_eq {xs:List Int} {x:Int} {i:Nat} (ax:ce xs=true) (hi:i+1<xs.length) (h1:xs.getD i 0≤x) (h2:x<xs.getD (i+1) 0):segF xs x=i:=by
  unfold segF
  rw[dq 0 (i+1) hi (fun j hj=>decide_eq_false (by have:=axis_le ax (show j≤i by omega) om;omega)) (decide_eq_true h2)]
  omega
theorem curve_seg {xs ys:List Int} {x x':Int} {i:Nat} (ax:ce xs=true) (hi:i+1<xs.length) (h1:xs.getD i 0≤x') (h2:x'≤xs.getD (i+1) 0) (h3:x'<xs.getD (i+1) 0∨i+2=xs.length) (hx:x'=min (max x (xs.getD 0 0)) (xs.getD (xs.length-1) 0)) :
    cZ xs ys x=es (xs.getD i 0) (xs.getD (i+1) 0) (ys.getD i 0) (ys.getD (i+1) 0) x':=by
  have hmono:=cz ax (show i<i+1 by omega) hi
  have hends:=cz ax (show 0<xs.length-1 by omega) om
  have hlast:=axis_le ax (show i+1≤xs.length-1 by omega) om
  have hfirst:=axis_le ax (show 0≤i by omega) om
  unfold cZ
  split
  · rename_i ha
    have e:x'=xs.getD 0 0:=by omega
    have hi0:i=0:=by
      rcases Nat.eq_zero_or_pos i with h | h
      · exact h
      · have:=cz ax h om;omega
    subst hi0
    rw[e,btw_left]
  · split
    · rename_i ha hb
      have e:x'=xs.getD (xs.length-1) 0:=by omega
      have hi2:i+2=xs.length:=by
        rcases h3 with h | h
        · omega
        · exact h
      rw[show xs.length-1=i+1 by omega] at e ⊢
      rw[e,btw_right _ _ hmono]
    · rename_i ha hb
      have e:x'=x:=by omega
      subst e
      have h4:x'<xs.getD (i+1) 0:=by
        rcases h3 with h | h
        · exact h
        · rw[show xs.length-1=i+1 by omega] at hb;omega
      rw[seg_eq ax hi h1 h4]
theorem floor_pos {a b:Int} (ha: -9223372036854775808≤a∧a≤9223372036854775807) (hb:1≤b):mdX a 1 b 1=a/b:=by
  rw[floor_val ha om,if_neg om]
theorem tdiv_floor {a b:Int} (hb:1≤b):(Int.tmod a b<0→a/b=Int.tdiv a b-1)∧(¬ Int.tmod a b<0→a/b=Int.tdiv a b):=by
  have h0:=Int.mul_tdiv_add_tmod a b
  obtain ⟨_,_,_,_,_,h5,_⟩:=tmod_facts (a:=a) (b:=b) om
  have h6:=h5 om
  constructor<;>intro h
  · exact ediv_of om (by rw[Int.sub_mul,Int.one_mul,Int.mul_comm];omega) (by rw[Int.sub_mul,Int.one_mul,Int.mul_comm];omega)
  · exact ediv_of om (by rw[Int.mul_comm];omega) (by rw[Int.mul_comm];omega)
theorem tdiv_bd {a b:Int} (hb:1≤b) (ha: -4611686018427387904≤a∧a≤4611686018427387904): -4611686018427387904≤Int.tdiv a b∧Int.tdiv a b≤4611686018427387904:=by
  have h:=Int.natAbs_tdiv_le_natAbs a b
  omega

theorem prod_bd {t k:Int} (ht: -2147483648≤t∧t≤2147483648) (hk: -2147483648≤k∧k≤2147483648): -4611686018427387904≤t*k∧t*k≤4611686018427387904:=by
  have h1:(t*k).natAbs≤2147483648*2147483648:=by rw[Int.natAbs_mul];exact Nat.mul_le_mul om om
  omega
theorem hb158:af prog 158:=fun _ _=>by kernel_rfl

theorem between_any (x0 x1 y0 y1 x:Int) (w:World) (hx0: -1073741824≤x0∧x0≤1073741824) (hx1: -1073741824≤x1∧x1≤1073741824) (hy0: -1073741824≤y0∧y0≤1073741824) (hy1: -1073741824≤y1∧y1≤1073741824) (hx:x0<x1∧x0≤x∧x≤x1):Ret prog 158 #[iv x0,iv x1,iv y0,iv y1,iv x] w (fun v w'=>v=iv (es x0 x1 y0 y1 x)∧Sep w [] w'):=by
 refine Ret.st (N:=24) func158 fun R hR S0=>J.wi 10 [] [(11,iv y0)] [] 14 (x-x0)<|J.wi 3 [] [] [] 17 (y1-y0) ?_
 have hpb:=prod_bd (t:=x-x0) (k:=y1-y0) om om
 refine J.wi 1 [] [] [] 18 ((x-x0)*(y1-y0))<|J.wi 3 [] [] [] 21 (x1-x0)<|J.c0 0 [] [] [] S0 22 hb155 (floor_any ((x-x0)*(y1-y0)) (x1-x0) _ om om) fun w1 S1=>J.head (iv (((x-x0)*(y1-y0))/(x1-x0))) (congrArg (Value.int .i64) (floor_pos om om)) ?_
 have hbw:=dX (x0:=x0) (x1:=x1) (y0:=y0) (y1:=y1) (x:=x) om om om
 unfold es at hbw
 refine J.wi 1 [] [] [] 23 (y0+(((x-x0)*(y1-y0))/(x1-x0)))<|J.e 2 [iv (y0+(((x-x0)*(y1-y0))/(x1-x0)))] func158 (hR _ _ ?_)
 exact⟨rfl,S1.nil⟩

theorem hb172:af prog 172:=fun _ _=>by kernel_rfl

theorem r6floor_any (a b:Int) (w:World) (ha: -4611686018427387904≤a∧a≤4611686018427387904) (hb:1≤b):Ret prog 172 #[iv a,iv b] w (fun v w'=>v=iv (a/b)∧Sep w [] w'):=by
 refine Ret.st (N:=16) func172 fun R hR S0=>J.r 8 [] [(7,iv b),(6,iv a)] []<|J.ok (OK.quo 8 .i64 a b kr om) ?_
 have hqb:=tdiv_bd (a:=a) (b:=b) om om
 refine J.head (iv (Int.tdiv a b)) (congrArg (Value.int .i64) (IntWalk.i64_in _ om))<|J.r 7 [] [(10,iv b),(9,iv a),(5,iv (Int.tdiv a b))] []<|J.ok (OK.rem 11 .i64 a b kr om)<|J.c 2 [] [] [] 12 ((Int.tmod a b)<0) (fun fk1=>?_) fun fk1=>?_
 refine J.wi 4 [true] [] [] 14 ((Int.tdiv a b)-1)<|J.e 7 [iv ((Int.tdiv a b)-1)] func172 (hR _ _ ?_)
 obtain ⟨e1,e2⟩:=tdiv_floor (a:=a) (b:=b) hb
 exact⟨congrArg (Value.int .i64) om,S0.nil⟩
 refine J.e 7 [iv (Int.tdiv a b)] func172 (hR _ _ ?_)
 obtain ⟨e1,e2⟩:=tdiv_floor (a:=a) (b:=b) hb
 exact⟨congrArg (Value.int .i64) om,S0.nil⟩

theorem seg_search {l:List Int} {x x' r:Int} (ax:ce l=true) (hx:x'=min (max x (l.getD 0 0)) (l.getD (l.length-1) 0)) (h0:0≤r∧r≤(l.length:Int)) (h1:r=0∨decide (l.getD (r-1).toNat 0>x')=false) (h2:r=(l.length:Int)∨decide (l.getD r.toNat 0>x')=true) :
    (0≤min (r-1) ((l.length:Int)-2)∧min (r-1) ((l.length:Int)-2)+1<(l.length:Int))∧l.getD (min (r-1) ((l.length:Int)-2)).toNat 0≤x'∧x'≤l.getD (min (r-1) ((l.length:Int)-2)+1).toNat 0∧(x'<l.getD (min (r-1) ((l.length:Int)-2)+1).toNat 0∨min (r-1) ((l.length:Int)-2)+2=(l.length:Int)):=by
  have hl:=(cd ax).1
  have hends:=cz ax (show 0<l.length-1 by omega) om
  by_cases hr:r=(l.length:Int)
  · subst hr
    have e:min ((l.length:Int)-1) ((l.length:Int)-2)=(l.length:Int)-2:=by omega
    rw[e]
    have e2:((l.length:Int)-2+1).toNat=l.length-1:=by omega
    rw[e2]
    have h3:=axis_le ax (show((l.length:Int)-2).toNat≤((l.length:Int)-1).toNat by omega) om
    rcases h1 with h1 | h1
    · omega
    · rw[decide_eq_false_iff_not] at h1
      exact⟨om,om,om,om⟩
  · have h2':l.getD r.toNat 0>x':=by
      rcases h2 with h | h
      · exact absurd h hr
      · exact of_decide_eq_true h
    have hr1:r≠0:=by
      intro e
      subst e;simp only[Int.toNat_zero] at h2';omega
    have h1':l.getD (r-1).toNat 0≤x':=by
      rcases h1 with h | h
      · omega
      · rw[decide_eq_false_iff_not] at h;omega
    have e:min (r-1) ((l.length:Int)-2)=r-1:=by omega
    rw[e,show(r-1+1).toNat=r.toNat by omega]
    exact⟨om,h1',om,.inl om⟩
theorem hb192:af prog 192:=fun _ _=>by kernel_rfl

theorem seg1_any (la:Option Addr) (len cap:Nat) (l:List Int) (x i:Int) (bx1 bx2:Nat) (w:World) (hI:dk w la len l) (hlen:len≤9223372036854775807) (hi:0≤i∧i<(len:Int)) (hb1:(box bx1 [.slice la len cap] 26).holds w) (hb2:(box bx2 [iv x] 3).holds w):Ret prog 192 #[iv i,pv bx1,pv bx2] w (fun v w'=>v=.bool (decide (l.getD i.toNat 0>x))∧Sep w [] w'):=by
 refine Ret.st (N:=11) func192 fun R hR S0=>J.r 5 [] [] [] ?_
 obtain ⟨p1,hp1,hc1⟩:=hI.at 0 (i).toNat om
 refine J.drawStill S0 7 Tryz.mixed kr kr kr ?_
 intro w1 S1
 refine SL.ok dE (OK.ldRo S1 hb1 5 26 0 (.slice la len cap) kr kr)<|SL.r 6 (iv i)<|SL.ok dE (OK.index 7 26 1 la p1 len (i).toNat i (p1.add (i).toNat) kr kr hp1 om om nO)<|SL.ok dE (OK.ldCell 8 3 (p1.add (i).toNat) (iv (l.getD (i).toNat 0)) kr kr (S1.cell hc1))<|SL.ok dE (OK.ldRo S1 hb2 9 3 0 (iv x) kr kr)<|SL.r 10 (.bool (decide ((l.getD (i).toNat 0)>x)))<|SL.r 4 (.bool (decide ((l.getD (i).toNat 0)>x)))<|SL.done<|TL.done kr<|J.e 0 [.bool (decide ((l.getD (i).toNat 0)>x))] func192 (hR _ _ ?_)
 exact⟨rfl,S1.nil⟩

theorem hb156:af prog 156:=fun _ _=>by kernel_rfl

theorem segment_any (la:Option Addr) (len cap:Nat) (l:List Int) (x:Int) (w:World) (hI:dk w la len l) (hlen:len≤9223372036854775807) (ax:ce l=true):Ret prog 156 #[.slice la len cap,iv x] w (fun v w'=>∃ i x',v=.tuple #[iv i,iv x']∧(x'=min (max x (l.getD 0 0)) (l.getD (l.length-1) 0)∧(0≤i∧i+1<(l.length:Int))∧l.getD i.toNat 0≤x'∧x'≤l.getD (i+1).toNat 0∧(x'<l.getD (i+1).toNat 0∨i+2=(l.length:Int)))∧Sep w [] w'):=by
 refine Ret.st (N:=29) func156 fun R hR S0=>?_
 have hll:=hI.len_eq
 obtain ⟨hx1,hx2,hx3⟩:=cd ax
 refine J.nw 2 [] [] [] S0 2 [.slice la len cap] 26 fun b1 w1 S1=>J.nw 0 [] [] [] S1 3 [iv x] 3 fun b2 w2 S2=>J.r 4 [] [] [] ?_
 obtain ⟨p1,hp1,hc1⟩:=hI.at 0 0 om
 obtain ⟨p2,hp2,hc2⟩:=hI.at 0 ((len:Int)-1).toNat om
 refine J.drawTail S2 10 Tryz.mixed kr kr ?_
 intro w3 S3
 refine SL.lb S3 0 rfl 7 (iv x)<|SL.lb S3 1 rfl 8 (.slice la len cap)<|SL.ok dE (OK.index 9 26 1 la p1 len 0 0 (p1.add 0) kr kr hp1 om om nO)<|SL.ok dE (OK.ldCell 10 3 (p1.add 0) (iv (l.getD 0 0)) kr kr (S3.cell hc1))<|SL.lb S3 1 rfl 11 (.slice la len cap)<|SL.lb S3 1 rfl 12 (.slice la len cap)<|SL.r 13 (iv (len:Int))<|SL.r 14 (iv (IntKind.wrap .i64 ((len:Int)-1)))<|SL.head (iv ((len:Int)-1)) (congrArg (Value.int .i64) (IntWalk.i64_in _ om))<|SL.ok dE (OK.index 15 26 1 la p2 len ((len:Int)-1).toNat ((len:Int)-1) (p2.add ((len:Int)-1).toNat) kr kr hp2 om om nO)<|SL.ok dE (OK.ldCell 16 3 (p2.add ((len:Int)-1).toNat) (iv (l.getD ((len:Int)-1).toNat 0)) kr kr (S3.cell hc2)) ?_
 refine SL.done<|TL.callF 17 191 #[iv x,iv (l.getD 0 0),iv (l.getD ((len:Int)-1).toNat 0)] hb191 kr (clamp_any x (l.getD 0 0) (l.getD ((len:Int)-1).toNat 0) _) ?_
 rintro _ w4 ⟨rfl,T1⟩
 have S4:Sep w [box b2 [iv x] 3,box b1 [.slice la len cap] 26] w4:=S3.trans T1
 clear T1 S3
 refine TL.stBox S4 0 3 0 (iv (min (max x (l.getD 0 0)) (l.getD ((len:Int)-1).toNat 0))) [iv (min (max x (l.getD 0 0)) (l.getD ((len:Int)-1).toNat 0))] [box b2 [iv (min (max x (l.getD 0 0)) (l.getD ((len:Int)-1).toNat 0))] 3,box b1 [.slice la len cap] 26] kr rfl kr kr rfl ?_
 intro w5 S5
 refine TL.done kr<|J.lb 2 [] [] [] S5 1 rfl 18 (.slice la len cap)<|J.r 2 [] [(20,.func (.func 192) #[] #[pv b1,pv b2]),(19,iv (len:Int))] []<|J.callF 21 188 #[iv (len:Int),.func (.func 192) #[] #[pv b1,pv b2]] hb188 kr (search2 (len:Int) 192 (pv b1) (pv b2) (fun i=>decide (l.getD i.toNat 0>(min (max x (l.getD 0 0)) (l.getD ((len:Int)-1).toNat 0)))) _ om hb192 (fun i_ w_ h0_ h1_ S_=>seg1_any la len cap l (min (max x (l.getD 0 0)) (l.getD ((len:Int)-1).toNat 0)) i_ b1 b2 w_ ((hI.sep S5).sep S_) om ⟨h0_,om⟩ (dI (S5.nth 1 rfl) S_) (dI (S5.nth 0 rfl) S_))) ?_
 rintro _ w6 ⟨r1,rfl,hr11,hr12,hr13,T2⟩
 have S6:Sep w [box b2 [iv (min (max x (l.getD 0 0)) (l.getD ((len:Int)-1).toNat 0))] 3,box b1 [.slice la len cap] 26] w6:=S5.trans T2
 refine J.wi 1 [] [] [] 22 (r1-1)<|J.r 3 [] [(6,iv (r1-1))] []<|J.drawStill S6 8 Tryz.mixed kr kr kr ?_
 intro w7 S7
 refine SL.r 23 (iv (r1-1))<|SL.lb S7 1 rfl 24 (.slice la len cap)<|SL.r 25 (iv (len:Int))<|SL.r 26 (iv (IntKind.wrap .i64 ((len:Int)-2)))<|SL.head (iv ((len:Int)-2)) (congrArg (Value.int .i64) (IntWalk.i64_in _ om))<|SL.r 27 (iv (if ((len:Int)-2)<(r1-1) then ((len:Int)-2) else (r1-1)))<|SL.head (iv (min (r1-1) ((len:Int)-2))) (congrArg (Value.int .i64) om)<|SL.lb S7 0 rfl 28 (iv (min (max x (l.getD 0 0)) (l.getD ((len:Int)-1).toNat 0)))<|SL.r 4 (iv (min (r1-1) ((len:Int)-2)))<|SL.r 5 (iv (min (max x (l.getD 0 0)) (l.getD ((len:Int)-1).toNat 0)))<|SL.done ?_
 refine TL.done kr<|J.e 0 [iv (min (r1-1) ((len:Int)-2)),iv (min (max x (l.getD 0 0)) (l.getD ((len:Int)-1).toNat 0))] func156 (hR _ _ ?_)
 have hxc:min (max x (l.getD 0 0)) (l.getD ((len:Int)-1).toNat 0)=min (max x (l.getD 0 0)) (l.getD (l.length-1) 0):=by rw[show((len:Int)-1).toNat=l.length-1 by omega]
 have hseg:=seg_search (r:=r1) ax hxc om hr12 (by rw[hll];exact hr13)
 rw[hll] at hseg
 exact⟨_,_,rfl,⟨hxc,by rw[hll];exact hseg⟩,S7.nil⟩

end Go.Proofs.YtaoolgcddapegaaGreatDoor

namespace Go.Proofs.YtaoolgcddapegaaGreatDoor
noncomputable section
open Go.Eng Go.RowKit Go.Proofs.Tryz
set_option maxRecDepth 20000
set_option maxHeartbeats 20000000
theorem hb157:af prog 157:=fun _ _=>by kernel_rfl

theorem along_any (m:Mp) (i x j:Int) (bx1 bx2 bx3:Nat) (w:World) (hm:mpQ w m) (hv:co m=true) (hi:0≤i∧i+1<(m.aS:Int)) (hj:0≤j∧j<(m.bH:Int)) (hx:m.aH.getD (i).toNat 0≤x∧x≤m.aH.getD (i+1).toNat 0) (hb1:(box bx1 (mpC m) 62).holds w) (hb2:(box bx2 [iv i] 3).holds w) (hb3:(box bx3 [iv x] 3).holds w):Ret prog 157 #[iv j,pv bx1,pv bx2,pv bx3] w (fun v w'=>v=iv (es (m.aH.getD (i).toNat 0) (m.aH.getD (i+1).toNat 0) ((m.bp.getD (i).toNat rw0).ch.getD (j).toNat 0) ((m.bp.getD (i+1).toNat rw0).ch.getD (j).toNat 0) x)∧Sep w [] w'):=by
 refine Ret.st (N:=36) func157 fun R hR S0=>?_
 obtain ⟨q1,q2,q3,q4,q5,q6,q7,q8,q9,_⟩:=id hm
 have ql1:=q2.len_eq
 have ql2:=q5.len_eq
 have ql3:=q8.len_eq
 obtain ⟨hv1,hv2,hv3,hv4⟩:=valid_facts hv
 obtain ⟨hx1,hx2,hx3⟩:=cd hv1
 obtain ⟨hy1,hy2,hy3⟩:=cd hv2
 have ha1:=hx2 i.toNat om
 have ha2:=hx2 (i+1).toNat om
 have ha3:=cz hv1 (show i.toNat<(i+1).toNat by omega) om
 obtain ⟨hz1,hz2⟩:=hv4 i.toNat om
 obtain ⟨hz3,hz4⟩:=hv4 (i+1).toNat om
 refine J.r 5 [] [] [] ?_
 obtain ⟨p1,hp1,hc1⟩:=q2.at 0 (i).toNat om
 have hel1:=aX q3 0 (n:=(i).toNat) (by have:=q2.len_eq;omega)
 obtain ⟨p2,hp2,hc2⟩:=q2.at 0 (i+1).toNat om
 have hel2:=aX q3 0 (n:=(i+1).toNat) (by have:=q2.len_eq;omega)
 obtain ⟨p3,hp3,hc3⟩:=q8.at rw0 (i).toNat om
 have hel3:=aX q9 rw0 (n:=(i).toNat) (by have:=q8.len_eq;omega)
 obtain ⟨q10,q11,q12,_⟩:=id hel3
 have ql4:=q11.len_eq
 obtain ⟨p4,hp4,hc4⟩:=q11.at 0 (j).toNat om
 have hel4:=aX q12 0 (n:=(j).toNat) (by have:=q11.len_eq;omega)
 obtain ⟨p5,hp5,hc5⟩:=q8.at rw0 (i+1).toNat om
 have hel5:=aX q9 rw0 (n:=(i+1).toNat) (by have:=q8.len_eq;omega)
 obtain ⟨q13,q14,q15,_⟩:=id hel5
 have ql5:=q14.len_eq
 obtain ⟨p6,hp6,hc6⟩:=q14.at 0 (j).toNat om
 have hel6:=aX q15 0 (n:=(j).toNat) (by have:=q14.len_eq;omega)
 refine J.drawTail S0 29 Tryz.mixed kr kr ?_
 intro w1 S1
 refine SL.r 6 (pv bx1)<|SL.ok dE (OK.ldRo S1 hb1 7 26 0 (.slice m.cD m.aS m.dr) kr kr)<|SL.ok dE (OK.ldRo S1 hb2 8 3 0 (iv i) kr kr)<|SL.ok dE (OK.index 9 26 1 m.cD p1 m.aS (i).toNat i (p1.add (i).toNat) kr kr hp1 om om nO)<|SL.ok dE (OK.ldCell 10 3 (p1.add (i).toNat) (iv (m.aH.getD (i).toNat 0)) kr kr (S1.cell hc1))<|SL.r 11 (pv bx1)<|SL.ok dE (OK.ldRo S1 hb1 12 26 0 (.slice m.cD m.aS m.dr) kr kr)<|SL.ok dE (OK.ldRo S1 hb2 13 3 0 (iv i) kr kr)<|SL.r 14 (iv (IntKind.wrap .i64 (i+1)))<|SL.head (iv (i+1)) (congrArg (Value.int .i64) (IntWalk.i64_in _ om))<|SL.ok dE (OK.index 15 26 1 m.cD p2 m.aS (i+1).toNat (i+1) (p2.add (i+1).toNat) kr kr hp2 om om nO) ?_
 refine SL.ok dE (OK.ldCell 16 3 (p2.add (i+1).toNat) (iv (m.aH.getD (i+1).toNat 0)) kr kr (S1.cell hc2))<|SL.r 17 (.pointer (some ⟨bx1,2,none⟩))<|SL.ok dE (OK.ldRo S1 hb1 18 60 2 (.slice m.gZ_a m.dL m.gZ_c) kr kr)<|SL.ok dE (OK.ldRo S1 hb2 19 3 0 (iv i) kr kr)<|SL.ok dE (OK.index 20 60 1 m.gZ_a p3 m.dL (i).toNat i (p3.add ((i).toNat*1)) kr kr hp3 om om rfl)<|SL.ok dE (OK.ldCell 21 26 (p3.add ((i).toNat*1)) (.slice ((m.bp.getD (i).toNat rw0).gS_a) ((m.bp.getD (i).toNat rw0).gS_n) ((m.bp.getD (i).toNat rw0).gS_c)) kr kr (S1.cell (cell_zero (hc3 0 _ rfl))))<|SL.r 22 (iv j)<|SL.ok dE (OK.index 23 26 1 ((m.bp.getD (i).toNat rw0).gS_a) p4 ((m.bp.getD (i).toNat rw0).gS_n) (j).toNat j (p4.add (j).toNat) kr kr hp4 om om nO)<|SL.ok dE (OK.ldCell 24 3 (p4.add (j).toNat) (iv (((m.bp.getD (i).toNat rw0).ch).getD (j).toNat 0)) kr kr (S1.cell hc4))<|SL.r 25 (.pointer (some ⟨bx1,2,none⟩))<|SL.ok dE (OK.ldRo S1 hb1 26 60 2 (.slice m.gZ_a m.dL m.gZ_c) kr kr) ?_
 refine SL.ok dE (OK.ldRo S1 hb2 27 3 0 (iv i) kr kr)<|SL.r 28 (iv (IntKind.wrap .i64 (i+1)))<|SL.head (iv (i+1)) (congrArg (Value.int .i64) (IntWalk.i64_in _ om))<|SL.ok dE (OK.index 29 60 1 m.gZ_a p5 m.dL (i+1).toNat (i+1) (p5.add ((i+1).toNat*1)) kr kr hp5 om om rfl)<|SL.ok dE (OK.ldCell 30 26 (p5.add ((i+1).toNat*1)) (.slice ((m.bp.getD (i+1).toNat rw0).gS_a) ((m.bp.getD (i+1).toNat rw0).gS_n) ((m.bp.getD (i+1).toNat rw0).gS_c)) kr kr (S1.cell (cell_zero (hc5 0 _ rfl))))<|SL.r 31 (iv j)<|SL.ok dE (OK.index 32 26 1 ((m.bp.getD (i+1).toNat rw0).gS_a) p6 ((m.bp.getD (i+1).toNat rw0).gS_n) (j).toNat j (p6.add (j).toNat) kr kr hp6 om om nO)<|SL.ok dE (OK.ldCell 33 3 (p6.add (j).toNat) (iv (((m.bp.getD (i+1).toNat rw0).ch).getD (j).toNat 0)) kr kr (S1.cell hc6))<|SL.ok dE (OK.ldRo S1 hb3 34 3 0 (iv x) kr kr)<|SL.done ?_
 have hz5:=hz2 j.toNat om
 have hz6:=hz4 j.toNat om
 refine TL.callF 35 158 #[iv (m.aH.getD (i).toNat 0),iv (m.aH.getD (i+1).toNat 0),iv (((m.bp.getD (i).toNat rw0).ch).getD (j).toNat 0),iv (((m.bp.getD (i+1).toNat rw0).ch).getD (j).toNat 0),iv x] hb158 kr (between_any (m.aH.getD (i).toNat 0) (m.aH.getD (i+1).toNat 0) (((m.bp.getD (i).toNat rw0).ch).getD (j).toNat 0) (((m.bp.getD (i+1).toNat rw0).ch).getD (j).toNat 0) x _ om om om om om) ?_
 rintro _ w2 ⟨rfl,T1⟩
 have S2:Sep w [] w2:=S1.trans T1
 clear T1 S1
 have:=dX (x0:=(m.aH.getD (i).toNat 0)) (x1:=(m.aH.getD (i+1).toNat 0)) (y0:=(((m.bp.getD (i).toNat rw0).ch).getD (j).toNat 0)) (y1:=(((m.bp.getD (i+1).toNat rw0).ch).getD (j).toNat 0)) (x:=x) om om om
 refine TL.r 5 (iv (es (m.aH.getD (i).toNat 0) (m.aH.getD (i+1).toNat 0) (((m.bp.getD (i).toNat rw0).ch).getD (j).toNat 0) (((m.bp.getD (i+1).toNat rw0).ch).getD (j).toNat 0) x))<|TL.done kr<|J.e 0 [iv (es (m.aH.getD (i).toNat 0) (m.aH.getD (i+1).toNat 0) (((m.bp.getD (i).toNat rw0).ch).getD (j).toNat 0) (((m.bp.getD (i+1).toNat rw0).ch).getD (j).toNat 0) x)] func157 (hR _ _ ?_)
 exact⟨rfl,S2.nil⟩

def colZ (m:Mp) (j:Nat):List Int:=(List.range m.aS).map fun i=>zF m i j
def colF (m:Mp) (x:Int):List Int:=(List.range m.bH).map fun j=>cZ m.aH (colZ m j) x
def valueF (m:Mp) (x y:Int):Int:=cZ m.bc (colF m x) y
theorem colZ_getD (m:Mp) {i j:Nat} (h:i<m.aS):(colZ m j).getD i 0=zF m i j:=by simp[colZ,List.getD,h]
theorem colF_getD (m:Mp) (x:Int) {j:Nat} (h:j<m.bH):(colF m x).getD j 0=cZ m.aH (colZ m j) x:=by simp[colF,List.getD,h]
theorem value_at {m:Mp} {x y i j x' y':Int} (hX:m.aH.length=m.aS) (hY:m.bc.length=m.bH) (ax:ce m.aH=true) (ay:ce m.bc=true)
    (a1:x'=min (max x (m.aH.getD 0 0)) (m.aH.getD (m.aH.length-1) 0)) (a2:0≤i∧i+1<(m.aH.length:Int)) (a3:m.aH.getD i.toNat 0≤x') (a4:x'≤m.aH.getD (i+1).toNat 0) (a5:x'<m.aH.getD (i+1).toNat 0∨i+2=(m.aH.length:Int))
    (b1:y'=min (max y (m.bc.getD 0 0)) (m.bc.getD (m.bc.length-1) 0)) (b2:0≤j∧j+1<(m.bc.length:Int)) (b3:m.bc.getD j.toNat 0≤y') (b4:y'≤m.bc.getD (j+1).toNat 0) (b5:y'<m.bc.getD (j+1).toNat 0∨j+2=(m.bc.length:Int)) :
    es (m.bc.getD j.toNat 0) (m.bc.getD (j+1).toNat 0)
      (es (m.aH.getD i.toNat 0) (m.aH.getD (i+1).toNat 0) ((m.bp.getD i.toNat rw0).ch.getD j.toNat 0) ((m.bp.getD (i+1).toNat rw0).ch.getD j.toNat 0) x')
      (es (m.aH.getD i.toNat 0) (m.aH.getD (i+1).toNat 0) ((m.bp.getD i.toNat rw0).ch.getD (j+1).toNat 0) ((m.bp.getD (i+1).toNat rw0).ch.getD (j+1).toNat 0) x') y'=valueF m x y:=by
  have ei:(i+1).toNat=i.toNat+1:=by omega
  have ej:(j+1).toNat=j.toNat+1:=by omega
  rw[ei] at a4 a5 ⊢
  rw[ej] at b4 b5 ⊢
  have key:∀ k:Nat,es (m.aH.getD i.toNat 0) (m.aH.getD (i.toNat+1) 0) ((m.bp.getD i.toNat rw0).ch.getD k 0) ((m.bp.getD (i.toNat+1) rw0).ch.getD k 0) x'=cZ m.aH (colZ m k) x:=by
    intro k
    rw[curve_seg (i:=i.toNat) ax om a3 a4 om a1,colZ_getD m om,colZ_getD m om];rfl
  rw[key,key]
  unfold valueF
  rw[curve_seg (i:=j.toNat) ay om b3 b4 om b1,colF_getD m x om,colF_getD m x om]

theorem row_len {w:World} {m:Mp} (hm:mpQ w m) {i:Nat} (hi:i<m.bp.length):(m.bp.getD i rw0).ch.length=(m.bp.getD i rw0).gS_n:=(aX hm.2.2.2.2.2.2.2.2.1 rw0 hi).2.1.len_eq
theorem hb108:af prog 108:=fun _ _=>by kernel_rfl

theorem at_any (m:Mp) (x y:Int) (w:World) (hm:mpQ w m) (hv:co m=true):Ret prog 108 #[.agg (mpA m),iv x,iv y] w (fun v w'=>v=iv (valueF m x y)∧Sep w [] w'):=by
 refine Ret.st (N:=45) func108 fun R hR S0=>?_
 obtain ⟨q1,q2,q3,q4,q5,q6,q7,q8,q9,_⟩:=id hm
 have ql1:=q2.len_eq
 have ql2:=q5.len_eq
 have ql3:=q8.len_eq
 obtain ⟨hv1,hv2,hv3,hv4⟩:=valid_facts hv
 obtain ⟨hx1,hx2,hx3⟩:=cd hv1
 obtain ⟨hy1,hy2,hy3⟩:=cd hv2
 refine J.nw 2 [] [] [] S0 3 (mpC m) 62 fun b1 w1 S1=>J.nw 0 [] [] [] S1 4 [iv x] 3 fun b2 w2 S2=>J.lb 5 [] [] [] S2 1 rfl 12 (.slice m.cD m.aS m.dr)<|J.lb 0 [] [] [] S2 0 rfl 13 (iv x)<|J.callF 14 156 #[.slice m.cD m.aS m.dr,iv x] hb156 kr (segment_any m.cD m.aS m.dr m.aH x _ (q2.sep S2) om hv1) ?_
 rintro _ w3 ⟨i1,x1,rfl,⟨hs1a,hs1b,hs1c,hs1d,hs1e⟩,T1⟩
 have S3:Sep w [box b2 [iv x] 3,box b1 (mpC m) 62] w3:=S2.trans T1
 refine J.nw 3 [] [(16,iv x1),(15,iv i1)] [] S3 7 [iv 0] 3 fun b3 w4 S4=>J.sb 0 [] [] [] S4 0 rfl [iv i1] rfl fun w5 S5=>J.sb 0 [] [] [] S5 1 rfl [iv x1] rfl fun w6 S6=>J.lb 4 [] [] [] S6 2 rfl 19 (.slice m.cM m.bH m.dB)<|J.r 1 [] [(20,iv y)] []<|J.callF 21 156 #[.slice m.cM m.bH m.dB,iv y] hb156 kr (segment_any m.cM m.bH m.dB m.bc y _ (q5.sep S6) om hv2) ?_
 rintro _ w7 ⟨i2,x2,rfl,⟨hs2a,hs2b,hs2c,hs2d,hs2e⟩,T2⟩
 have S7:Sep w [box b3 [iv i1] 3,box b2 [iv x1] 3,box b1 (mpC m) 62] w7:=S6.trans T2
 refine J.r 12 [] [(9,.func (.func 157) #[] #[pv b1,pv b3,pv b2]),(2,iv x2),(8,iv i2)] [] ?_
 obtain ⟨p1,hp1,hc1⟩:=q5.at 0 (i2).toNat om
 have hel1:=aX q6 0 (n:=(i2).toNat) (by have:=q5.len_eq;omega)
 obtain ⟨p2,hp2,hc2⟩:=q5.at 0 (i2+1).toNat om
 have hel2:=aX q6 0 (n:=(i2+1).toNat) (by have:=q5.len_eq;omega)
 refine J.drawPlan (fun w_=>Sep w [box b3 [iv i1] 3,box b2 [iv x1] 3,box b1 (mpC m) 62] w_) [(0,true),(1,true),(2,true),(3,true),(4,true),(5,true),(6,true),(7,true),(8,true),(9,true),(10,true),(11,true),(12,true),(14,true),(15,true),(16,true),(18,true),(13,false),(17,false),(19,false),(20,true)] S7 Tryz.mixed kr (aF (T:=[(0,some 25,8),(1,some 26,33554432),(0,some 27,256),(6,some 28,201326592),(8,some 29,268435456),(0,some 30,8),(32,some 31,1073741824),(0,some 32,256),(128,some 33,4294967296),(320,some 34,10737418240),(512,some 35,17179869184),(0,some 36,512),(0,some 37,256),(6144,some 38,206158430208),(0,some 39,512),(0,some 40,256),(32768,some 41,1099511627776),(90112,some 42,2748779069440),(0,some 43,4),(402448,some 44,13503914049536),(1048575,some 6,17592186044416)]) kr kr) ?_
 intro w8 S8
 refine PB.mk S8<|PL.take 0 25 (.pointer (some ⟨b1,1,none⟩)) (fun _ _=>kr)<|PL.takeOK 1 (fun w_ S_=>OK.ldBox S_ 2 26 26 1 (.slice m.cM m.bH m.dB) kr rfl kr) rfl<|PL.take 2 27 (iv i2) (fun _ _=>kr)<|PL.takeOK 3 (fun w_ S_=>OK.index 28 26 1 m.cM p1 m.bH (i2).toNat i2 (p1.add (i2).toNat) kr kr hp1 om om nO) rfl<|PL.takeOK 4 (fun w_ S_=>OK.ldCell 29 3 (p1.add (i2).toNat) (iv (m.bc.getD (i2).toNat 0)) kr kr (S_.cell hc1)) rfl<|PL.take 5 30 (.pointer (some ⟨b1,1,none⟩)) (fun _ _=>kr)<|PL.takeOK 6 (fun w_ S_=>OK.ldBox S_ 2 31 26 1 (.slice m.cM m.bH m.dB) kr rfl kr) rfl<|PL.take 7 32 (iv i2) (fun _ _=>kr)<|PL.take 8 33 (iv (IntKind.wrap .i64 (i2+1))) (fun _ _=>kr)<|PL.head (iv (i2+1)) (congrArg (Value.int .i64) (IntWalk.i64_in _ om)) ?_
 refine PL.takeOK 9 (fun w_ S_=>OK.index 34 26 1 m.cM p2 m.bH (i2+1).toNat (i2+1) (p2.add (i2+1).toNat) kr kr hp2 om om nO) rfl<|PL.takeOK 10 (fun w_ S_=>OK.ldCell 35 3 (p2.add (i2+1).toNat) (iv (m.bc.getD (i2+1).toNat 0)) kr kr (S_.cell hc2)) rfl<|PL.take 11 36 (.func (.func 157) #[] #[pv b1,pv b3,pv b2]) (fun _ _=>kr)<|PL.take 12 37 (iv i2) (fun _ _=>kr)<|PL.take 14 39 (.func (.func 157) #[] #[pv b1,pv b3,pv b2]) (fun _ _=>kr)<|PL.take 15 40 (iv i2) (fun _ _=>kr)<|PL.take 16 41 (iv (IntKind.wrap .i64 (i2+1))) (fun _ _=>kr)<|PL.head (iv (i2+1)) (congrArg (Value.int .i64) (IntWalk.i64_in _ om))<|PL.take 18 43 (iv x2) (fun _ _=>kr)<|PL.callF 38 157 #[iv i2,pv b1,pv b3,pv b2] hb157 kr (along_any m i1 x1 i2 b1 b3 b2 _ (eh hm S8) hv om om om (S8.nth 2 rfl) (S8.nth 0 rfl) (S8.nth 1 rfl)) ?_
 rintro _ w9 ⟨rfl,T3⟩
 have S9:Sep w [box b3 [iv i1] 3,box b2 [iv x1] 3,box b1 (mpC m) 62] w9:=S8.trans T3
 refine PB.mk S9<|PL.callF 42 157 #[iv (i2+1),pv b1,pv b3,pv b2] hb157 kr (along_any m i1 x1 (i2+1) b1 b3 b2 _ (eh hm S9) hv om om om (S9.nth 2 rfl) (S9.nth 0 rfl) (S9.nth 1 rfl)) ?_
 rintro _ w10 ⟨rfl,T4⟩
 have S10:Sep w [box b3 [iv i1] 3,box b2 [iv x1] 3,box b1 (mpC m) 62] w10:=S9.trans T4
 refine PB.mk S10 ?_
 have hby:=hy2 i2.toNat om
 have hby2:=hy2 (i2+1).toNat om
 have hby3:=cz hv2 (show i2.toNat<(i2+1).toNat by omega) om
 have hzb:=dX (x0:=m.aH.getD (i1).toNat 0) (x1:=m.aH.getD (i1+1).toNat 0) (y0:=(m.bp.getD (i1).toNat rw0).ch.getD (i2).toNat 0) (y1:=(m.bp.getD (i1+1).toNat rw0).ch.getD (i2).toNat 0) (x:=x1) (cz hv1 (show i1.toNat<(i1+1).toNat by omega) om) om om
 have hzc:=(hv4 i1.toNat om).2 (i2).toNat (by have:=(hv4 i1.toNat om).1;have:=row_len hm (i:=i1.toNat) om;omega)
 have hzd:=(hv4 (i1+1).toNat om).2 (i2).toNat (by have:=(hv4 (i1+1).toNat om).1;have:=row_len hm (i:=(i1+1).toNat) om;omega)
 have hzb:=dX (x0:=m.aH.getD (i1).toNat 0) (x1:=m.aH.getD (i1+1).toNat 0) (y0:=(m.bp.getD (i1).toNat rw0).ch.getD (i2+1).toNat 0) (y1:=(m.bp.getD (i1+1).toNat rw0).ch.getD (i2+1).toNat 0) (x:=x1) (cz hv1 (show i1.toNat<(i1+1).toNat by omega) om) om om
 have hzc:=(hv4 i1.toNat om).2 (i2+1).toNat (by have:=(hv4 i1.toNat om).1;have:=row_len hm (i:=i1.toNat) om;omega)
 have hzd:=(hv4 (i1+1).toNat om).2 (i2+1).toNat (by have:=(hv4 (i1+1).toNat om).1;have:=row_len hm (i:=(i1+1).toNat) om;omega)
 refine PL.callF 44 158 #[iv (m.bc.getD (i2).toNat 0),iv (m.bc.getD (i2+1).toNat 0),iv (es (m.aH.getD (i1).toNat 0) (m.aH.getD (i1+1).toNat 0) ((m.bp.getD (i1).toNat rw0).ch.getD (i2).toNat 0) ((m.bp.getD (i1+1).toNat rw0).ch.getD (i2).toNat 0) x1),iv (es (m.aH.getD (i1).toNat 0) (m.aH.getD (i1+1).toNat 0) ((m.bp.getD (i1).toNat rw0).ch.getD (i2+1).toNat 0) ((m.bp.getD (i1+1).toNat rw0).ch.getD (i2+1).toNat 0) x1),iv x2] hb158 kr (between_any (m.bc.getD (i2).toNat 0) (m.bc.getD (i2+1).toNat 0) (es (m.aH.getD (i1).toNat 0) (m.aH.getD (i1+1).toNat 0) ((m.bp.getD (i1).toNat rw0).ch.getD (i2).toNat 0) ((m.bp.getD (i1+1).toNat rw0).ch.getD (i2).toNat 0) x1) (es (m.aH.getD (i1).toNat 0) (m.aH.getD (i1+1).toNat 0) ((m.bp.getD (i1).toNat rw0).ch.getD (i2+1).toNat 0) ((m.bp.getD (i1+1).toNat rw0).ch.getD (i2+1).toNat 0) x1) x2 _ om om om om om) ?_
 rintro _ w11 ⟨rfl,T5⟩
 have S11:Sep w [box b3 [iv i1] 3,box b2 [iv x1] 3,box b1 (mpC m) 62] w11:=S10.trans T5
 clear T5 S10
 have:=dX (x0:=(m.bc.getD (i2).toNat 0)) (x1:=(m.bc.getD (i2+1).toNat 0)) (y0:=(es (m.aH.getD (i1).toNat 0) (m.aH.getD (i1+1).toNat 0) ((m.bp.getD (i1).toNat rw0).ch.getD (i2).toNat 0) ((m.bp.getD (i1+1).toNat rw0).ch.getD (i2).toNat 0) x1)) (y1:=(es (m.aH.getD (i1).toNat 0) (m.aH.getD (i1+1).toNat 0) ((m.bp.getD (i1).toNat rw0).ch.getD (i2+1).toNat 0) ((m.bp.getD (i1+1).toNat rw0).ch.getD (i2+1).toNat 0) x1)) (x:=x2) om om om
 refine PB.mk S11<|PL.take 20 6 (iv (es (m.bc.getD (i2).toNat 0) (m.bc.getD (i2+1).toNat 0) (es (m.aH.getD (i1).toNat 0) (m.aH.getD (i1+1).toNat 0) ((m.bp.getD (i1).toNat rw0).ch.getD (i2).toNat 0) ((m.bp.getD (i1+1).toNat rw0).ch.getD (i2).toNat 0) x1) (es (m.aH.getD (i1).toNat 0) (m.aH.getD (i1+1).toNat 0) ((m.bp.getD (i1).toNat rw0).ch.getD (i2+1).toNat 0) ((m.bp.getD (i1+1).toNat rw0).ch.getD (i2+1).toNat 0) x1) x2)) (fun _ _=>kr)<|PL.done<|J.e 0 [iv (es (m.bc.getD (i2).toNat 0) (m.bc.getD (i2+1).toNat 0) (es (m.aH.getD (i1).toNat 0) (m.aH.getD (i1+1).toNat 0) ((m.bp.getD (i1).toNat rw0).ch.getD (i2).toNat 0) ((m.bp.getD (i1+1).toNat rw0).ch.getD (i2).toNat 0) x1) (es (m.aH.getD (i1).toNat 0) (m.aH.getD (i1+1).toNat 0) ((m.bp.getD (i1).toNat rw0).ch.getD (i2+1).toNat 0) ((m.bp.getD (i1+1).toNat rw0).ch.getD (i2+1).toNat 0) x1) x2)] func108 (hR _ _ ?_)
 exact⟨congrArg (Value.int .i64) (value_at (m:=m) (x:=x) (y:=y) (i:=i1) (j:=i2) (x':=x1) (y':=x2) om om hv1 hv2 hs1a hs1b hs1c hs1d hs1e hs2a hs2b hs2c hs2d hs2e),S11.nil⟩

def atF (m:Mp) (x y:Int):Int:=if co m then valueF m x y else 0
theorem hb64:af prog 64:=fun _ _=>by kernel_rfl

theorem At_any (m:Mp) (x y:Int) (w:World) (hm:mpQ w m):Ret prog 64 #[.agg (mpA m),iv x,iv y] w (fun v w'=>v=iv (atF m x y)∧Sep w [] w'):=by
 refine Ret.st (N:=14) func64 fun R hR S0=>?_
 obtain ⟨q1,q2,q3,q4,q5,q6,q7,q8,q9,_⟩:=id hm
 have ql1:=q2.len_eq
 have ql2:=q5.len_eq
 have ql3:=q8.len_eq
 refine J.nw 2 [] [] [] S0 3 (mpC m) 62 fun b1 w1 S1=>J.lb 5 [] [] [] S1 0 rfl 7 (.agg (mpA m))<|J.c0 0 [] [] [] S1 8 hb99 (valid_any m _ (eh hm S1)) fun w2 S2=>J.bn 2 [] [] [] 9 (co m) (fun fk1=>?_) fun fk1=>?_
 have hv:=fk1
 refine J.lb 4 [false] [] [] S2 0 rfl 10 (.agg (mpA m))<|J.c0 2 [] [] [] S2 13 hb108 (at_any m x y _ (eh hm S2) hv) fun w3 S3=>J.e 2 [iv (valueF m x y)] func64 (hR _ _ ?_)
 exact⟨congrArg (Value.int .i64) (by unfold atF;rw[fk1];rfl),S3.nil⟩
 refine J.e 5 [iv 0] func64 (hR _ _ ?_)
 exact⟨congrArg (Value.int .i64) (by unfold atF;rw[fk1];rfl),S2.nil⟩
theorem ne_getD {l:List Int} {a b:Nat} (h:l.getD a 0≠l.getD b 0):a≠b:=fun e=>h (by rw[e])
theorem hb127:af prog 127:=fun _ _=>by kernel_rfl
def K127_0:=adv 41 [false,false] (bo Tryz.f127)
theorem rcurve_any (la:Option Addr) (len cap:Nat) (l:List Int) (ma:Option Addr) (mn mc:Nat) (ml:List Int) (x:Int) (w:World) (hI:dk w la len l) (hJ:dk w ma mn ml) (hc:ce l=true∧ml.length=l.length∧∀ j,j<ml.length→ -1073741824≤ml.getD j 0∧ml.getD j 0≤1073741824):Ret prog 127 #[.slice la len cap,.slice ma mn mc,iv x] w (fun v w'=>v=iv (cZ l ml x)∧Sep w [] w'):=by
 refine Ret.st (N:=73) func127 fun R hR S0=>?_
 have hll:=hI.len_eq
 have hml:=hJ.len_eq
 obtain ⟨hx1,hx2,hx3⟩:=cd hc.1
 have hc2:=hc.2.1
 refine J.r 15 [] [(12,.slice la len cap),(11,iv x),(7,iv (len:Int))] [] ?_
 obtain ⟨p1,hp1,hc1⟩:=hI.at 0 0 om
 refine J.ok (OK.index 13 26 1 la p1 len 0 0 (p1.add 0) kr kr hp1 om om nO)<|J.ok (OK.ldCell 14 3 (p1.add 0) (iv (l.getD 0 0)) kr kr (S0.cell hc1))<|J.c 2 [] [] [] 15 (x≤(l.getD 0 0)) (fun fk1=>?_) fun fk1=>?_
 refine J.r 4 [true] [(16,.slice ma mn mc)] [] ?_
 obtain ⟨p2,hp2,hc2⟩:=hJ.at 0 0 om
 refine J.ok (OK.index 17 26 1 ma p2 mn 0 0 (p2.add 0) kr kr hp2 om om nO)<|J.ok (OK.ldCell 18 3 (p2.add 0) (iv (ml.getD 0 0)) kr kr (S0.cell hc2))<|J.e 2 [iv (ml.getD 0 0)] func127 (hR _ _ ?_)
 exact⟨congrArg (Value.int .i64) (by unfold cZ;first | rw[if_pos om] | (rw[if_neg om,if_pos (by rw[show l.length-1=((len:Int)-1).toNat by omega];omega),show l.length-1=((len:Int)-1).toNat by omega])),S0.nil⟩
 refine J.wi 9 [false] [(20,.slice la len cap),(19,iv x)] [] 22 ((len:Int)-1) ?_
 obtain ⟨p3,hp3,hc3⟩:=hI.at 0 ((len:Int)-1).toNat om
 refine J.ok (OK.index 23 26 1 la p3 len ((len:Int)-1).toNat ((len:Int)-1) (p3.add ((len:Int)-1).toNat) kr kr hp3 om om nO)<|J.ok (OK.ldCell 24 3 (p3.add ((len:Int)-1).toNat) (iv (l.getD ((len:Int)-1).toNat 0)) kr kr (S0.cell hc3))<|J.c 2 [] [] [] 25 (x≥(l.getD ((len:Int)-1).toNat 0)) (fun fk2=>?_) fun fk2=>?_
 refine J.wi 6 [true] [(26,.slice ma mn mc)] [] 28 ((len:Int)-1) ?_
 obtain ⟨p4,hp4,hc4⟩:=hJ.at 0 ((len:Int)-1).toNat om
 refine J.ok (OK.index 29 26 1 ma p4 mn ((len:Int)-1).toNat ((len:Int)-1) (p4.add ((len:Int)-1).toNat) kr kr hp4 om om nO)<|J.ok (OK.ldCell 30 3 (p4.add ((len:Int)-1).toNat) (iv (ml.getD ((len:Int)-1).toNat 0)) kr kr (S0.cell hc4))<|J.e 2 [iv (ml.getD ((len:Int)-1).toNat 0)] func127 (hR _ _ ?_)
 exact⟨congrArg (Value.int .i64) (by unfold cZ;first | rw[if_pos om] | (rw[if_neg om,if_pos (by rw[show l.length-1=((len:Int)-1).toNat by omega];omega),show l.length-1=((len:Int)-1).toNat by omega])),S0.nil⟩
 have L127_1:∀ (mm_:Nat) (i:Int) (w1:World),(0≤i∧i+1<(len:Int))→(l.getD (i).toNat 0≤x)→Sep w [] w1→((len:Int)-i).toNat=mm_→J prog 127 73 R K127_0 [(8,iv i),(0,.slice la len cap),(1,.slice ma mn mc),(2,iv x)] w1:=by
  intro mm1
  induction mm1 using Nat.strongRecOn with
  | _ mm1 ih1 =>
  intro i w1 h0 hle S1 hm1
  refine J.wi 6 [] [(31,.slice la len cap)] [] 33 (i+1) ?_
  obtain ⟨p5,hp5,hc5⟩:=hI.at 0 (i+1).toNat om
  refine J.ok (OK.index 34 26 1 la p5 len (i+1).toNat (i+1) (p5.add (i+1).toNat) kr kr hp5 om om nO)<|J.ok (OK.ldCell 35 3 (p5.add (i+1).toNat) (iv (l.getD (i+1).toNat 0)) kr kr (S1.cell hc5))<|J.c 3 [] [] [] 37 ((l.getD (i+1).toNat 0)≤x) (fun fk3=>?_) fun fk3=>?_
  exact J.wi 6 [true] [] [] 39 (i+1)<|J.t 4 (ih1 _ (show((len:Int)-(i+1)).toNat<mm1 from by omega) (i+1) w1 (⟨om,by have h_:=ne_getD (l:=l) (a:=(i+1).toNat) (b:=((len:Int)-1).toNat) om;omega⟩) om S1 rfl)
  have hA1:=hx2 i.toNat om
  have hA2:=hx2 (i+1).toNat om
  have hA3:=cz hc.1 (show i.toNat<(i+1).toNat by omega) om
  have hB1:=hc.2.2 i.toNat om
  have hB2:=hc.2.2 (i+1).toNat om
  refine J.r 3 [false] [] [] ?_
  obtain ⟨p6,hp6,hc6⟩:=hJ.at 0 (i).toNat om
  obtain ⟨p7,hp7,hc7⟩:=hI.at 0 (i).toNat om
  obtain ⟨p8,hp8,hc8⟩:=hJ.at 0 (i+1).toNat om
  refine J.drawPlan (fun w_=>Sep w [] w_) [(0,true),(1,true),(2,true),(3,true),(4,true),(5,true),(6,true),(7,true),(8,true),(9,true),(10,true),(11,true),(12,true),(13,true),(14,true),(15,true),(16,true),(17,true),(18,true),(19,true),(20,true),(21,true),(22,true),(23,true),(24,true),(25,true),(26,true),(27,true),(28,true),(29,true),(30,true),(31,false),(32,true),(33,true)] S1 Tryz.mixed kr (aF (T:=[(0,some 40,2),(0,some 41,256),(3,some 42,3298534883328),(4,some 43,4398046511104),(0,some 44,4),(0,some 45,1),(0,some 46,256),(96,some 47,105553116266496),(128,some 48,140737488355328),(272,some 49,299067162755072),(0,some 50,2),(0,some 51,256),(2048,some 52,2251799813685248),(5120,some 53,5629499534213120),(8192,some 54,9007199254740992),(0,some 55,2),(0,some 56,256),(98304,some 57,108086391056891904),(131072,some 58,144115188075855872),(278528,some 59,306244774661193728),(524800,some 60,577023702256844800),(0,some 61,1),(0,some 62,256),(4194304,some 63,4611686018427387904),(10485760,some 64,11529215046068469760),(16777216,some 65,18446744073709551616),(0,some 66,1),(0,some 67,256),(201326592,some 68,221360928884514619392),(268435456,some 69,295147905179352825856),(570425344,some 70,627189298506124754944),(1074790400,some 71,1181744542222018150400),(2147483656,some 72,2361183250230915629056),(8589934591,some 6,4722366482869645213696)]) kr kr) ?_
  intro w2 S2
  refine PB.mk S2<|PL.take 0 40 (.slice ma mn mc) (fun _ _=>kr)<|PL.take 1 41 (iv i) (fun _ _=>kr)<|PL.takeOK 2 (fun w_ S_=>OK.index 42 26 1 ma p6 mn (i).toNat i (p6.add (i).toNat) kr kr hp6 om om nO) rfl<|PL.takeOK 3 (fun w_ S_=>OK.ldCell 43 3 (p6.add (i).toNat) (iv (ml.getD (i).toNat 0)) kr kr (S_.cell hc6)) rfl<|PL.take 4 44 (iv x) (fun _ _=>kr)<|PL.take 5 45 (.slice la len cap) (fun _ _=>kr)<|PL.take 6 46 (iv i) (fun _ _=>kr)<|PL.takeOK 7 (fun w_ S_=>OK.index 47 26 1 la p7 len (i).toNat i (p7.add (i).toNat) kr kr hp7 om om nO) rfl<|PL.takeOK 8 (fun w_ S_=>OK.ldCell 48 3 (p7.add (i).toNat) (iv (l.getD (i).toNat 0)) kr kr (S_.cell hc7)) rfl<|PL.take 9 49 (iv (IntKind.wrap .i64 (x-(l.getD (i).toNat 0)))) (fun _ _=>kr) ?_
  refine PL.head (iv (x-(l.getD (i).toNat 0))) (congrArg (Value.int .i64) (IntWalk.i64_in _ om))<|PL.take 10 50 (.slice ma mn mc) (fun _ _=>kr)<|PL.take 11 51 (iv i) (fun _ _=>kr)<|PL.take 12 52 (iv (IntKind.wrap .i64 (i+1))) (fun _ _=>kr)<|PL.head (iv (i+1)) (congrArg (Value.int .i64) (IntWalk.i64_in _ om))<|PL.takeOK 13 (fun w_ S_=>OK.index 53 26 1 ma p8 mn (i+1).toNat (i+1) (p8.add (i+1).toNat) kr kr hp8 om om nO) rfl<|PL.takeOK 14 (fun w_ S_=>OK.ldCell 54 3 (p8.add (i+1).toNat) (iv (ml.getD (i+1).toNat 0)) kr kr (S_.cell hc8)) rfl<|PL.take 15 55 (.slice ma mn mc) (fun _ _=>kr)<|PL.take 16 56 (iv i) (fun _ _=>kr)<|PL.takeOK 17 (fun w_ S_=>OK.index 57 26 1 ma p6 mn (i).toNat i (p6.add (i).toNat) kr kr hp6 om om nO) rfl<|PL.takeOK 18 (fun w_ S_=>OK.ldCell 58 3 (p6.add (i).toNat) (iv (ml.getD (i).toNat 0)) kr kr (S_.cell hc6)) rfl ?_
  refine PL.take 19 59 (iv (IntKind.wrap .i64 ((ml.getD (i+1).toNat 0)-(ml.getD (i).toNat 0)))) (fun _ _=>kr)<|PL.head (iv ((ml.getD (i+1).toNat 0)-(ml.getD (i).toNat 0))) (congrArg (Value.int .i64) (IntWalk.i64_in _ om))<|PL.take 20 60 (iv (IntKind.wrap .i64 ((x-(l.getD (i).toNat 0))*((ml.getD (i+1).toNat 0)-(ml.getD (i).toNat 0))))) (fun _ _=>kr) ?_
  have hpb:=prod_bd (t:=x-(l.getD (i).toNat 0)) (k:=(ml.getD (i+1).toNat 0)-(ml.getD (i).toNat 0)) om om
  refine PL.head (iv ((x-(l.getD (i).toNat 0))*((ml.getD (i+1).toNat 0)-(ml.getD (i).toNat 0)))) (congrArg (Value.int .i64) (IntWalk.i64_in _ om))<|PL.take 21 61 (.slice la len cap) (fun _ _=>kr)<|PL.take 22 62 (iv i) (fun _ _=>kr)<|PL.take 23 63 (iv (IntKind.wrap .i64 (i+1))) (fun _ _=>kr)<|PL.head (iv (i+1)) (congrArg (Value.int .i64) (IntWalk.i64_in _ om))<|PL.takeOK 24 (fun w_ S_=>OK.index 64 26 1 la p5 len (i+1).toNat (i+1) (p5.add (i+1).toNat) kr kr hp5 om om nO) rfl<|PL.takeOK 25 (fun w_ S_=>OK.ldCell 65 3 (p5.add (i+1).toNat) (iv (l.getD (i+1).toNat 0)) kr kr (S_.cell hc5)) rfl<|PL.take 26 66 (.slice la len cap) (fun _ _=>kr)<|PL.take 27 67 (iv i) (fun _ _=>kr)<|PL.takeOK 28 (fun w_ S_=>OK.index 68 26 1 la p7 len (i).toNat i (p7.add (i).toNat) kr kr hp7 om om nO) rfl<|PL.takeOK 29 (fun w_ S_=>OK.ldCell 69 3 (p7.add (i).toNat) (iv (l.getD (i).toNat 0)) kr kr (S_.cell hc7)) rfl ?_
  refine PL.take 30 70 (iv (IntKind.wrap .i64 ((l.getD (i+1).toNat 0)-(l.getD (i).toNat 0)))) (fun _ _=>kr)<|PL.head (iv ((l.getD (i+1).toNat 0)-(l.getD (i).toNat 0))) (congrArg (Value.int .i64) (IntWalk.i64_in _ om)) ?_
  have hpb:=prod_bd (t:=x-l.getD (i).toNat 0) (k:=ml.getD (i+1).toNat 0-ml.getD (i).toNat 0) om om
  refine PL.callF 71 172 #[iv ((x-(l.getD (i).toNat 0))*((ml.getD (i+1).toNat 0)-(ml.getD (i).toNat 0))),iv ((l.getD (i+1).toNat 0)-(l.getD (i).toNat 0))] hb172 kr (r6floor_any ((x-(l.getD (i).toNat 0))*((ml.getD (i+1).toNat 0)-(ml.getD (i).toNat 0))) ((l.getD (i+1).toNat 0)-(l.getD (i).toNat 0)) _ om om) ?_
  rintro _ w3 ⟨rfl,T1⟩
  have S3:Sep w [] w3:=S2.trans T1
  clear T1 S2
  have hbw:=dX (x0:=l.getD (i).toNat 0) (x1:=l.getD (i+1).toNat 0) (y0:=ml.getD (i).toNat 0) (y1:=ml.getD (i+1).toNat 0) (x:=x) om om om
  unfold es at hbw
  refine PB.mk S3<|PL.take 32 72 (iv (IntKind.wrap .i64 ((ml.getD (i).toNat 0)+(((x-(l.getD (i).toNat 0))*((ml.getD (i+1).toNat 0)-(ml.getD (i).toNat 0)))/((l.getD (i+1).toNat 0)-(l.getD (i).toNat 0)))))) (fun _ _=>kr)<|PL.head (iv ((ml.getD (i).toNat 0)+(((x-(l.getD (i).toNat 0))*((ml.getD (i+1).toNat 0)-(ml.getD (i).toNat 0)))/((l.getD (i+1).toNat 0)-(l.getD (i).toNat 0))))) (congrArg (Value.int .i64) (IntWalk.i64_in _ om))<|PL.take 33 6 (iv ((ml.getD (i).toNat 0)+(((x-(l.getD (i).toNat 0))*((ml.getD (i+1).toNat 0)-(ml.getD (i).toNat 0)))/((l.getD (i+1).toNat 0)-(l.getD (i).toNat 0))))) (fun _ _=>kr)<|PL.done<|J.e 0 [iv ((ml.getD (i).toNat 0)+(((x-(l.getD (i).toNat 0))*((ml.getD (i+1).toNat 0)-(ml.getD (i).toNat 0)))/((l.getD (i+1).toNat 0)-(l.getD (i).toNat 0))))] func127 (hR _ _ ?_)
  have e:=curve_seg (xs:=l) (ys:=ml) (x:=x) (x':=x) (i:=i.toNat) hc.1 om om (by rw[show i.toNat+1=(i+1).toNat by omega];omega) (.inl (by rw[show i.toNat+1=(i+1).toNat by omega];omega)) (by rw[show l.length-1=((len:Int)-1).toNat by omega];omega)
  rw[show i.toNat+1=(i+1).toNat by omega] at e
  exact⟨congrArg (Value.int .i64) (by rw[e];rfl),S3.nil⟩
 exact J.t 9 (L127_1 _ 0 w om (by simp only[Int.toNat_zero];omega) S0 rfl)

theorem seg_exists {xs:List Int} (x:Int) (ax:ce xs=true):∃ (i:Nat) (x':Int),i+1<xs.length∧xs.getD i 0≤x'∧x'≤xs.getD (i+1) 0∧(x'<xs.getD (i+1) 0∨i+2=xs.length)∧x'=min (max x (xs.getD 0 0)) (xs.getD (xs.length-1) 0):=by
  obtain ⟨hl,_⟩:=cd ax
  have hends:=cz ax (show 0<xs.length-1 by omega) om
  obtain ⟨x',hx⟩:∃ x',x'=min (max x (xs.getD 0 0)) (xs.getD (xs.length-1) 0):=⟨_,rfl⟩
  have key:∀ k,k+2≤xs.length→(∃ i,i<k∧xs.getD i 0≤x'∧x'<xs.getD (i+1) 0)∨xs.getD k 0≤x':=by
    intro k
    induction k with
    | zero=>intro _;right;omega
    | succ k ih =>
      intro hk
      rcases ih om with ⟨i,h1,h2,h3⟩ | h
      · exact .inl ⟨i,om,h2,h3⟩
      · by_cases h2:x'<xs.getD (k+1) 0
        · exact .inl ⟨k,om,h,h2⟩
        · exact .inr om
  rcases key (xs.length-2) om with ⟨i,h1,h2,h3⟩ | h
  · exact⟨i,x',om,h2,om,.inl h3,hx⟩
  · exact⟨xs.length-2,x',om,h,by rw[show xs.length-2+1=xs.length-1 by omega];omega,.inr om,hx⟩
theorem curve_in {xs ys:List Int} {lo hi:Int} (x:Int) (ax:ce xs=true) (hl:ys.length=xs.length) (hb:∀ j,j<ys.length→lo≤ys.getD j 0∧ys.getD j 0≤hi):lo≤cZ xs ys x∧cZ xs ys x≤hi:=by
  obtain ⟨i,x',h1,h2,h3,h4,h5⟩:=seg_exists x ax
  rw[curve_seg ax h1 h2 h3 h4 h5]
  have b1:=hb i om
  have b2:=hb (i+1) om
  obtain ⟨c1,c2⟩:=dX (y0:=ys.getD i 0) (y1:=ys.getD (i+1) 0) (cz ax (show i<i+1 by omega) h1) h2 h3
  omega
structure Vm (m:Mp):Prop where
  ax:ce m.aH=true
  ay:ce m.bc=true
  z:∀ i,i<m.aS→∀ j,j<m.bH→ -1073741824≤zF m i j∧zF m i j≤1073741824
theorem vm_of {m:Mp} (h:co m=true) (hZ:m.bp.length=m.dL) (hr:∀ i,i<m.bp.length→(m.bp.getD i rw0).ch.length=(m.bp.getD i rw0).gS_n):Vm m:=by
  obtain ⟨h1,h2,h3,h4⟩:=valid_facts h
  refine⟨h1,h2,fun i hi j hj=>?_⟩
  obtain ⟨h5,h6⟩:=h4 i om
  exact h6 j (by rw[hr i om];omega)
theorem ff (m:Mp) (j:Nat):(colZ m j).length=m.aS:=by simp[colZ]
theorem colF_length (m:Mp) (x:Int):(colF m x).length=m.bH:=by simp[colF]
theorem colZ_in {m:Mp} (v:Vm m) {j:Nat} (hj:j<m.bH):∀ i,i<(colZ m j).length→ -1073741824≤(colZ m j).getD i 0∧(colZ m j).getD i 0≤1073741824:=by
  intro i hi
  rw[ff] at hi
  rw[colZ_getD m hi];exact v.z i hi j hj
theorem colF_in {m:Mp} (hX:m.aH.length=m.aS) (v:Vm m) (x:Int):∀ j,j<(colF m x).length→ -1073741824≤(colF m x).getD j 0∧(colF m x).getD j 0≤1073741824:=by
  intro j hj
  rw[colF_length] at hj
  rw[colF_getD m x hj]
  exact curve_in x v.ax (by rw[ff,hX]) (colZ_in v hj)
theorem take_snoc {l:List Int} {i:Int} (h0:0≤i) (h:i<(l.length:Int)):l.take (i+1).toNat=l.take i.toNat++[l.getD i.toNat 0]:=by
  rw[show(i+1).toNat=i.toNat+1 by omega,List.take_succ_eq_append_getElem om]
  simp[List.getD,show i.toNat<l.length by omega]
theorem hb61:af prog 61:=fun _ _=>by kernel_rfl

theorem clone_any (la:Option Addr) (len cap:Nat) (l:List Int) (w:World) (hI:dk w la len l) (hlen:len≤9223372036854775807) (hsm:len≤4096):Ret prog 61 #[.slice la len cap] w (fun v w'=>∃ a cap,v=.slice a (l).length cap∧Sep w [am aM a cap 3 1 (l)] w'):=by
 refine Ret.st (N:=8) func61 fun R hR S0=>?_
 have hll:=hI.len_eq
 refine J.r 8 [] [(3,.slice la len cap)] []<|J.ok (OK.nilS 4 true 26 la kr kr la.isNone (by simp))<|J.b 1 [] [] [] 4 la.isNone (fun fk1=>?_) fun fk1=>?_
 refine J.e 5 [.slice none 0 0] func61 (hR _ _ ?_)
 have e_:l=[]:=by cases la with | none=>exact hI.nil | some p=>simp at fk1
 subst e_
 exact⟨none,0,rfl,S0.nilRow 3 1⟩
 refine J.r 4 [false] [] []<|J.newSlice S0 5 0 [] 3 kr ?_
 intro b1 w1 S1
 refine J.r 1 [] [(6,.slice la len cap)] [] ?_
 have S2:Sep w [am aM (some ⟨b1,0,none⟩) 0 3 1 ([])] w1:=box_row aM S1 0 [] 1 rfl rfl rfl (by simp[maxLen]) (.inr trivial)
 have hz1:=hI.sep S2
 have:=hz1.len_eq
 refine J.appendN aM S2 0 ([]) l len oz 7 26 (iv 0) 8 la cap rfl kr kr kr kr dE (hI.sep S2).enc (fun h_=>Ones.nil (h_▸hz1)) (fun _=>rfl) (fun _=>rfl) (⟨by first | omega | (simp;omega),by first | omega | (simp;omega)⟩) ?_
 intro ra1 rc1 w2 S3
 replace S3:Sep w [am aM ra1 rc1 3 1 l] w2:=S3
 refine J.e 2 [.slice ra1 l.length rc1] func61 (hR _ _ ?_)
 exact⟨_,_,rfl,S3.pick 0 rfl⟩

theorem colZ_take {m:Mp} {j:Nat} {i:Int} (h0:0≤i) (h:i<(m.aS:Int)):(colZ m j).take (i+1).toNat=(colZ m j).take i.toNat++[(m.bp.getD i.toNat rw0).ch.getD j 0]:=by
  rw[take_snoc h0 (by rw[ff];exact h),colZ_getD m om];rfl
theorem colF_take {m:Mp} {x:Int} {j:Int} (h0:0≤j) (h:j<(m.bH:Int)):(colF m x).take (j+1).toNat=(colF m x).take j.toNat++[cZ m.aH (colZ m j.toNat) x]:=by
  rw[take_snoc h0 (by rw[colF_length];exact h),colF_getD m x om]
theorem hb128:af prog 128:=fun _ _=>by kernel_rfl
def K128_0:=adv 16 [] (bo Tryz.f128)
def K128_1:=adv 24 [true] K128_0
theorem column_any (m:Mp) (x:Int) (w:World) (hm:mpQ w m) (hv:co m=true):Ret prog 128 #[.agg (mpA m),iv x] w (fun v w'=>∃ a cap,v=.slice a (colF m x).length cap∧Sep w [am aM a cap 3 1 (colF m x)] w'):=by
 refine Ret.st (N:=43) func128 fun R hR S0=>?_
 obtain ⟨q1,q2,q3,q4,q5,q6,q7,q8,q9,_⟩:=id hm
 have ql1:=q2.len_eq
 have ql2:=q5.len_eq
 have ql3:=q8.len_eq
 obtain ⟨hv1,hv2,hv3,hv4⟩:=valid_facts hv
 obtain ⟨hx1,hx2,hx3⟩:=cd hv1
 obtain ⟨hy1,hy2,hy3⟩:=cd hv2
 have hX:m.aH.length=m.aS:=by omega
 have hY:m.bc.length=m.bH:=by omega
 have vm:=vm_of hv om fun i hi=>row_len hm hi
 refine J.nw 2 [] [] [] S0 2 (mpC m) 62 fun b1 w1 S1=>?_
 have S2:Sep w [am aM none 0 3 1 ([]),box b1 (mpC m) 62] w1:=S1.nilRow 3 1
 have L128_1:∀ (mm_:Nat) (ra:Option Addr) (rc:Nat) (ls:List Int) (j:Int) (w2:World),(0≤j)→(j≤(m.bH:Int))→(ls=(colF m x).take (j).toNat)→Sep w [am aM ra rc 3 1 ls,box b1 (mpC m) 62] w2→((m.bH:Int)-j).toNat=mm_→J prog 128 43 R K128_0 [(6,iv j),(5,.slice ra ls.length rc),(2,pv b1),(1,iv x)] w2:=by
  intro mm1
  induction mm1 using Nat.strongRecOn with
  | _ mm1 ih1 =>
  intro ra rc ls j w2 j0 j1 hls S3 hm1
  have hlsl:ls.length=j.toNat:=by rw[hls,List.length_take,colF_length];omega
  refine J.lb 5 [] [(9,iv j)] [] S3 1 rfl 11 (.slice m.cM m.bH m.dB)<|J.c 3 [] [] [] 13 (j<(m.bH:Int)) (fun fk1=>?_) fun fk1=>?_
  have S4:Sep w [am aM none 0 3 1 ([]),am aM ra rc 3 1 ls,box b1 (mpC m) 62] w2:=S3.nilRow 3 1
  have L128_2:∀ (mm_:Nat) (rb:Option Addr) (rd:Nat) (ys:List Int) (i:Int) (w3:World),(0≤i)→(i≤(m.aS:Int))→(ys=(colZ m j.toNat).take (i).toNat)→Sep w [am aM rb rd 3 1 ys,am aM ra rc 3 1 ls,box b1 (mpC m) 62] w3→((m.aS:Int)-i).toNat=mm_→J prog 128 43 R K128_1 [(8,iv i),(7,.slice rb ys.length rd),(6,iv j),(5,.slice ra ls.length rc),(2,pv b1),(1,iv x)] w3:=by
   intro mm2
   induction mm2 using Nat.strongRecOn with
   | _ mm2 ih2 =>
   intro rb rd ys i w3 h0 h1 hys S5 hm2
   have hlsy:ys.length=i.toNat:=by rw[hys,List.length_take,ff];omega
   have hw1:i<(m.dL:Int)→_:=fun h=>hv4 i.toNat om
   refine J.lb 5 [] [(16,iv i)] [] S5 2 rfl 18 (.slice m.cD m.aS m.dr)<|J.c 3 [] [] [] 20 (i<(m.aS:Int)) (fun fk2=>?_) fun fk2=>?_
   refine J.lb 7 [true] [(23,.slice rb ys.length rd)] [] S5 2 rfl 25 (.slice m.gZ_a m.dL m.gZ_c)<|J.r 1 [] [(26,iv i)] [] ?_
   obtain ⟨p1,hp1,hc1⟩:=q8.at rw0 (i).toNat om
   have hel1:=aX q9 rw0 (n:=(i).toNat) (by have:=q8.len_eq;omega)
   obtain ⟨q10,q11,q12,_⟩:=id hel1
   have ql4:=q11.len_eq
   refine J.ok (OK.index 27 60 1 m.gZ_a p1 m.dL (i).toNat i (p1.add ((i).toNat*1)) kr kr hp1 om om rfl)<|J.ok (OK.ldCell 28 26 (p1.add ((i).toNat*1)) (.slice ((m.bp.getD (i).toNat rw0).gS_a) ((m.bp.getD (i).toNat rw0).gS_n) ((m.bp.getD (i).toNat rw0).gS_c)) kr kr (S5.cell (cell_zero (hc1 0 _ rfl))))<|J.r 1 [] [(29,iv j)] [] ?_
   obtain ⟨p2,hp2,hc2⟩:=q11.at 0 (j).toNat om
   have hel2:=aX q12 0 (n:=(j).toNat) (by have:=q11.len_eq;omega)
   refine J.ok (OK.index 30 26 1 ((m.bp.getD (i).toNat rw0).gS_a) p2 ((m.bp.getD (i).toNat rw0).gS_n) (j).toNat j (p2.add (j).toNat) kr kr hp2 om om nO)<|J.ok (OK.ldCell 31 3 (p2.add (j).toNat) (iv (((m.bp.getD (i).toNat rw0).ch).getD (j).toNat 0)) kr kr (S5.cell hc2))<|J.newSlice S5 32 1 [iv (((m.bp.getD (i).toNat rw0).ch).getD (j).toNat 0)] 3 kr ?_
   intro b2 w4 S6
   refine J.append aM S6 1 ys (((m.bp.getD (i).toNat rw0).ch).getD (j).toNat 0) 33 26 (iv 0) 8 ⟨b2,0,none⟩ 1 rfl kr kr kr kr dE (bS (S6.nth 0 rfl)) kr kr (⟨om,om⟩) ?_
   intro ra1 rc1 w5 S7
   replace S7:Sep w [box b2 [iv (((m.bp.getD (i).toNat rw0).ch).getD (j).toNat 0)] 3,am aM ra1 rc1 3 1 (ys++[((m.bp.getD (i).toNat rw0).ch).getD (j).toNat 0]),am aM ra rc 3 1 ls,box b1 (mpC m) 62] w5:=S7
   exact J.wi 6 [] [(7,.slice ra1 ((ys++[((m.bp.getD (i).toNat rw0).ch).getD (j).toNat 0]).length) rc1)] [] 22 (i+1)<|J.t 3 (ih2 _ (show((m.aS:Int)-(i+1)).toNat<mm2 from by omega) ra1 rc1 (ys++[((m.bp.getD (i).toNat rw0).ch).getD (j).toNat 0]) (i+1) w5 om om (by rw[hys,colZ_take h0 om]) (S7.erase 0) rfl)
   refine J.lb 5 [false] [(34,.slice ra ls.length rc)] [] S5 2 rfl 36 (.slice m.cD m.aS m.dr)<|J.r 2 [] [(38,iv x),(37,.slice rb ys.length rd)] [] ?_
   have hyse:ys=colZ m j.toNat:=by rw[hys];exact List.take_of_length_le (by rw[ff];omega)
   have hysl:ys.length=m.aS:=by rw[hyse,ff]
   have:=aB (S5.nth 0 rfl)
   refine J.c0 0 [] [] [] S5 39 hb127 (rcurve_any m.cD m.aS m.dr m.aH rb ys.length rd ys x _ (q2.sep S5) ((aD (S5.nth 0 rfl) ys.length rO)) ⟨hv1,om,by rw[hyse];exact colZ_in vm om⟩) fun w6 S8=>J.newSlice S8 40 1 [iv (cZ m.aH ys x)] 3 kr ?_
   intro b3 w7 S9
   refine J.append aM S9 2 ls (cZ m.aH ys x) 41 26 (iv 0) 8 ⟨b3,0,none⟩ 1 rfl kr kr kr kr dE (bS (S9.nth 0 rfl)) kr kr (⟨om,om⟩) ?_
   intro ra2 rc2 w8 S10
   replace S10:Sep w [box b3 [iv (cZ m.aH ys x)] 3,am aM rb rd 3 1 ys,am aM ra2 rc2 3 1 (ls++[cZ m.aH ys x]),box b1 (mpC m) 62] w8:=S10
   exact J.wi 6 [] [(5,.slice ra2 ((ls++[cZ m.aH ys x]).length) rc2)] [] 15 (j+1)<|J.t 3 (ih1 _ (show((m.bH:Int)-(j+1)).toNat<mm1 from by omega) ra2 rc2 (ls++[cZ m.aH ys x]) (j+1) w8 om om (by rw[hls,hyse,colF_take j0 om]) ((S10.erase 0).erase 0) rfl)
  exact J.t 15 (L128_2 _ none 0 ([]) 0 w2 om om (rfl) S4 rfl)
  refine J.e 7 [.slice ra ls.length rc] func128 (hR _ _ ?_)
  have e_:ls=colF m x:=by rw[hls];exact List.take_of_length_le (by first | omega | (rw[colF_length];omega))
  subst e_
  exact⟨_,_,rfl,S3.pick 0 rfl⟩
 exact J.t 13 (L128_1 _ none 0 ([]) 0 w1 om om (rfl) S2 rfl)

theorem hb81:af prog 81:=fun _ _=>by kernel_rfl

theorem rvalue_any (m:Mp) (x y:Int) (w:World) (hm:mpQ w m) (hv:co m=true):Ret prog 81 #[.agg (mpA m),iv x,iv y] w (fun v w'=>v=iv (valueF m x y)∧Sep w [] w'):=by
 refine Ret.st (N:=14) func81 fun R hR S0=>?_
 obtain ⟨q1,q2,q3,q4,q5,q6,q7,q8,q9,_⟩:=id hm
 have ql1:=q2.len_eq
 have ql2:=q5.len_eq
 have ql3:=q8.len_eq
 obtain ⟨hv1,hv2,hv3,hv4⟩:=valid_facts hv
 obtain ⟨hx1,hx2,hx3⟩:=cd hv1
 obtain ⟨hy1,hy2,hy3⟩:=cd hv2
 have hX:m.aH.length=m.aS:=by omega
 have hY:m.bc.length=m.bH:=by omega
 have vm:=vm_of hv om fun i hi=>row_len hm hi
 refine J.nw 2 [] [] [] S0 3 (mpC m) 62 fun b1 w1 S1=>J.r 3 [] [] []<|J.drawPlan (fun w_=>Sep w [box b1 (mpC m) 62] w_) [(0,true),(1,true),(2,true),(3,true),(5,true),(4,false),(6,false),(7,true)] S1 Tryz.mixed kr (aF (T:=[(0,some 7,8),(1,some 8,128),(0,some 9,8),(0,some 10,2),(12,some 11,1536),(0,some 12,4),(50,some 13,6400),(127,some 6,8192)]) kr kr) ?_
 intro w2 S2
 refine PB.mk S2<|PL.take 0 7 (.pointer (some ⟨b1,1,none⟩)) (fun _ _=>kr)<|PL.takeOK 1 (fun w_ S_=>OK.ldBox S_ 0 8 26 1 (.slice m.cM m.bH m.dB) kr rfl kr) rfl<|PL.takeOK 2 (fun w_ S_=>OK.ldBox S_ 0 9 62 0 (.agg (mpA m)) kr rfl kr) rfl<|PL.take 3 10 (iv x) (fun _ _=>kr)<|PL.take 5 12 (iv y) (fun _ _=>kr)<|PL.callF 11 128 #[.agg (mpA m),iv x] hb128 kr (column_any m x _ (eh hm S2) hv) ?_
 rintro _ w3 ⟨ra1,rc1,rfl,T1⟩
 have S3:Sep w [am aM ra1 rc1 3 1 (colF m x),box b1 (mpC m) 62] w3:=S2.trans T1
 clear T1 S2
 refine PB.mk (S3.erase 0) ?_
 have:=aB (S3.nth 0 rfl)
 refine PL.callF 13 127 #[.slice m.cM m.bH m.dB,.slice ra1 ((colF m x).length) rc1,iv y] hb127 kr (rcurve_any m.cM m.bH m.dB m.bc ra1 ((colF m x).length) rc1 (colF m x) y _ (q5.sep S3) ((aD (S3.nth 0 rfl) ((colF m x).length) rO)) ⟨hv2,by rw[colF_length];omega,colF_in hX vm x⟩) ?_
 rintro _ w4 ⟨rfl,T2⟩
 have S4:Sep w [am aM ra1 rc1 3 1 (colF m x),box b1 (mpC m) 62] w4:=S3.trans T2
 clear T2 S3
 refine PB.mk (S4.erase 0)<|PL.take 7 6 (iv (cZ m.bc (colF m x) y)) (fun _ _=>kr)<|PL.done<|J.e 0 [iv (cZ m.bc (colF m x) y)] func81 (hR _ _ ?_)
 exact⟨rfl,S4.nil⟩

theorem hb43:af prog 43:=fun _ _=>by kernel_rfl

theorem rAt_any (m:Mp) (x y:Int) (w:World) (hm:mpQ w m):Ret prog 43 #[.agg (mpA m),iv x,iv y] w (fun v w'=>v=iv (atF m x y)∧Sep w [] w'):=by
 refine Ret.st (N:=14) func43 fun R hR S0=>?_
 obtain ⟨q1,q2,q3,q4,q5,q6,q7,q8,q9,_⟩:=id hm
 have ql1:=q2.len_eq
 have ql2:=q5.len_eq
 have ql3:=q8.len_eq
 refine J.nw 2 [] [] [] S0 3 (mpC m) 62 fun b1 w1 S1=>J.lb 5 [] [] [] S1 0 rfl 7 (.agg (mpA m))<|J.c0 0 [] [] [] S1 8 hb31 (rvalid_any m _ (eh hm S1)) fun w2 S2=>J.bn 2 [] [] [] 9 (co m) (fun fk1=>?_) fun fk1=>?_
 have hv:=fk1
 refine J.lb 4 [false] [] [] S2 0 rfl 10 (.agg (mpA m))<|J.c0 2 [] [] [] S2 13 hb81 (rvalue_any m x y _ (eh hm S2) hv) fun w3 S3=>J.e 2 [iv (valueF m x y)] func43 (hR _ _ ?_)
 exact⟨congrArg (Value.int .i64) (by unfold atF;rw[fk1];rfl),S3.nil⟩
 refine J.e 5 [iv 0] func43 (hR _ _ ?_)
 exact⟨congrArg (Value.int .i64) (by unfold atF;rw[fk1];rfl),S2.nil⟩
end
end Go.Proofs.YtaoolgcddapegaaGreatDoor
