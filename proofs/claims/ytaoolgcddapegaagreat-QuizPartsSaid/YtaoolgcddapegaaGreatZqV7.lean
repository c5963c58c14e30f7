/- Walks of functions of this seat, printed by a program over the engine. Conditions: as each theorem says. -/
import Derived.Test.YtaoolgcddapegaaGreatZqShelf
set_option linter.unusedSimpArgs false
set_option linter.unusedVariables false
namespace Go.Proofs.YtaoolgcddapegaaGreat
noncomputable section
open Go.Eng Go.RowKit Go.Proofs.Tryz
set_option maxRecDepth 20000
set_option maxHeartbeats 20000000
theorem ne_getD {l:List Int} {a b:Nat} (h:l.getD a 0≠l.getD b 0):a≠b:=fun e=>h (by rw[e])
theorem hb150:af prog 150:=fun _ _=>by kernel_rfl
def K150_0:=adv 41 [false,false] (bi Tryz.f150)
theorem rcurve_any (la:Option Addr) (len cap:Nat) (l:List Int) (ma:Option Addr) (mn mc:Nat) (ml:List Int) (x:Int) (w:World) (hI:dj w la len l) (hJ:dj w ma mn ml) (hc:bW l=true∧ml.length=l.length∧∀ j,j<ml.length→ -1073741824≤ml.getD j 0∧ml.getD j 0≤1073741824):Ret prog 150 #[.slice la len cap,.slice ma mn mc,iv x] w (fun v w'=>v=iv (cV l ml x)∧Sep w [] w'):=by
 refine Ret.st (N:=73) func150 fun R hR S0=>?_
 have hll:=hI.len_eq
 have hml:=hJ.len_eq
 obtain ⟨hx1,hx2,hx3⟩:=bV hc.1
 have hc2:=hc.2.1
 refine J.r 15 [] [(12,.slice la len cap),(11,iv x),(7,iv (len:Int))] [] ?_
 obtain ⟨p1,hp1,hc1⟩:=hI.at 0 0 om
 refine J.ok (OK.index 13 26 1 la p1 len 0 0 (p1.add 0) kr kr hp1 om om nO)<|J.ok (OK.ldCell 14 3 (p1.add 0) (iv (l.getD 0 0)) kr kr (S0.cell hc1))<|J.c 2 [] [] [] 15 (x≤(l.getD 0 0)) (fun fk1=>?_) fun fk1=>?_
 refine J.r 4 [true] [(16,.slice ma mn mc)] [] ?_
 obtain ⟨p2,hp2,hc2⟩:=hJ.at 0 0 om
 refine J.ok (OK.index 17 26 1 ma p2 mn 0 0 (p2.add 0) kr kr hp2 om om nO)<|J.ok (OK.ldCell 18 3 (p2.add 0) (iv (ml.getD 0 0)) kr kr (S0.cell hc2))<|J.e 2 [iv (ml.getD 0 0)] func150 (hR _ _ ?_)
 exact⟨congrArg (Value.int .i64) (by unfold cV;first | rw[if_pos om] | (rw[if_neg om,if_pos (by rw[show l.length-1=((len:Int)-1).toNat by omega];omega),show l.length-1=((len:Int)-1).toNat by omega])),S0.nil⟩
 refine J.wi 9 [false] [(20,.slice la len cap),(19,iv x)] [] 22 ((len:Int)-1) ?_
 obtain ⟨p3,hp3,hc3⟩:=hI.at 0 ((len:Int)-1).toNat om
 refine J.ok (OK.index 23 26 1 la p3 len ((len:Int)-1).toNat ((len:Int)-1) (p3.add ((len:Int)-1).toNat) kr kr hp3 om om nO)<|J.ok (OK.ldCell 24 3 (p3.add ((len:Int)-1).toNat) (iv (l.getD ((len:Int)-1).toNat 0)) kr kr (S0.cell hc3))<|J.c 2 [] [] [] 25 (x≥(l.getD ((len:Int)-1).toNat 0)) (fun fk2=>?_) fun fk2=>?_
 refine J.wi 6 [true] [(26,.slice ma mn mc)] [] 28 ((len:Int)-1) ?_
 obtain ⟨p4,hp4,hc4⟩:=hJ.at 0 ((len:Int)-1).toNat om
 refine J.ok (OK.index 29 26 1 ma p4 mn ((len:Int)-1).toNat ((len:Int)-1) (p4.add ((len:Int)-1).toNat) kr kr hp4 om om nO)<|J.ok (OK.ldCell 30 3 (p4.add ((len:Int)-1).toNat) (iv (ml.getD ((len:Int)-1).toNat 0)) kr kr (S0.cell hc4))<|J.e 2 [iv (ml.getD ((len:Int)-1).toNat 0)] func150 (hR _ _ ?_)
 exact⟨congrArg (Value.int .i64) (by unfold cV;first | rw[if_pos om] | (rw[if_neg om,if_pos (by rw[show l.length-1=((len:Int)-1).toNat by omega];omega),show l.length-1=((len:Int)-1).toNat by omega])),S0.nil⟩
 have L150_1:∀ (mm_:Nat) (i:Int) (w1:World),(0≤i∧i+1<(len:Int))→(l.getD (i).toNat 0≤x)→Sep w [] w1→((len:Int)-i).toNat=mm_→J prog 150 73 R K150_0 [(8,iv i),(0,.slice la len cap),(1,.slice ma mn mc),(2,iv x)] w1:=by
  intro mm1
  induction mm1 using Nat.strongRecOn with
  | _ mm1 ih1 =>
  intro i w1 h0 hle S1 hm1
  refine J.wi 6 [] [(31,.slice la len cap)] [] 33 (i+1) ?_
  obtain ⟨p5,hp5,hc5⟩:=hI.at 0 (i+1).toNat om
  refine J.ok (OK.index 34 26 1 la p5 len (i+1).toNat (i+1) (p5.add (i+1).toNat) kr kr hp5 om om nO)<|J.ok (OK.ldCell 35 3 (p5.add (i+1).toNat) (iv (l.getD (i+1).toNat 0)) kr kr (S1.cell hc5))<|J.c 3 [] [] [] 37 ((l.getD (i+1).toNat 0)≤x) (fun fk3=>?_) fun fk3=>?_
  exact J.wi 6 [true] [] [] 39 (i+1)<|J.t 4 (ih1 _ (show((len:Int)-(i+1)).toNat<mm1 from by omega) (i+1) w1 (⟨om,by have h_:=ne_getD (l:=l) (a:=(i+1).toNat) (b:=((len:Int)-1).toNat) om;omega⟩) om S1 rfl)
  have hA1:=hx2 i.toNat om
  have hA2:=hx2 (i+1).toNat om
  have hA3:=cv hc.1 (show i.toNat<(i+1).toNat by omega) om
  have hB1:=hc.2.2 i.toNat om
  have hB2:=hc.2.2 (i+1).toNat om
  refine J.r 3 [false] [] [] ?_
  obtain ⟨p6,hp6,hc6⟩:=hJ.at 0 (i).toNat om
  obtain ⟨p7,hp7,hc7⟩:=hI.at 0 (i).toNat om
  obtain ⟨p8,hp8,hc8⟩:=hJ.at 0 (i+1).toNat om
  refine J.drawPlan (fun w_=>Sep w [] w_) [(0,true),(1,true),(2,true),(3,true),(4,true),(5,true),(6,true),(7,true),(8,true),(9,true),(10,true),(11,true),(12,true),(13,true),(14,true),(15,true),(16,true),(17,true),(18,true),(19,true),(20,true),(21,true),(22,true),(23,true),(24,true),(25,true),(26,true),(27,true),(28,true),(29,true),(30,true),(31,false),(32,true),(33,true)] S1 Tryz.mixed kr (aE (T:=[(0,some 40,2),(0,some 41,256),(3,some 42,3298534883328),(4,some 43,4398046511104),(0,some 44,4),(0,some 45,1),(0,some 46,256),(96,some 47,105553116266496),(128,some 48,140737488355328),(272,some 49,299067162755072),(0,some 50,2),(0,some 51,256),(2048,some 52,2251799813685248),(5120,some 53,5629499534213120),(8192,some 54,9007199254740992),(0,some 55,2),(0,some 56,256),(98304,some 57,108086391056891904),(131072,some 58,144115188075855872),(278528,some 59,306244774661193728),(524800,some 60,577023702256844800),(0,some 61,1),(0,some 62,256),(4194304,some 63,4611686018427387904),(10485760,some 64,11529215046068469760),(16777216,some 65,18446744073709551616),(0,some 66,1),(0,some 67,256),(201326592,some 68,221360928884514619392),(268435456,some 69,295147905179352825856),(570425344,some 70,627189298506124754944),(1074790400,some 71,1181744542222018150400),(2147483656,some 72,2361183250230915629056),(8589934591,some 6,4722366482869645213696)]) kr kr) ?_
  intro w2 S2
  refine PB.mk S2<|PL.take 0 40 (.slice ma mn mc) (fun _ _=>kr)<|PL.take 1 41 (iv i) (fun _ _=>kr)<|PL.takeOK 2 (fun w_ S_=>OK.index 42 26 1 ma p6 mn (i).toNat i (p6.add (i).toNat) kr kr hp6 om om nO) rfl<|PL.takeOK 3 (fun w_ S_=>OK.ldCell 43 3 (p6.add (i).toNat) (iv (ml.getD (i).toNat 0)) kr kr (S_.cell hc6)) rfl<|PL.take 4 44 (iv x) (fun _ _=>kr)<|PL.take 5 45 (.slice la len cap) (fun _ _=>kr)<|PL.take 6 46 (iv i) (fun _ _=>kr)<|PL.takeOK 7 (fun w_ S_=>OK.index 47 26 1 la p7 len (i).toNat i (p7.add (i).toNat) kr kr hp7 om om nO) rfl<|PL.takeOK 8 (fun w_ S_=>OK.ldCell 48 3 (p7.add (i).toNat) (iv (l.getD (i).toNat 0)) kr kr (S_.cell hc7)) rfl<|PL.take 9 49 (iv (IntKind.wrap .i64 (x-(l.getD (i).toNat 0)))) (fun _ _=>kr) ?_
  refine PL.head (iv (x-(l.getD (i).toNat 0))) (congrArg (Value.int .i64) (IntWalk.i64_in _ om))<|PL.take 10 50 (.slice ma mn mc) (fun _ _=>kr)<|PL.take 11 51 (iv i) (fun _ _=>kr)<|PL.take 12 52 (iv (IntKind.wrap .i64 (i+1))) (fun _ _=>kr)<|PL.head (iv (i+1)) (congrArg (Value.int .i64) (IntWalk.i64_in _ om))<|PL.takeOK 13 (fun w_ S_=>OK.index 53 26 1 ma p8 mn (i+1).toNat (i+1) (p8.add (i+1).toNat) kr kr hp8 om om nO) rfl<|PL.takeOK 14 (fun w_ S_=>OK.ldCell 54 3 (p8.add (i+1).toNat) (iv (ml.getD (i+1).toNat 0)) kr kr (S_.cell hc8)) rfl<|PL.take 15 55 (.slice ma mn mc) (fun _ _=>kr)<|PL.take 16 56 (iv i) (fun _ _=>kr)<|PL.takeOK 17 (fun w_ S_=>OK.index 57 26 1 ma p6 mn (i).toNat i (p6.add (i).toNat) kr kr hp6 om om nO) rfl<|PL.takeOK 18 (fun w_ S_=>OK.ldCell 58 3 (p6.add (i).toNat) (iv (ml.getD (i).toNat 0)) kr kr (S_.cell hc6)) rfl ?_
  refine PL.take 19 59 (iv (IntKind.wrap .i64 ((ml.getD (i+1).toNat 0)-(ml.getD (i).toNat 0)))) (fun _ _=>kr)<|PL.head (iv ((ml.getD (i+1).toNat 0)-(ml.getD (i).toNat 0))) (congrArg (Value.int .i64) (IntWalk.i64_in _ om))<|PL.take 20 60 (iv (IntKind.wrap .i64 ((x-(l.getD (i).toNat 0))*((ml.getD (i+1).toNat 0)-(ml.getD (i).toNat 0))))) (fun _ _=>kr) ?_
  have hpb:=prod_bd (t:=x-(l.getD (i).toNat 0)) (k:=(ml.getD (i+1).toNat 0)-(ml.getD (i).toNat 0)) om om
  refine PL.head (iv ((x-(l.getD (i).toNat 0))*((ml.getD (i+1).toNat 0)-(ml.getD (i).toNat 0)))) (congrArg (Value.int .i64) (IntWalk.i64_in _ om))<|PL.take 21 61 (.slice la len cap) (fun _ _=>kr)<|PL.take 22 62 (iv i) (fun _ _=>kr)<|PL.take 23 63 (iv (IntKind.wrap .i64 (i+1))) (fun _ _=>kr)<|PL.head (iv (i+1)) (congrArg (Value.int .i64) (IntWalk.i64_in _ om))<|PL.takeOK 24 (fun w_ S_=>OK.index 64 26 1 la p5 len (i+1).toNat (i+1) (p5.add (i+1).toNat) kr kr hp5 om om nO) rfl<|PL.takeOK 25 (fun w_ S_=>OK.ldCell 65 3 (p5.add (i+1).toNat) (iv (l.getD (i+1).toNat 0)) kr kr (S_.cell hc5)) rfl<|PL.take 26 66 (.slice la len cap) (fun _ _=>kr)<|PL.take 27 67 (iv i) (fun _ _=>kr)<|PL.takeOK 28 (fun w_ S_=>OK.index 68 26 1 la p7 len (i).toNat i (p7.add (i).toNat) kr kr hp7 om om nO) rfl<|PL.takeOK 29 (fun w_ S_=>OK.ldCell 69 3 (p7.add (i).toNat) (iv (l.getD (i).toNat 0)) kr kr (S_.cell hc7)) rfl ?_
  refine PL.take 30 70 (iv (IntKind.wrap .i64 ((l.getD (i+1).toNat 0)-(l.getD (i).toNat 0)))) (fun _ _=>kr)<|PL.head (iv ((l.getD (i+1).toNat 0)-(l.getD (i).toNat 0))) (congrArg (Value.int .i64) (IntWalk.i64_in _ om)) ?_
  have hpb:=prod_bd (t:=x-l.getD (i).toNat 0) (k:=ml.getD (i+1).toNat 0-ml.getD (i).toNat 0) om om
  refine PL.callF 71 169 #[iv ((x-(l.getD (i).toNat 0))*((ml.getD (i+1).toNat 0)-(ml.getD (i).toNat 0))),iv ((l.getD (i+1).toNat 0)-(l.getD (i).toNat 0))] hb169 kr (r6floor_any ((x-(l.getD (i).toNat 0))*((ml.getD (i+1).toNat 0)-(ml.getD (i).toNat 0))) ((l.getD (i+1).toNat 0)-(l.getD (i).toNat 0)) _ om om) ?_
  rintro _ w3 ⟨rfl,T1⟩
  have S3:Sep w [] w3:=S2.trans T1
  clear T1 S2
  have hbw:=dS (x0:=l.getD (i).toNat 0) (x1:=l.getD (i+1).toNat 0) (y0:=ml.getD (i).toNat 0) (y1:=ml.getD (i+1).toNat 0) (x:=x) om om om
  unfold ek at hbw
  refine PB.mk S3<|PL.take 32 72 (iv (IntKind.wrap .i64 ((ml.getD (i).toNat 0)+(((x-(l.getD (i).toNat 0))*((ml.getD (i+1).toNat 0)-(ml.getD (i).toNat 0)))/((l.getD (i+1).toNat 0)-(l.getD (i).toNat 0)))))) (fun _ _=>kr)<|PL.head (iv ((ml.getD (i).toNat 0)+(((x-(l.getD (i).toNat 0))*((ml.getD (i+1).toNat 0)-(ml.getD (i).toNat 0)))/((l.getD (i+1).toNat 0)-(l.getD (i).toNat 0))))) (congrArg (Value.int .i64) (IntWalk.i64_in _ om))<|PL.take 33 6 (iv ((ml.getD (i).toNat 0)+(((x-(l.getD (i).toNat 0))*((ml.getD (i+1).toNat 0)-(ml.getD (i).toNat 0)))/((l.getD (i+1).toNat 0)-(l.getD (i).toNat 0))))) (fun _ _=>kr)<|PL.done<|J.e 0 [iv ((ml.getD (i).toNat 0)+(((x-(l.getD (i).toNat 0))*((ml.getD (i+1).toNat 0)-(ml.getD (i).toNat 0)))/((l.getD (i+1).toNat 0)-(l.getD (i).toNat 0))))] func150 (hR _ _ ?_)
  have e:=curve_seg (xs:=l) (ys:=ml) (x:=x) (x':=x) (i:=i.toNat) hc.1 om om (by rw[show i.toNat+1=(i+1).toNat by omega];omega) (.inl (by rw[show i.toNat+1=(i+1).toNat by omega];omega)) (by rw[show l.length-1=((len:Int)-1).toNat by omega];omega)
  rw[show i.toNat+1=(i+1).toNat by omega] at e
  exact⟨congrArg (Value.int .i64) (by rw[e];rfl),S3.nil⟩
 exact J.t 9 (L150_1 _ 0 w om (by simp only[Int.toNat_zero];omega) S0 rfl)

theorem seg_exists {xs:List Int} (x:Int) (ax:bW xs=true):∃ (i:Nat) (x':Int),i+1<xs.length∧xs.getD i 0≤x'∧x'≤xs.getD (i+1) 0∧(x'<xs.getD (i+1) 0∨i+2=xs.length)∧x'=min (max x (xs.getD 0 0)) (xs.getD (xs.length-1) 0):=by
  obtain ⟨hl,_⟩:=bV ax
  have hends:=cv ax (show 0<xs.length-1 by omega) om
  obtain ⟨x',hx⟩:∃ x',x'=min (max x (xs.getD 0 0)) (xs.getD (xs.length-1) 0):=⟨_,rfl⟩
  have key:∀ k,k+2≤xs.length→(∃ i,i<k∧xs.getD i 0≤x'∧x'<xs.getD (i+1) 0)∨xs.getD k 0≤x':=by
    intro k
    induction k with
    | zero=>intro _;right;omega
    | succ k ih =>
      intro hk
      rcases ih om with ⟨i,h1,h2,h3⟩ | h
      · exact .inl ⟨i,om,h2,h3⟩
      · by_cases h2:x'<xs.getD (k+1) 0
        · exact .inl ⟨k,om,h,h2⟩
        · exact .inr om
  rcases key (xs.length-2) om with ⟨i,h1,h2,h3⟩ | h
  · exact⟨i,x',om,h2,om,.inl h3,hx⟩
  · exact⟨xs.length-2,x',om,h,by rw[show xs.length-2+1=xs.length-1 by omega];omega,.inr om,hx⟩
theorem curve_in {xs ys:List Int} {lo hi:Int} (x:Int) (ax:bW xs=true) (hl:ys.length=xs.length) (hb:∀ j,j<ys.length→lo≤ys.getD j 0∧ys.getD j 0≤hi):lo≤cV xs ys x∧cV xs ys x≤hi:=by
  obtain ⟨i,x',h1,h2,h3,h4,h5⟩:=seg_exists x ax
  rw[curve_seg ax h1 h2 h3 h4 h5]
  have b1:=hb i om
  have b2:=hb (i+1) om
  obtain ⟨c1,c2⟩:=dS (y0:=ys.getD i 0) (y1:=ys.getD (i+1) 0) (cv ax (show i<i+1 by omega) h1) h2 h3
  omega
structure Vm (m:Mp):Prop where
  ax:bW m.aG=true
  ay:bW m.aV=true
  z:∀ i,i<m.aQ→∀ j,j<m.bB→ -1073741824≤zF m i j∧zF m i j≤1073741824
theorem vm_of {m:Mp} (h:ch m=true) (hZ:m.bh.length=m.dJ) (hr:∀ i,i<m.bh.length→(m.bh.getD i rw0).cd.length=(m.bh.getD i rw0).gS_n):Vm m:=by
  obtain ⟨h1,h2,h3,h4⟩:=valid_facts h
  refine⟨h1,h2,fun i hi j hj=>?_⟩
  obtain ⟨h5,h6⟩:=h4 i om
  exact h6 j (by rw[hr i om];omega)
theorem eN (m:Mp) (j:Nat):(colZ m j).length=m.aQ:=by simp[colZ]
theorem colF_length (m:Mp) (x:Int):(colF m x).length=m.bB:=by simp[colF]
theorem colZ_in {m:Mp} (v:Vm m) {j:Nat} (hj:j<m.bB):∀ i,i<(colZ m j).length→ -1073741824≤(colZ m j).getD i 0∧(colZ m j).getD i 0≤1073741824:=by
  intro i hi
  rw[eN] at hi
  rw[colZ_getD m hi];exact v.z i hi j hj
theorem colF_in {m:Mp} (hX:m.aG.length=m.aQ) (v:Vm m) (x:Int):∀ j,j<(colF m x).length→ -1073741824≤(colF m x).getD j 0∧(colF m x).getD j 0≤1073741824:=by
  intro j hj
  rw[colF_length] at hj
  rw[colF_getD m x hj]
  exact curve_in x v.ax (by rw[eN,hX]) (colZ_in v hj)
theorem take_snoc {l:List Int} {i:Int} (h0:0≤i) (h:i<(l.length:Int)):l.take (i+1).toNat=l.take i.toNat++[l.getD i.toNat 0]:=by
  rw[show(i+1).toNat=i.toNat+1 by omega,List.take_succ_eq_append_getElem om]
  simp[List.getD,show i.toNat<l.length by omega]
end
end Go.Proofs.YtaoolgcddapegaaGreat

namespace Go.Proofs.YtaoolgcddapegaaGreat
noncomputable section
open Go.Eng Go.RowKit Go.Proofs.Tryz
set_option maxRecDepth 20000
set_option maxHeartbeats 20000000
theorem hb60:af prog 60:=fun _ _=>by kernel_rfl

theorem clone_any (la:Option Addr) (len cap:Nat) (l:List Int) (w:World) (hI:dj w la len l) (hlen:len≤9223372036854775807) (hsm:len≤4096):Ret prog 60 #[.slice la len cap] w (fun v w'=>∃ a cap,v=.slice a (l).length cap∧Sep w [ak aA a cap 3 1 (l)] w'):=by
 refine Ret.st (N:=8) func60 fun R hR S0=>?_
 have hll:=hI.len_eq
 refine J.r 8 [] [(3,.slice la len cap)] []<|J.ok (OK.nilS 4 true 26 la kr kr la.isNone (by simp))<|J.b 1 [] [] [] 4 la.isNone (fun fk1=>?_) fun fk1=>?_
 refine J.e 5 [.slice none 0 0] func60 (hR _ _ ?_)
 have e_:l=[]:=by cases la with | none=>exact hI.nil | some p=>simp at fk1
 subst e_
 exact⟨none,0,rfl,S0.nilRow 3 1⟩
 refine J.r 4 [false] [] []<|J.newSlice S0 5 0 [] 3 kr ?_
 intro b1 w1 S1
 refine J.r 1 [] [(6,.slice la len cap)] [] ?_
 have S2:Sep w [ak aA (some ⟨b1,0,none⟩) 0 3 1 ([])] w1:=box_row aA S1 0 [] 1 rfl rfl rfl (by simp[maxLen]) (.inr trivial)
 have hz1:=hI.sep S2
 have:=hz1.len_eq
 refine J.appendN aA S2 0 ([]) l len oz 7 26 (iv 0) 8 la cap rfl kr kr kr kr dE (hI.sep S2).enc (fun h_=>Ones.nil (h_▸hz1)) (fun _=>rfl) (fun _=>rfl) (⟨by first | omega | (simp;omega),by first | omega | (simp;omega)⟩) ?_
 intro ra1 rc1 w2 S3
 replace S3:Sep w [ak aA ra1 rc1 3 1 l] w2:=S3
 refine J.e 2 [.slice ra1 l.length rc1] func60 (hR _ _ ?_)
 exact⟨_,_,rfl,S3.pick 0 rfl⟩

theorem colZ_take {m:Mp} {j:Nat} {i:Int} (h0:0≤i) (h:i<(m.aQ:Int)):(colZ m j).take (i+1).toNat=(colZ m j).take i.toNat++[(m.bh.getD i.toNat rw0).cd.getD j 0]:=by
  rw[take_snoc h0 (by rw[eN];exact h),colZ_getD m om];rfl
theorem colF_take {m:Mp} {x:Int} {j:Int} (h0:0≤j) (h:j<(m.bB:Int)):(colF m x).take (j+1).toNat=(colF m x).take j.toNat++[cV m.aG (colZ m j.toNat) x]:=by
  rw[take_snoc h0 (by rw[colF_length];exact h),colF_getD m x om]
theorem hb151:af prog 151:=fun _ _=>by kernel_rfl
def K151_0:=adv 16 [] (bi Tryz.f151)
def K151_1:=adv 24 [true] K151_0
theorem column_any (m:Mp) (x:Int) (w:World) (hm:mpQ w m) (hv:ch m=true):Ret prog 151 #[.agg (mpA m),iv x] w (fun v w'=>∃ a cap,v=.slice a (colF m x).length cap∧Sep w [ak aA a cap 3 1 (colF m x)] w'):=by
 refine Ret.st (N:=43) func151 fun R hR S0=>?_
 obtain ⟨q1,q2,q3,q4,q5,q6,q7,q8,q9,_⟩:=id hm
 have ql1:=q2.len_eq
 have ql2:=q5.len_eq
 have ql3:=q8.len_eq
 obtain ⟨hv1,hv2,hv3,hv4⟩:=valid_facts hv
 obtain ⟨hx1,hx2,hx3⟩:=bV hv1
 obtain ⟨hy1,hy2,hy3⟩:=bV hv2
 have hX:m.aG.length=m.aQ:=by omega
 have hY:m.aV.length=m.bB:=by omega
 have vm:=vm_of hv om fun i hi=>row_len hm hi
 refine J.nw 2 [] [] [] S0 2 (mpC m) 61 fun b1 w1 S1=>?_
 have S2:Sep w [ak aA none 0 3 1 ([]),box b1 (mpC m) 61] w1:=S1.nilRow 3 1
 have L151_1:∀ (mm_:Nat) (ra:Option Addr) (rc:Nat) (ls:List Int) (j:Int) (w2:World),(0≤j)→(j≤(m.bB:Int))→(ls=(colF m x).take (j).toNat)→Sep w [ak aA ra rc 3 1 ls,box b1 (mpC m) 61] w2→((m.bB:Int)-j).toNat=mm_→J prog 151 43 R K151_0 [(6,iv j),(5,.slice ra ls.length rc),(2,pv b1),(1,iv x)] w2:=by
  intro mm1
  induction mm1 using Nat.strongRecOn with
  | _ mm1 ih1 =>
  intro ra rc ls j w2 j0 j1 hls S3 hm1
  have hlsl:ls.length=j.toNat:=by rw[hls,List.length_take,colF_length];omega
  refine J.lb 5 [] [(9,iv j)] [] S3 1 rfl 11 (.slice m.cM m.bB m.dw)<|J.c 3 [] [] [] 13 (j<(m.bB:Int)) (fun fk1=>?_) fun fk1=>?_
  have S4:Sep w [ak aA none 0 3 1 ([]),ak aA ra rc 3 1 ls,box b1 (mpC m) 61] w2:=S3.nilRow 3 1
  have L151_2:∀ (mm_:Nat) (rb:Option Addr) (rd:Nat) (ys:List Int) (i:Int) (w3:World),(0≤i)→(i≤(m.aQ:Int))→(ys=(colZ m j.toNat).take (i).toNat)→Sep w [ak aA rb rd 3 1 ys,ak aA ra rc 3 1 ls,box b1 (mpC m) 61] w3→((m.aQ:Int)-i).toNat=mm_→J prog 151 43 R K151_1 [(8,iv i),(7,.slice rb ys.length rd),(6,iv j),(5,.slice ra ls.length rc),(2,pv b1),(1,iv x)] w3:=by
   intro mm2
   induction mm2 using Nat.strongRecOn with
   | _ mm2 ih2 =>
   intro rb rd ys i w3 h0 h1 hys S5 hm2
   have hlsy:ys.length=i.toNat:=by rw[hys,List.length_take,eN];omega
   have hw1:i<(m.dJ:Int)→_:=fun h=>hv4 i.toNat om
   refine J.lb 5 [] [(16,iv i)] [] S5 2 rfl 18 (.slice m.cF m.aQ m.dm)<|J.c 3 [] [] [] 20 (i<(m.aQ:Int)) (fun fk2=>?_) fun fk2=>?_
   refine J.lb 7 [true] [(23,.slice rb ys.length rd)] [] S5 2 rfl 25 (.slice m.gZ_a m.dJ m.gZ_c)<|J.r 1 [] [(26,iv i)] [] ?_
   obtain ⟨p1,hp1,hc1⟩:=q8.at rw0 (i).toNat om
   have hel1:=aP q9 rw0 (n:=(i).toNat) (by have:=q8.len_eq;omega)
   obtain ⟨q10,q11,q12,_⟩:=id hel1
   have ql4:=q11.len_eq
   refine J.ok (OK.index 27 59 1 m.gZ_a p1 m.dJ (i).toNat i (p1.add ((i).toNat*1)) kr kr hp1 om om rfl)<|J.ok (OK.ldCell 28 26 (p1.add ((i).toNat*1)) (.slice ((m.bh.getD (i).toNat rw0).gS_a) ((m.bh.getD (i).toNat rw0).gS_n) ((m.bh.getD (i).toNat rw0).gS_c)) kr kr (S5.cell (cell_zero (hc1 0 _ rfl))))<|J.r 1 [] [(29,iv j)] [] ?_
   obtain ⟨p2,hp2,hc2⟩:=q11.at 0 (j).toNat om
   have hel2:=aP q12 0 (n:=(j).toNat) (by have:=q11.len_eq;omega)
   refine J.ok (OK.index 30 26 1 ((m.bh.getD (i).toNat rw0).gS_a) p2 ((m.bh.getD (i).toNat rw0).gS_n) (j).toNat j (p2.add (j).toNat) kr kr hp2 om om nO)<|J.ok (OK.ldCell 31 3 (p2.add (j).toNat) (iv (((m.bh.getD (i).toNat rw0).cd).getD (j).toNat 0)) kr kr (S5.cell hc2))<|J.newSlice S5 32 1 [iv (((m.bh.getD (i).toNat rw0).cd).getD (j).toNat 0)] 3 kr ?_
   intro b2 w4 S6
   refine J.append aA S6 1 ys (((m.bh.getD (i).toNat rw0).cd).getD (j).toNat 0) 33 26 (iv 0) 8 ⟨b2,0,none⟩ 1 rfl kr kr kr kr dE (cE (S6.nth 0 rfl)) kr kr (⟨om,om⟩) ?_
   intro ra1 rc1 w5 S7
   replace S7:Sep w [box b2 [iv (((m.bh.getD (i).toNat rw0).cd).getD (j).toNat 0)] 3,ak aA ra1 rc1 3 1 (ys++[((m.bh.getD (i).toNat rw0).cd).getD (j).toNat 0]),ak aA ra rc 3 1 ls,box b1 (mpC m) 61] w5:=S7
   exact J.wi 6 [] [(7,.slice ra1 ((ys++[((m.bh.getD (i).toNat rw0).cd).getD (j).toNat 0]).length) rc1)] [] 22 (i+1)<|J.t 3 (ih2 _ (show((m.aQ:Int)-(i+1)).toNat<mm2 from by omega) ra1 rc1 (ys++[((m.bh.getD (i).toNat rw0).cd).getD (j).toNat 0]) (i+1) w5 om om (by rw[hys,colZ_take h0 om]) (S7.erase 0) rfl)
   refine J.lb 5 [false] [(34,.slice ra ls.length rc)] [] S5 2 rfl 36 (.slice m.cF m.aQ m.dm)<|J.r 2 [] [(38,iv x),(37,.slice rb ys.length rd)] [] ?_
   have hyse:ys=colZ m j.toNat:=by rw[hys];exact List.take_of_length_le (by rw[eN];omega)
   have hysl:ys.length=m.aQ:=by rw[hyse,eN]
   have:=aC (S5.nth 0 rfl)
   refine J.c0 0 [] [] [] S5 39 hb150 (rcurve_any m.cF m.aQ m.dm m.aG rb ys.length rd ys x _ (q2.sep S5) ((aD (S5.nth 0 rfl) ys.length rO)) ⟨hv1,om,by rw[hyse];exact colZ_in vm om⟩) fun w6 S8=>J.newSlice S8 40 1 [iv (cV m.aG ys x)] 3 kr ?_
   intro b3 w7 S9
   refine J.append aA S9 2 ls (cV m.aG ys x) 41 26 (iv 0) 8 ⟨b3,0,none⟩ 1 rfl kr kr kr kr dE (cE (S9.nth 0 rfl)) kr kr (⟨om,om⟩) ?_
   intro ra2 rc2 w8 S10
   replace S10:Sep w [box b3 [iv (cV m.aG ys x)] 3,ak aA rb rd 3 1 ys,ak aA ra2 rc2 3 1 (ls++[cV m.aG ys x]),box b1 (mpC m) 61] w8:=S10
   exact J.wi 6 [] [(5,.slice ra2 ((ls++[cV m.aG ys x]).length) rc2)] [] 15 (j+1)<|J.t 3 (ih1 _ (show((m.bB:Int)-(j+1)).toNat<mm1 from by omega) ra2 rc2 (ls++[cV m.aG ys x]) (j+1) w8 om om (by rw[hls,hyse,colF_take j0 om]) ((S10.erase 0).erase 0) rfl)
  exact J.t 15 (L151_2 _ none 0 ([]) 0 w2 om om (rfl) S4 rfl)
  refine J.e 7 [.slice ra ls.length rc] func151 (hR _ _ ?_)
  have e_:ls=colF m x:=by rw[hls];exact List.take_of_length_le (by first | omega | (rw[colF_length];omega))
  subst e_
  exact⟨_,_,rfl,S3.pick 0 rfl⟩
 exact J.t 13 (L151_1 _ none 0 ([]) 0 w1 om om (rfl) S2 rfl)

theorem hb118:af prog 118:=fun _ _=>by kernel_rfl

theorem rvalue_any (m:Mp) (x y:Int) (w:World) (hm:mpQ w m) (hv:ch m=true):Ret prog 118 #[.agg (mpA m),iv x,iv y] w (fun v w'=>v=iv (valueF m x y)∧Sep w [] w'):=by
 refine Ret.st (N:=14) func118 fun R hR S0=>?_
 obtain ⟨q1,q2,q3,q4,q5,q6,q7,q8,q9,_⟩:=id hm
 have ql1:=q2.len_eq
 have ql2:=q5.len_eq
 have ql3:=q8.len_eq
 obtain ⟨hv1,hv2,hv3,hv4⟩:=valid_facts hv
 obtain ⟨hx1,hx2,hx3⟩:=bV hv1
 obtain ⟨hy1,hy2,hy3⟩:=bV hv2
 have hX:m.aG.length=m.aQ:=by omega
 have hY:m.aV.length=m.bB:=by omega
 have vm:=vm_of hv om fun i hi=>row_len hm hi
 refine J.nw 2 [] [] [] S0 3 (mpC m) 61 fun b1 w1 S1=>J.r 3 [] [] []<|J.drawPlan (fun w_=>Sep w [box b1 (mpC m) 61] w_) [(0,true),(1,true),(2,true),(3,true),(5,true),(4,false),(6,false),(7,true)] S1 Tryz.mixed kr (aE (T:=[(0,some 7,8),(1,some 8,128),(0,some 9,8),(0,some 10,2),(12,some 11,1536),(0,some 12,4),(50,some 13,6400),(127,some 6,8192)]) kr kr) ?_
 intro w2 S2
 refine PB.mk S2<|PL.take 0 7 (.pointer (some ⟨b1,1,none⟩)) (fun _ _=>kr)<|PL.takeOK 1 (fun w_ S_=>OK.ldBox S_ 0 8 26 1 (.slice m.cM m.bB m.dw) kr rfl kr) rfl<|PL.takeOK 2 (fun w_ S_=>OK.ldBox S_ 0 9 61 0 (.agg (mpA m)) kr rfl kr) rfl<|PL.take 3 10 (iv x) (fun _ _=>kr)<|PL.take 5 12 (iv y) (fun _ _=>kr)<|PL.callF 11 151 #[.agg (mpA m),iv x] hb151 kr (column_any m x _ (dZ hm S2) hv) ?_
 rintro _ w3 ⟨ra1,rc1,rfl,T1⟩
 have S3:Sep w [ak aA ra1 rc1 3 1 (colF m x),box b1 (mpC m) 61] w3:=S2.trans T1
 clear T1 S2
 refine PB.mk (S3.erase 0) ?_
 have:=aC (S3.nth 0 rfl)
 refine PL.callF 13 150 #[.slice m.cM m.bB m.dw,.slice ra1 ((colF m x).length) rc1,iv y] hb150 kr (rcurve_any m.cM m.bB m.dw m.aV ra1 ((colF m x).length) rc1 (colF m x) y _ (q5.sep S3) ((aD (S3.nth 0 rfl) ((colF m x).length) rO)) ⟨hv2,by rw[colF_length];omega,colF_in hX vm x⟩) ?_
 rintro _ w4 ⟨rfl,T2⟩
 have S4:Sep w [ak aA ra1 rc1 3 1 (colF m x),box b1 (mpC m) 61] w4:=S3.trans T2
 clear T2 S3
 refine PB.mk (S4.erase 0)<|PL.take 7 6 (iv (cV m.aV (colF m x) y)) (fun _ _=>kr)<|PL.done<|J.e 0 [iv (cV m.aV (colF m x) y)] func118 (hR _ _ ?_)
 exact⟨rfl,S4.nil⟩

theorem hb76:af prog 76:=fun _ _=>by kernel_rfl

theorem rAt_any (m:Mp) (x y:Int) (w:World) (hm:mpQ w m):Ret prog 76 #[.agg (mpA m),iv x,iv y] w (fun v w'=>v=iv (atF m x y)∧Sep w [] w'):=by
 refine Ret.st (N:=14) func76 fun R hR S0=>?_
 obtain ⟨q1,q2,q3,q4,q5,q6,q7,q8,q9,_⟩:=id hm
 have ql1:=q2.len_eq
 have ql2:=q5.len_eq
 have ql3:=q8.len_eq
 refine J.nw 2 [] [] [] S0 3 (mpC m) 61 fun b1 w1 S1=>J.lb 5 [] [] [] S1 0 rfl 7 (.agg (mpA m))<|J.c0 0 [] [] [] S1 8 hb18 (rvalid_any m _ (dZ hm S1)) fun w2 S2=>J.bn 2 [] [] [] 9 (ch m) (fun fk1=>?_) fun fk1=>?_
 have hv:=fk1
 refine J.lb 4 [false] [] [] S2 0 rfl 10 (.agg (mpA m))<|J.c0 2 [] [] [] S2 13 hb118 (rvalue_any m x y _ (dZ hm S2) hv) fun w3 S3=>J.e 2 [iv (valueF m x y)] func76 (hR _ _ ?_)
 exact⟨congrArg (Value.int .i64) (by unfold atF;rw[fk1];rfl),S3.nil⟩
 refine J.e 5 [iv 0] func76 (hR _ _ ?_)
 exact⟨congrArg (Value.int .i64) (by unfold atF;rw[fk1];rfl),S2.nil⟩
end
end Go.Proofs.YtaoolgcddapegaaGreat
