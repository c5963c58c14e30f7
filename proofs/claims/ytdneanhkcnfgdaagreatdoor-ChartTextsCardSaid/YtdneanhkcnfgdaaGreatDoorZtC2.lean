/- Walks of functions of this seat, printed by a program over the engine. Conditions: as each theorem says. -/
import Derived.Test.YtdneanhkcnfgdaaGreatDoorZtC1
set_option linter.unusedSimpArgs false
set_option linter.unusedVariables false
namespace Go.Proofs.YtdneanhkcnfgdaaGreatDoor
noncomputable section
open Go.Eng Go.RowKit Go.Proofs.Tryz
theorem hb42:aJ prog 42:=fun _ _=>by kernel_rfl
def K42_0:=adv 2 [] (aY Tryz.f42)
def K42_1:=adv 7 [] (aK K42_0)
def K42_2:=adv 2 [] K42_1
def K42_3:=adv 1 [] (aK K42_2)
def K42_4:=adv 4 [] (aK K42_3)
def K42_5:=adv 9 [] K42_1
set_option maxRecDepth 20000 in
set_option maxHeartbeats 20000000 in
theorem inside_any (c:Cht) (x:Int) (w:World) (hc:chtQ w c) (hn:c.af≤12):Ret prog 42 #[.agg #[.slice c.al c.aj c.ao,.slice c.ak c.af c.am,.int .i64 c.av,.slice c.aq c.ai c.au],.int .i64 x] w (fun v w'=>v=.bool (cA c x)∧Sep w [] w'):=by
 have S0:=Sep.refl w
 refine Ret.named fun R hR=>Ret.of_J (N:=15) [(0,.agg #[.slice c.al c.aj c.ao,.slice c.ak c.af c.am,.int .i64 c.av,.slice c.aq c.ai c.au]),(1,.int .i64 x)] func42 rfl rfl (Nat.le_of_ble_eq_true kr) kr ?_
 obtain ⟨q1,q2,q3,q4,q5,q6,q7,q8,q9,q10,_⟩:=id hc
 have ql1:=q2.len_eq
 have ql2:=q5.len_eq
 have ql3:=q9.len_eq
 refine J.run 2 K42_0 [(0,.agg #[.slice c.al c.aj c.ao,.slice c.ak c.af c.am,.int .i64 c.av,.slice c.aq c.ai c.au]),(1,.int .i64 x)] w kr<|J.new S0 2 [.slice c.al c.aj c.ao,.slice c.ak c.af c.am,.int .i64 c.av,.slice c.aq c.ai c.au] 25 kr ?_
 intro b1 w1 S1
 refine J.run 7 K42_1 [(7,.bool (decide (x≥0))),(2,.pointer (some ⟨b1,0,none⟩)),(1,.int .i64 x)] w1 kr ?_
 by_cases fk1:x≥0
 refine J.head (.bool true) (congrArg Value.bool (decide_eq_true fk1))<|J.run 2 K42_2 [(9,.pointer (some ⟨b1,1,none⟩)),(8,.int .i64 x),(7,.bool true)] w1 kr<|J.ok (OK.ldBox S1 0 10 22 1 (.slice c.ak c.af c.am) kr rfl kr)<|J.run 1 K42_3 [(11,.int .i64 (c.af:Int)),(8,.int .i64 x),(7,.bool true)] w1 kr ?_
 have:=pow10 (n:=c.af) om
 exact J.ok (OK.shl 12 .i64 1 (c.af:Int) (2^c.af) kr om (shl_one rfl om))<|J.run 4 K42_4 [(4,.bool (decide (x<(2^c.af))))] w1 kr<|J.ret Tryz.f42 [.bool (decide (x<(2^c.af)))] func42 ⟨kr,trivial⟩<|hR _ _<|⟨by simp[cA,cz,tup_two,tup_three,fk1,(decide_eq_true fk1)],S1.nil⟩
 exact J.head (.bool false) (congrArg Value.bool (decide_eq_false fk1))<|J.run 9 K42_5 [(4,.bool false)] w1 kr<|J.ret Tryz.f42 [.bool false] func42 ⟨kr,trivial⟩<|hR _ _<|⟨by simp[cA,cz,tup_two,tup_three,fk1,(decide_eq_false fk1)],S1.nil⟩

theorem hb41:aJ prog 41:=fun _ _=>by kernel_rfl
def K41_0:=adv 6 [] (aY Tryz.f41)
def K41_1:=adv 1 [] (aK K41_0)
def K41_2:=adv 3 [] (aK K41_1)
set_option maxRecDepth 20000 in
set_option maxHeartbeats 20000000 in
theorem run1_any (c:Cht) (bx:Nat) (x:Int) (w:World) (hc:chtQ w c) (hn:c.af≤12) (hb1:(box bx [.slice c.al c.aj c.ao,.slice c.ak c.af c.am,.int .i64 c.av,.slice c.aq c.ai c.au] 25).holds w):Ret prog 41 #[.int .i64 x,.pointer (some ⟨bx,0,none⟩)] w (fun v w'=>v=.bool (!cA c x)∧Sep w [] w'):=by
 have S0:=Sep.refl w
 refine Ret.named fun R hR=>Ret.of_J (N:=8) [(0,.int .i64 x),(1,.pointer (some ⟨bx,0,none⟩))] func41 rfl rfl (Nat.le_of_ble_eq_true kr) kr ?_
 obtain ⟨q1,q2,q3,q4,q5,q6,q7,q8,q9,q10,_⟩:=id hc
 have ql1:=q2.len_eq
 have ql2:=q5.len_eq
 have ql3:=q9.len_eq
 refine J.run 6 K41_0 [(0,.int .i64 x),(1,.pointer (some ⟨bx,0,none⟩))] w kr<|J.ok (OK.ldRo S0 hb1 4 25 0 (.agg #[.slice c.al c.aj c.ao,.slice c.ak c.af c.am,.int .i64 c.av,.slice c.aq c.ai c.au]) kr kr)<|J.run 1 K41_1 [(5,.int .i64 x),(4,.agg #[.slice c.al c.aj c.ao,.slice c.ak c.af c.am,.int .i64 c.av,.slice c.aq c.ai c.au])] w kr<|J.callF 6 42 #[.agg #[.slice c.al c.aj c.ao,.slice c.ak c.af c.am,.int .i64 c.av,.slice c.aq c.ai c.au],.int .i64 x] hb42 kr (inside_any c x _ (bX hc S0) om) ?_
 rintro _ w1 ⟨rfl,T1⟩
 have S1:Sep w [] w1:=S0.trans T1
 clear T1
 exact J.run 3 K41_2 [(3,.bool (!(cA c x)))] w1 kr<|J.ret Tryz.f41 [.bool (!(cA c x))] func41 ⟨kr,trivial⟩<|hR _ _<|⟨rfl,S1.nil⟩

theorem hb66:aJ prog 66:=fun _ _=>by kernel_rfl
def K66_0:=adv 13 [] (aY Tryz.f66)
def K66_1:=adv 5 [] K66_0
def K66_2:=adv 14 [true] K66_1
def K66_3:=adv 1 [] (aK (aK (aK K66_2)))
def K66_4:=adv 6 [true] K66_3
def K66_5:=adv 5 [false] K66_3
def K66_6:=adv 6 [false] K66_1
set_option maxRecDepth 20000 in
set_option maxHeartbeats 20000000 in
theorem indexI1 (la:Option Addr) (len cap:Nat) (l:List Int) (g:FuncId) (c1:Value) (q:Int→Bool) (w:World) (hI:Ones (Value.int .i64) w la len l) (hlen:len≤9223372036854775807) (hbg:aJ prog g) (hcall:∀ (i:Nat) (w2:World),i<l.length→Sep w [] w2→Ret prog g #[.int .i64 (l.getD i 0),c1] w2 (fun v w3=>v=.bool (q (l.getD i 0))∧Sep w2 [] w3)):Ret prog 66 #[.slice la len cap,.func (.func g) #[] #[c1]] w (fun v w'=>v=.int .i64 (ap q l)∧Sep w [] w'):=by
 have S0:=Sep.refl w
 refine Ret.named fun R hR=>Ret.of_J (N:=19) [(0,.slice la len cap),(1,.func (.func g) #[] #[c1])] func66 rfl rfl (Nat.le_of_ble_eq_true kr) kr<|J.run 13 K66_0 [(8,.int .i64 0),(7,.int .i64 (len:Int)),(0,.slice la len cap),(1,.func (.func g) #[] #[c1])] w kr ?_
 have L66_1:∀ (mm_:Nat) (i:Int) (w1:World),(0≤i)→(i≤(len:Int))→(∀ j,j<(i).toNat→q (l.getD j 0)=false)→Sep w [] w1→((len:Int)-i).toNat=mm_→J prog 66 19 R K66_0 [(8,.int .i64 i),(7,.int .i64 (len:Int)),(0,.slice la len cap),(1,.func (.func g) #[] #[c1])] w1:=by
  intro mm1
  induction mm1 using Nat.strongRecOn with
  | _ mm1 ih1 =>
  intro i w1 h0 h1 hq S1 hm1
  refine J.run 5 K66_1 [(9,.bool (decide (i<(len:Int)))),(8,.int .i64 i),(7,.int .i64 (len:Int)),(0,.slice la len cap),(1,.func (.func g) #[] #[c1])] w1 kr ?_
  by_cases fk1:i<(len:Int)
  refine J.head (.bool true) (congrArg Value.bool (decide_eq_true fk1))<|J.run 14 K66_2 [(13,.int .i64 i),(12,.slice la len cap),(11,.func (.func g) #[] #[c1]),(5,.int .i64 i),(8,.int .i64 i),(7,.int .i64 (len:Int)),(0,.slice la len cap),(1,.func (.func g) #[] #[c1])] w1 kr ?_
  obtain ⟨p1,hp1,hc1⟩:=hI.at 0 (i).toNat om
  refine J.ok (OK.index 14 40 1 la p1 len (i).toNat i (p1.add (i).toNat) kr kr hp1 om om nO)<|J.ok (OK.ldCell 15 3 (p1.add (i).toNat) (.int .i64 (l.getD (i).toNat 0)) kr kr (S1.cell hc1))<|J.callF 16 g #[.int .i64 (l.getD (i).toNat 0),c1] hbg kr (hcall (i).toNat w1 (by have:=hI.len_eq;omega) S1.nil) ?_
  rintro _ w2 ⟨rfl,T1⟩
  have S2:Sep w [] w2:=S1.trans T1
  clear T1 S1
  refine J.run 1 K66_3 [(16,.bool (q (l.getD (i).toNat 0))),(5,.int .i64 i),(8,.int .i64 i),(7,.int .i64 (len:Int)),(0,.slice la len cap),(1,.func (.func g) #[] #[c1])] w2 kr ?_
  rcases Bool.eq_false_or_eq_true (q (l.getD (i).toNat 0)) with fk2 | fk2
  exact J.head (.bool true) (congrArg Value.bool fk2)<|J.run 6 K66_4 [(4,.int .i64 i)] w2 kr<|J.ret Tryz.f66 [.int .i64 i] func66 ⟨kr,trivial⟩<|hR _ _<|⟨by rw[cz,cG 0 i.toNat (by have:=hI.len_eq;omega) hq fk2,Int.toNat_of_nonneg h0],S2.nil⟩
  exact J.head (.bool false) (congrArg Value.bool fk2)<|J.run 5 K66_5 [(18,.int .i64 (IntKind.wrap .i64 (i+1))),(7,.int .i64 (len:Int)),(0,.slice la len cap),(1,.func (.func g) #[] #[c1])] w2 kr<|J.head (.int .i64 (i+1)) (congrArg (Value.int .i64) (IntWalk.i64_in _ om))<|J.run 3 K66_0 [(8,.int .i64 (i+1)),(7,.int .i64 (len:Int)),(0,.slice la len cap),(1,.func (.func g) #[] #[c1])] w2 kr<|J.run 0 K66_0 [(8,.int .i64 (i+1)),(7,.int .i64 (len:Int)),(0,.slice la len cap),(1,.func (.func g) #[] #[c1])] w2 kr<|ih1 _ (show((len:Int)-(i+1)).toNat<mm1 from by omega) (i+1) w2 om om (by intro j hj;by_cases e:j=i.toNat;(subst e;exact fk2);exact hq j om) S2 rfl
  exact J.head (.bool false) (congrArg Value.bool (decide_eq_false fk1))<|J.run 6 K66_6 [(4,.int .i64 (-1))] w1 kr<|J.ret Tryz.f66 [.int .i64 (-1)] func66 ⟨kr,trivial⟩<|hR _ _<|⟨by rw[cz,cH 0 fun j hj=>hq j (by have:=hI.len_eq;omega)],S1.nil⟩
 exact L66_1 _ 0 w om om (by intro j hj;simp at hj) S0 rfl

theorem hb40:aJ prog 40:=fun _ _=>by kernel_rfl
def K40_0:=adv 8 [] (aY Tryz.f40)
def K40_1:=adv 3 [] (aK K40_0)
set_option maxRecDepth 20000 in
set_option maxHeartbeats 20000000 in
theorem containsI1 (la:Option Addr) (len cap:Nat) (l:List Int) (g:FuncId) (c1:Value) (q:Int→Bool) (w:World) (hI:Ones (Value.int .i64) w la len l) (hlen:len≤9223372036854775807) (hbg:aJ prog g) (hcall:∀ (i:Nat) (w2:World),i<l.length→Sep w [] w2→Ret prog g #[.int .i64 (l.getD i 0),c1] w2 (fun v w3=>v=.bool (q (l.getD i 0))∧Sep w2 [] w3)):Ret prog 40 #[.slice la len cap,.func (.func g) #[] #[c1]] w (fun v w'=>v=.bool (l.any q)∧Sep w [] w'):=by
 have S0:=Sep.refl w
 refine Ret.named fun R hR=>Ret.of_J (N:=9) [(0,.slice la len cap),(1,.func (.func g) #[] #[c1])] func40 rfl rfl (Nat.le_of_ble_eq_true kr) kr<|J.run 8 K40_0 [(6,.func (.func g) #[] #[c1]),(5,.slice la len cap)] w kr<|J.callF 7 66 #[.slice la len cap,.func (.func g) #[] #[c1]] hb66 kr (indexI1 la len cap l g c1 q _ (hI.sep S0) oz hbg (hcall)) ?_
 rintro _ w1 ⟨rfl,T1⟩
 have S1:Sep w [] w1:=S0.trans T1
 clear T1
 exact J.run 3 K40_1 [(4,.bool (decide ((ap q l)≥0)))] w1 kr<|J.ret Tryz.f40 [.bool (decide ((ap q l)≥0))] func40 ⟨kr,trivial⟩<|hR _ _<|⟨congrArg Value.bool (by first | exact bQ),S1.nil⟩

theorem step_at {c:Cht} {s a x i:Int} (h0:0≤i) (hi:i<(c.ab.length:Int)) (hq:∀ j,j<i.toNat→fitB s a x (c.ab.getD j (⟨0,0,0,0,0⟩:Mv))=false) (h:fitB s a x (c.ab.getD i.toNat (⟨0,0,0,0,0⟩:Mv))=true):stepI c s a x=i∧bT c s a x=(c.ab.getD i.toNat (⟨0,0,0,0,0⟩:Mv)).gTo∧stepA c s a x=0:=by
  have e:stepI c s a x=i:=by unfold stepI;rw[cG (⟨0,0,0,0,0⟩:Mv) i.toNat om hq h,Int.toNat_of_nonneg h0]
  refine⟨e,?_,?_⟩
  · unfold bT;rw[e,if_neg om]
  · unfold stepA;rw[e,if_neg om]
theorem step_none {c:Cht} {s a x:Int} (hq:∀ j,j<c.ab.length→fitB s a x (c.ab.getD j (⟨0,0,0,0,0⟩:Mv))=false):stepI c s a x= -1∧bT c s a x=s∧stepA c s a x=min (a+1) 1000:=by
  have e:stepI c s a x= -1:=by unfold stepI;rw[cH (⟨0,0,0,0,0⟩:Mv) hq]
  refine⟨e,?_,?_⟩
  · unfold bT;rw[e,if_pos om]
  · unfold stepA;rw[e,if_pos om]
theorem stepI_bounds (c:Cht) (s a x:Int): -1≤stepI c s a x∧stepI c s a x<(c.ab.length:Int)∨stepI c s a x= -1:=indexF_bounds _ _
theorem fit_no {s a x:Int} {m:Mv} (h:m.aC≠s∨a<m.ax∨andF x m.gOn≠m.gOn∨andF x m.aN≠0):fitB s a x m=false:=by
  cases hf:fitB s a x m with
  | false=>rfl
  | true =>
    simp only[fitB,Bool.and_eq_true,decide_eq_true_eq,beq_iff_eq] at hf
    omega
theorem fit_yes {s a x:Int} {m:Mv} (h:m.aC=s∧m.ax≤a∧andF x m.gOn=m.gOn∧andF x m.aN=0):fitB s a x m=true:=by
  simp only[fitB,Bool.and_eq_true,decide_eq_true_eq,beq_iff_eq];omega
theorem hb43:aJ prog 43:=fun _ _=>by kernel_rfl
def K43_0:=adv 2 [] (aY Tryz.f43)
def K43_1:=adv 6 [] (aK (aK (aK K43_0)))
def K43_2:=adv 5 [] (aK K43_1)
def K43_3:=adv 5 [] K43_2
def K43_4:=adv 7 [true] K43_3
def K43_5:=adv 1 [] (aK (aK (aK K43_4)))
def K43_6:=adv 4 [] (aK K43_5)
def K43_7:=adv 1 [] (aK K43_6)
def K43_8:=adv 2 [] (aK K43_7)
def K43_9:=adv 1 [] K43_8
def K43_10:=adv 1 [] (aK K43_9)
def K43_11:=adv 3 [] (aK K43_10)
def K43_12:=adv 2 [] K43_11
def K43_13:=adv 1 [] (aK K43_12)
def K43_14:=adv 1 [] K43_13
def K43_15:=adv 3 [] (aK K43_14)
def K43_16:=adv 2 [] K43_15
def K43_17:=adv 1 [] (aK K43_16)
def K43_18:=adv 3 [] K43_17
def K43_19:=adv 4 [true] K43_18
def K43_20:=adv 2 [] (aK K43_19)
def K43_21:=adv 2 [] (aK K43_20)
def K43_22:=adv 5 [false] K43_18
def K43_23:=adv 12 [false] K43_15
def K43_24:=adv 21 [false] K43_11
def K43_25:=adv 28 [false] K43_8
def K43_26:=adv 5 [false] K43_3
def K43_27:=adv 1 [] (aK K43_26)
def K43_28:=adv 1 [] K43_27
def K43_29:=adv 1 [] K43_28
def K43_30:=adv 3 [] (aK K43_29)
def K43_31:=adv 2 [] (aK (aK K43_30))
set_option maxRecDepth 20000 in
set_option maxHeartbeats 20000000 in
theorem step_any (c:Cht) (s a x:Int) (w:World) (hc:chtQ w c) (ha:0≤a∧a≤1000):Ret prog 43 #[.agg #[.slice c.al c.aj c.ao,.slice c.ak c.af c.am,.int .i64 c.av,.slice c.aq c.ai c.au],.agg #[.int .i64 s,.int .i64 a],.int .i64 x] w (fun v w'=>v=.tuple #[.agg #[.int .i64 (bT c s a x),.int .i64 (stepA c s a x)],.int .i64 (stepI c s a x)]∧Sep w [] w'):=by
 have S0:=Sep.refl w
 refine Ret.named fun R hR=>Ret.of_J (N:=57) [(0,.agg #[.slice c.al c.aj c.ao,.slice c.ak c.af c.am,.int .i64 c.av,.slice c.aq c.ai c.au]),(1,.agg #[.int .i64 s,.int .i64 a]),(2,.int .i64 x)] func43 rfl rfl (Nat.le_of_ble_eq_true kr) kr ?_
 obtain ⟨q1,q2,q3,q4,q5,q6,q7,q8,q9,q10,_⟩:=id hc
 have ql1:=q2.len_eq
 have ql2:=q5.len_eq
 have ql3:=q9.len_eq
 refine J.run 2 K43_0 [(0,.agg #[.slice c.al c.aj c.ao,.slice c.ak c.af c.am,.int .i64 c.av,.slice c.aq c.ai c.au]),(1,.agg #[.int .i64 s,.int .i64 a]),(2,.int .i64 x)] w kr<|J.new S0 3 [.slice c.al c.aj c.ao,.slice c.ak c.af c.am,.int .i64 c.av,.slice c.aq c.ai c.au] 25 kr ?_
 intro b1 w1 S1
 refine J.new S1 4 [.int .i64 s,.int .i64 a] 80 kr ?_
 intro b2 w2 S2
 refine J.new S2 6 [.int .i64 0,.int .i64 0] 80 kr ?_
 intro b3 w3 S3
 refine J.run 6 K43_1 [(10,.pointer (some ⟨b1,3,none⟩)),(6,.pointer (some ⟨b3,0,none⟩)),(4,.pointer (some ⟨b2,0,none⟩)),(2,.int .i64 x)] w3 kr<|J.ok (OK.ldBox S3 2 11 23 3 (.slice c.aq c.ai c.au) kr rfl kr)<|J.run 5 K43_2 [(13,.int .i64 0),(12,.int .i64 (c.ai:Int)),(11,.slice c.aq c.ai c.au),(6,.pointer (some ⟨b3,0,none⟩)),(4,.pointer (some ⟨b2,0,none⟩)),(2,.int .i64 x)] w3 kr ?_
 have L43_1:∀ (mm_:Nat) (i:Int) (w4:World),(0≤i)→(i≤(c.ai:Int))→(∀ j,j<(i).toNat→fitB s a x (c.ab.getD j (⟨0,0,0,0,0⟩:Mv))=false)→Sep w [box b3 [.int .i64 0,.int .i64 0] 80,box b2 [.int .i64 s,.int .i64 a] 80,box b1 [.slice c.al c.aj c.ao,.slice c.ak c.af c.am,.int .i64 c.av,.slice c.aq c.ai c.au] 25] w4→((c.ai:Int)-i).toNat=mm_→J prog 43 57 R K43_2 [(13,.int .i64 i),(12,.int .i64 (c.ai:Int)),(11,.slice c.aq c.ai c.au),(6,.pointer (some ⟨b3,0,none⟩)),(4,.pointer (some ⟨b2,0,none⟩)),(2,.int .i64 x)] w4:=by
  intro mm1
  induction mm1 using Nat.strongRecOn with
  | _ mm1 ih1 =>
  intro i w4 h0 h1 hq S4 hm1
  refine J.run 5 K43_3 [(14,.bool (decide (i<(c.ai:Int)))),(13,.int .i64 i),(12,.int .i64 (c.ai:Int)),(11,.slice c.aq c.ai c.au),(6,.pointer (some ⟨b3,0,none⟩)),(4,.pointer (some ⟨b2,0,none⟩)),(2,.int .i64 x)] w4 kr ?_
  by_cases fk1:i<(c.ai:Int)
  refine J.head (.bool true) (congrArg Value.bool (decide_eq_true fk1))<|J.run 7 K43_4 [(15,.int .i64 i),(13,.int .i64 i),(12,.int .i64 (c.ai:Int)),(11,.slice c.aq c.ai c.au),(6,.pointer (some ⟨b3,0,none⟩)),(4,.pointer (some ⟨b2,0,none⟩)),(2,.int .i64 x)] w4 kr ?_
  obtain ⟨p1,hp1,hc1⟩:=q9.at (⟨0,0,0,0,0⟩:Mv) (i).toNat om
  have hel1:=bu q10 (⟨0,0,0,0,0⟩:Mv) (n:=(i).toNat) (by have:=q9.len_eq;omega)
  obtain ⟨q11,q12,q13,q14,q15,_⟩:=id hel1
  refine J.ok (OK.index 16 23 5 c.aq p1 c.ai (i).toNat i (p1.add ((i).toNat*5)) kr kr hp1 om om rfl)<|J.ok (OK.ldCells 17 57 (p1.add ((i).toNat*5)) [.int .i64 ((c.ab.getD (i).toNat (⟨0,0,0,0,0⟩:Mv)).aC),.int .i64 ((c.ab.getD (i).toNat (⟨0,0,0,0,0⟩:Mv)).gTo),.int .i64 ((c.ab.getD (i).toNat (⟨0,0,0,0,0⟩:Mv)).gOn),.int .i64 ((c.ab.getD (i).toNat (⟨0,0,0,0,0⟩:Mv)).aN),.int .i64 ((c.ab.getD (i).toNat (⟨0,0,0,0,0⟩:Mv)).ax)] kr kr kr (fun j_ v_ hj_=>S4.cell (hc1 j_ v_ hj_)))<|J.new S4 9 [.int .i64 0,.int .i64 0,.int .i64 0,.int .i64 0,.int .i64 0] 57 kr ?_
  intro b4 w5 S5
  refine J.run 1 K43_5 [(8,.int .i64 i),(9,.pointer (some ⟨b4,0,none⟩)),(17,.agg #[.int .i64 ((c.ab.getD (i).toNat (⟨0,0,0,0,0⟩:Mv)).aC),.int .i64 ((c.ab.getD (i).toNat (⟨0,0,0,0,0⟩:Mv)).gTo),.int .i64 ((c.ab.getD (i).toNat (⟨0,0,0,0,0⟩:Mv)).gOn),.int .i64 ((c.ab.getD (i).toNat (⟨0,0,0,0,0⟩:Mv)).aN),.int .i64 ((c.ab.getD (i).toNat (⟨0,0,0,0,0⟩:Mv)).ax)]),(13,.int .i64 i),(12,.int .i64 (c.ai:Int)),(11,.slice c.aq c.ai c.au),(6,.pointer (some ⟨b3,0,none⟩)),(4,.pointer (some ⟨b2,0,none⟩)),(2,.int .i64 x)] w5 kr<|J.stBox S5 0 57 0 (.agg #[.int .i64 ((c.ab.getD (i).toNat (⟨0,0,0,0,0⟩:Mv)).aC),.int .i64 ((c.ab.getD (i).toNat (⟨0,0,0,0,0⟩:Mv)).gTo),.int .i64 ((c.ab.getD (i).toNat (⟨0,0,0,0,0⟩:Mv)).gOn),.int .i64 ((c.ab.getD (i).toNat (⟨0,0,0,0,0⟩:Mv)).aN),.int .i64 ((c.ab.getD (i).toNat (⟨0,0,0,0,0⟩:Mv)).ax)]) [.int .i64 ((c.ab.getD (i).toNat (⟨0,0,0,0,0⟩:Mv)).aC),.int .i64 ((c.ab.getD (i).toNat (⟨0,0,0,0,0⟩:Mv)).gTo),.int .i64 ((c.ab.getD (i).toNat (⟨0,0,0,0,0⟩:Mv)).gOn),.int .i64 ((c.ab.getD (i).toNat (⟨0,0,0,0,0⟩:Mv)).aN),.int .i64 ((c.ab.getD (i).toNat (⟨0,0,0,0,0⟩:Mv)).ax)] [box b4 [.int .i64 ((c.ab.getD (i).toNat (⟨0,0,0,0,0⟩:Mv)).aC),.int .i64 ((c.ab.getD (i).toNat (⟨0,0,0,0,0⟩:Mv)).gTo),.int .i64 ((c.ab.getD (i).toNat (⟨0,0,0,0,0⟩:Mv)).gOn),.int .i64 ((c.ab.getD (i).toNat (⟨0,0,0,0,0⟩:Mv)).aN),.int .i64 ((c.ab.getD (i).toNat (⟨0,0,0,0,0⟩:Mv)).ax)] 57,box b3 [.int .i64 0,.int .i64 0] 80,box b2 [.int .i64 s,.int .i64 a] 80,box b1 [.slice c.al c.aj c.ao,.slice c.ak c.af c.am,.int .i64 c.av,.slice c.aq c.ai c.au] 25] kr rfl kr kr rfl ?_
  intro w6 S6
  refine J.run 4 K43_6 [(18,.pointer (some ⟨b4,0,none⟩)),(8,.int .i64 i),(9,.pointer (some ⟨b4,0,none⟩)),(13,.int .i64 i),(12,.int .i64 (c.ai:Int)),(11,.slice c.aq c.ai c.au),(6,.pointer (some ⟨b3,0,none⟩)),(4,.pointer (some ⟨b2,0,none⟩)),(2,.int .i64 x)] w6 kr<|J.ok (OK.ldBox S6 0 19 3 0 (.int .i64 ((c.ab.getD (i).toNat (⟨0,0,0,0,0⟩:Mv)).aC)) kr rfl kr)<|J.run 1 K43_7 [(20,.pointer (some ⟨b2,0,none⟩)),(19,.int .i64 ((c.ab.getD (i).toNat (⟨0,0,0,0,0⟩:Mv)).aC)),(8,.int .i64 i),(9,.pointer (some ⟨b4,0,none⟩)),(13,.int .i64 i),(12,.int .i64 (c.ai:Int)),(11,.slice c.aq c.ai c.au),(6,.pointer (some ⟨b3,0,none⟩)),(4,.pointer (some ⟨b2,0,none⟩)),(2,.int .i64 x)] w6 kr<|J.ok (OK.ldBox S6 2 21 3 0 (.int .i64 s) kr rfl kr)<|J.run 2 K43_8 [(23,.bool (((c.ab.getD (i).toNat (⟨0,0,0,0,0⟩:Mv)).aC)==s)),(8,.int .i64 i),(9,.pointer (some ⟨b4,0,none⟩)),(13,.int .i64 i),(12,.int .i64 (c.ai:Int)),(11,.slice c.aq c.ai c.au),(6,.pointer (some ⟨b3,0,none⟩)),(4,.pointer (some ⟨b2,0,none⟩)),(2,.int .i64 x)] w6 kr ?_
  by_cases fk2:((c.ab.getD (i).toNat (⟨0,0,0,0,0⟩:Mv)).aC)=s
  refine J.head (.bool true) (congrArg Value.bool (beq_iff_eq.2 fk2))<|J.run 1 K43_9 [(24,.pointer (some ⟨b4,4,none⟩)),(23,.bool true),(8,.int .i64 i),(9,.pointer (some ⟨b4,0,none⟩)),(13,.int .i64 i),(12,.int .i64 (c.ai:Int)),(11,.slice c.aq c.ai c.au),(6,.pointer (some ⟨b3,0,none⟩)),(4,.pointer (some ⟨b2,0,none⟩)),(2,.int .i64 x)] w6 kr<|J.ok (OK.ldBox S6 0 25 3 4 (.int .i64 ((c.ab.getD (i).toNat (⟨0,0,0,0,0⟩:Mv)).ax)) kr rfl kr)<|J.run 1 K43_10 [(26,.pointer (some ⟨b2,1,none⟩)),(25,.int .i64 ((c.ab.getD (i).toNat (⟨0,0,0,0,0⟩:Mv)).ax)),(23,.bool true),(8,.int .i64 i),(9,.pointer (some ⟨b4,0,none⟩)),(13,.int .i64 i),(12,.int .i64 (c.ai:Int)),(11,.slice c.aq c.ai c.au),(6,.pointer (some ⟨b3,0,none⟩)),(4,.pointer (some ⟨b2,0,none⟩)),(2,.int .i64 x)] w6 kr<|J.ok (OK.ldBox S6 2 27 3 1 (.int .i64 a) kr rfl kr)<|J.run 3 K43_11 [(30,.bool (decide (((c.ab.getD (i).toNat (⟨0,0,0,0,0⟩:Mv)).ax)≤a))),(8,.int .i64 i),(9,.pointer (some ⟨b4,0,none⟩)),(13,.int .i64 i),(12,.int .i64 (c.ai:Int)),(11,.slice c.aq c.ai c.au),(6,.pointer (some ⟨b3,0,none⟩)),(4,.pointer (some ⟨b2,0,none⟩)),(2,.int .i64 x)] w6 kr ?_
  by_cases fk3:((c.ab.getD (i).toNat (⟨0,0,0,0,0⟩:Mv)).ax)≤a
  refine J.head (.bool true) (congrArg Value.bool (decide_eq_true fk3))<|J.run 2 K43_12 [(32,.pointer (some ⟨b4,2,none⟩)),(31,.int .i64 x),(30,.bool true),(8,.int .i64 i),(9,.pointer (some ⟨b4,0,none⟩)),(13,.int .i64 i),(12,.int .i64 (c.ai:Int)),(11,.slice c.aq c.ai c.au),(6,.pointer (some ⟨b3,0,none⟩)),(4,.pointer (some ⟨b2,0,none⟩)),(2,.int .i64 x)] w6 kr<|J.ok (OK.ldBox S6 0 33 3 2 (.int .i64 ((c.ab.getD (i).toNat (⟨0,0,0,0,0⟩:Mv)).gOn)) kr rfl kr)<|J.run 1 K43_13 [(34,.int .i64 (IntKind.wrap .i64 ((BitVec.ofInt 64 x &&& (BitVec.ofInt 64 ((c.ab.getD (i).toNat (⟨0,0,0,0,0⟩:Mv)).gOn))).toNat:Int))),(30,.bool true),(8,.int .i64 i),(9,.pointer (some ⟨b4,0,none⟩)),(13,.int .i64 i),(12,.int .i64 (c.ai:Int)),(11,.slice c.aq c.ai c.au),(6,.pointer (some ⟨b3,0,none⟩)),(4,.pointer (some ⟨b2,0,none⟩)),(2,.int .i64 x)] w6 kr<|J.head (.int .i64 (andF x ((c.ab.getD (i).toNat (⟨0,0,0,0,0⟩:Mv)).gOn))) (congrArg (Value.int .i64) rfl)<|J.run 1 K43_14 [(35,.pointer (some ⟨b4,2,none⟩)),(34,.int .i64 (andF x ((c.ab.getD (i).toNat (⟨0,0,0,0,0⟩:Mv)).gOn))),(30,.bool true),(8,.int .i64 i),(9,.pointer (some ⟨b4,0,none⟩)),(13,.int .i64 i),(12,.int .i64 (c.ai:Int)),(11,.slice c.aq c.ai c.au),(6,.pointer (some ⟨b3,0,none⟩)),(4,.pointer (some ⟨b2,0,none⟩)),(2,.int .i64 x)] w6 kr<|J.ok (OK.ldBox S6 0 36 3 2 (.int .i64 ((c.ab.getD (i).toNat (⟨0,0,0,0,0⟩:Mv)).gOn)) kr rfl kr)<|J.run 3 K43_15 [(39,.bool ((andF x ((c.ab.getD (i).toNat (⟨0,0,0,0,0⟩:Mv)).gOn))==((c.ab.getD (i).toNat (⟨0,0,0,0,0⟩:Mv)).gOn))),(8,.int .i64 i),(9,.pointer (some ⟨b4,0,none⟩)),(13,.int .i64 i),(12,.int .i64 (c.ai:Int)),(11,.slice c.aq c.ai c.au),(6,.pointer (some ⟨b3,0,none⟩)),(4,.pointer (some ⟨b2,0,none⟩)),(2,.int .i64 x)] w6 kr ?_
  by_cases fk4:(andF x ((c.ab.getD (i).toNat (⟨0,0,0,0,0⟩:Mv)).gOn))=((c.ab.getD (i).toNat (⟨0,0,0,0,0⟩:Mv)).gOn)
  refine J.head (.bool true) (congrArg Value.bool (beq_iff_eq.2 fk4))<|J.run 2 K43_16 [(41,.pointer (some ⟨b4,3,none⟩)),(40,.int .i64 x),(39,.bool true),(8,.int .i64 i),(9,.pointer (some ⟨b4,0,none⟩)),(13,.int .i64 i),(12,.int .i64 (c.ai:Int)),(11,.slice c.aq c.ai c.au),(6,.pointer (some ⟨b3,0,none⟩)),(4,.pointer (some ⟨b2,0,none⟩)),(2,.int .i64 x)] w6 kr<|J.ok (OK.ldBox S6 0 42 3 3 (.int .i64 ((c.ab.getD (i).toNat (⟨0,0,0,0,0⟩:Mv)).aN)) kr rfl kr)<|J.run 1 K43_17 [(43,.int .i64 (IntKind.wrap .i64 ((BitVec.ofInt 64 x &&& (BitVec.ofInt 64 ((c.ab.getD (i).toNat (⟨0,0,0,0,0⟩:Mv)).aN))).toNat:Int))),(39,.bool true),(8,.int .i64 i),(9,.pointer (some ⟨b4,0,none⟩)),(13,.int .i64 i),(12,.int .i64 (c.ai:Int)),(11,.slice c.aq c.ai c.au),(6,.pointer (some ⟨b3,0,none⟩)),(4,.pointer (some ⟨b2,0,none⟩)),(2,.int .i64 x)] w6 kr<|J.head (.int .i64 (andF x ((c.ab.getD (i).toNat (⟨0,0,0,0,0⟩:Mv)).aN))) (congrArg (Value.int .i64) rfl)<|J.run 3 K43_18 [(45,.bool ((andF x ((c.ab.getD (i).toNat (⟨0,0,0,0,0⟩:Mv)).aN))==0)),(8,.int .i64 i),(9,.pointer (some ⟨b4,0,none⟩)),(13,.int .i64 i),(12,.int .i64 (c.ai:Int)),(11,.slice c.aq c.ai c.au),(6,.pointer (some ⟨b3,0,none⟩)),(4,.pointer (some ⟨b2,0,none⟩)),(2,.int .i64 x)] w6 kr ?_
  by_cases fk5:(andF x ((c.ab.getD (i).toNat (⟨0,0,0,0,0⟩:Mv)).aN))=0
  refine J.head (.bool true) (congrArg Value.bool (beq_iff_eq.2 fk5))<|J.run 4 K43_19 [(46,.pointer (some ⟨b4,1,none⟩)),(8,.int .i64 i),(6,.pointer (some ⟨b3,0,none⟩))] w6 kr<|J.ok (OK.ldBox S6 0 47 3 1 (.int .i64 ((c.ab.getD (i).toNat (⟨0,0,0,0,0⟩:Mv)).gTo)) kr rfl kr)<|J.run 2 K43_20 [(49,.int .i64 i),(48,.agg #[.int .i64 ((c.ab.getD (i).toNat (⟨0,0,0,0,0⟩:Mv)).gTo),.int .i64 0]),(6,.pointer (some ⟨b3,0,none⟩))] w6 kr<|J.stBox S6 1 80 0 (.agg #[.int .i64 ((c.ab.getD (i).toNat (⟨0,0,0,0,0⟩:Mv)).gTo),.int .i64 0]) [.int .i64 ((c.ab.getD (i).toNat (⟨0,0,0,0,0⟩:Mv)).gTo),.int .i64 0] [box b4 [.int .i64 ((c.ab.getD (i).toNat (⟨0,0,0,0,0⟩:Mv)).aC),.int .i64 ((c.ab.getD (i).toNat (⟨0,0,0,0,0⟩:Mv)).gTo),.int .i64 ((c.ab.getD (i).toNat (⟨0,0,0,0,0⟩:Mv)).gOn),.int .i64 ((c.ab.getD (i).toNat (⟨0,0,0,0,0⟩:Mv)).aN),.int .i64 ((c.ab.getD (i).toNat (⟨0,0,0,0,0⟩:Mv)).ax)] 57,box b3 [.int .i64 ((c.ab.getD (i).toNat (⟨0,0,0,0,0⟩:Mv)).gTo),.int .i64 0] 80,box b2 [.int .i64 s,.int .i64 a] 80,box b1 [.slice c.al c.aj c.ao,.slice c.ak c.af c.am,.int .i64 c.av,.slice c.aq c.ai c.au] 25] kr rfl kr kr rfl ?_
  intro w7 S7
  refine J.run 2 K43_21 [(7,.int .i64 i),(6,.pointer (some ⟨b3,0,none⟩))] w7 kr<|J.ret Tryz.f43 [.agg #[.int .i64 ((c.ab.getD (i).toNat (⟨0,0,0,0,0⟩:Mv)).gTo),.int .i64 0],.int .i64 i] func43 ⟨⟨⟨b3,0,none⟩,kr,aI (S7.nth 1 rfl) kr⟩,kr,trivial⟩<|hR _ _ ?_
  obtain ⟨e1,e2,e3⟩:=step_at h0 om hq (fit_yes om)
  exact⟨by rw[tup_two,e1,e2,e3],S7.nil⟩
  refine J.head (.bool false) (congrArg Value.bool (beq_eq_false_iff_ne.2 fk5))<|J.run 5 K43_22 [(50,.int .i64 (IntKind.wrap .i64 (i+1))),(12,.int .i64 (c.ai:Int)),(11,.slice c.aq c.ai c.au),(6,.pointer (some ⟨b3,0,none⟩)),(4,.pointer (some ⟨b2,0,none⟩)),(2,.int .i64 x)] w6 kr<|J.head (.int .i64 (i+1)) (congrArg (Value.int .i64) (IntWalk.i64_in _ om))<|J.run 3 K43_2 [(13,.int .i64 (i+1)),(12,.int .i64 (c.ai:Int)),(11,.slice c.aq c.ai c.au),(6,.pointer (some ⟨b3,0,none⟩)),(4,.pointer (some ⟨b2,0,none⟩)),(2,.int .i64 x)] w6 kr ?_
  have S8:Sep w [box b3 [.int .i64 0,.int .i64 0] 80,box b2 [.int .i64 s,.int .i64 a] 80,box b1 [.slice c.al c.aj c.ao,.slice c.ak c.af c.am,.int .i64 c.av,.slice c.aq c.ai c.au] 25] w6:=S6.erase 0
  clear S6
  exact J.run 0 K43_2 [(13,.int .i64 (i+1)),(12,.int .i64 (c.ai:Int)),(11,.slice c.aq c.ai c.au),(6,.pointer (some ⟨b3,0,none⟩)),(4,.pointer (some ⟨b2,0,none⟩)),(2,.int .i64 x)] w6 kr<|ih1 _ (show((c.ai:Int)-(i+1)).toNat<mm1 from by omega) (i+1) w6 om om (by intro j hj;by_cases e:j=i.toNat;(subst e;exact fit_no om);exact hq j om) S8 rfl
  refine J.head (.bool false) (congrArg Value.bool (beq_eq_false_iff_ne.2 fk4))<|J.run 12 K43_23 [(50,.int .i64 (IntKind.wrap .i64 (i+1))),(12,.int .i64 (c.ai:Int)),(11,.slice c.aq c.ai c.au),(6,.pointer (some ⟨b3,0,none⟩)),(4,.pointer (some ⟨b2,0,none⟩)),(2,.int .i64 x)] w6 kr<|J.head (.int .i64 (i+1)) (congrArg (Value.int .i64) (IntWalk.i64_in _ om))<|J.run 3 K43_2 [(13,.int .i64 (i+1)),(12,.int .i64 (c.ai:Int)),(11,.slice c.aq c.ai c.au),(6,.pointer (some ⟨b3,0,none⟩)),(4,.pointer (some ⟨b2,0,none⟩)),(2,.int .i64 x)] w6 kr ?_
  have S9:Sep w [box b3 [.int .i64 0,.int .i64 0] 80,box b2 [.int .i64 s,.int .i64 a] 80,box b1 [.slice c.al c.aj c.ao,.slice c.ak c.af c.am,.int .i64 c.av,.slice c.aq c.ai c.au] 25] w6:=S6.erase 0
  clear S6
  exact J.run 0 K43_2 [(13,.int .i64 (i+1)),(12,.int .i64 (c.ai:Int)),(11,.slice c.aq c.ai c.au),(6,.pointer (some ⟨b3,0,none⟩)),(4,.pointer (some ⟨b2,0,none⟩)),(2,.int .i64 x)] w6 kr<|ih1 _ (show((c.ai:Int)-(i+1)).toNat<mm1 from by omega) (i+1) w6 om om (by intro j hj;by_cases e:j=i.toNat;(subst e;exact fit_no om);exact hq j om) S9 rfl
  refine J.head (.bool false) (congrArg Value.bool (decide_eq_false fk3))<|J.run 21 K43_24 [(50,.int .i64 (IntKind.wrap .i64 (i+1))),(12,.int .i64 (c.ai:Int)),(11,.slice c.aq c.ai c.au),(6,.pointer (some ⟨b3,0,none⟩)),(4,.pointer (some ⟨b2,0,none⟩)),(2,.int .i64 x)] w6 kr<|J.head (.int .i64 (i+1)) (congrArg (Value.int .i64) (IntWalk.i64_in _ om))<|J.run 3 K43_2 [(13,.int .i64 (i+1)),(12,.int .i64 (c.ai:Int)),(11,.slice c.aq c.ai c.au),(6,.pointer (some ⟨b3,0,none⟩)),(4,.pointer (some ⟨b2,0,none⟩)),(2,.int .i64 x)] w6 kr ?_
  have S10:Sep w [box b3 [.int .i64 0,.int .i64 0] 80,box b2 [.int .i64 s,.int .i64 a] 80,box b1 [.slice c.al c.aj c.ao,.slice c.ak c.af c.am,.int .i64 c.av,.slice c.aq c.ai c.au] 25] w6:=S6.erase 0
  clear S6
  exact J.run 0 K43_2 [(13,.int .i64 (i+1)),(12,.int .i64 (c.ai:Int)),(11,.slice c.aq c.ai c.au),(6,.pointer (some ⟨b3,0,none⟩)),(4,.pointer (some ⟨b2,0,none⟩)),(2,.int .i64 x)] w6 kr<|ih1 _ (show((c.ai:Int)-(i+1)).toNat<mm1 from by omega) (i+1) w6 om om (by intro j hj;by_cases e:j=i.toNat;(subst e;exact fit_no om);exact hq j om) S10 rfl
  refine J.head (.bool false) (congrArg Value.bool (beq_eq_false_iff_ne.2 fk2))<|J.run 28 K43_25 [(50,.int .i64 (IntKind.wrap .i64 (i+1))),(12,.int .i64 (c.ai:Int)),(11,.slice c.aq c.ai c.au),(6,.pointer (some ⟨b3,0,none⟩)),(4,.pointer (some ⟨b2,0,none⟩)),(2,.int .i64 x)] w6 kr<|J.head (.int .i64 (i+1)) (congrArg (Value.int .i64) (IntWalk.i64_in _ om))<|J.run 3 K43_2 [(13,.int .i64 (i+1)),(12,.int .i64 (c.ai:Int)),(11,.slice c.aq c.ai c.au),(6,.pointer (some ⟨b3,0,none⟩)),(4,.pointer (some ⟨b2,0,none⟩)),(2,.int .i64 x)] w6 kr ?_
  have S11:Sep w [box b3 [.int .i64 0,.int .i64 0] 80,box b2 [.int .i64 s,.int .i64 a] 80,box b1 [.slice c.al c.aj c.ao,.slice c.ak c.af c.am,.int .i64 c.av,.slice c.aq c.ai c.au] 25] w6:=S6.erase 0
  clear S6
  exact J.run 0 K43_2 [(13,.int .i64 (i+1)),(12,.int .i64 (c.ai:Int)),(11,.slice c.aq c.ai c.au),(6,.pointer (some ⟨b3,0,none⟩)),(4,.pointer (some ⟨b2,0,none⟩)),(2,.int .i64 x)] w6 kr<|ih1 _ (show((c.ai:Int)-(i+1)).toNat<mm1 from by omega) (i+1) w6 om om (by intro j hj;by_cases e:j=i.toNat;(subst e;exact fit_no om);exact hq j om) S11 rfl
  refine J.head (.bool false) (congrArg Value.bool (decide_eq_false fk1))<|J.run 5 K43_26 [(51,.pointer (some ⟨b2,1,none⟩)),(6,.pointer (some ⟨b3,0,none⟩)),(4,.pointer (some ⟨b2,0,none⟩))] w4 kr<|J.ok (OK.ldBox S4 1 52 3 1 (.int .i64 a) kr rfl kr)<|J.run 1 K43_27 [(53,.int .i64 (IntKind.wrap .i64 (a+1))),(6,.pointer (some ⟨b3,0,none⟩)),(4,.pointer (some ⟨b2,0,none⟩))] w4 kr<|J.head (.int .i64 (a+1)) (congrArg (Value.int .i64) (IntWalk.i64_in _ om))<|J.run 1 K43_28 [(54,.int .i64 (if 1000<(a+1) then 1000 else (a+1))),(6,.pointer (some ⟨b3,0,none⟩)),(4,.pointer (some ⟨b2,0,none⟩))] w4 kr<|J.head (.int .i64 (min (a+1) 1000)) (congrArg (Value.int .i64) om)<|J.run 1 K43_29 [(55,.pointer (some ⟨b2,1,none⟩)),(54,.int .i64 (min (a+1) 1000)),(6,.pointer (some ⟨b3,0,none⟩)),(4,.pointer (some ⟨b2,0,none⟩))] w4 kr<|J.stBox S4 1 3 1 (.int .i64 (min (a+1) 1000)) [.int .i64 s,.int .i64 (min (a+1) 1000)] [box b3 [.int .i64 0,.int .i64 0] 80,box b2 [.int .i64 s,.int .i64 (min (a+1) 1000)] 80,box b1 [.slice c.al c.aj c.ao,.slice c.ak c.af c.am,.int .i64 c.av,.slice c.aq c.ai c.au] 25] kr rfl kr kr rfl ?_
  intro w8 S12
  refine J.run 3 K43_30 [(6,.pointer (some ⟨b3,0,none⟩)),(4,.pointer (some ⟨b2,0,none⟩))] w8 kr<|J.ok (OK.ldBox S12 1 56 80 0 (.agg #[.int .i64 s,.int .i64 (min (a+1) 1000)]) kr rfl kr)<|J.stBox S12 0 80 0 (.agg #[.int .i64 s,.int .i64 (min (a+1) 1000)]) [.int .i64 s,.int .i64 (min (a+1) 1000)] [box b3 [.int .i64 s,.int .i64 (min (a+1) 1000)] 80,box b2 [.int .i64 s,.int .i64 (min (a+1) 1000)] 80,box b1 [.slice c.al c.aj c.ao,.slice c.ak c.af c.am,.int .i64 c.av,.slice c.aq c.ai c.au] 25] kr rfl kr kr rfl ?_
  intro w9 S13
  refine J.run 2 K43_31 [(7,.int .i64 (-1)),(6,.pointer (some ⟨b3,0,none⟩))] w9 kr<|J.ret Tryz.f43 [.agg #[.int .i64 s,.int .i64 (min (a+1) 1000)],.int .i64 (-1)] func43 ⟨⟨⟨b3,0,none⟩,kr,aI (S13.nth 0 rfl) kr⟩,kr,trivial⟩<|hR _ _ ?_
  obtain ⟨e1,e2,e3⟩:=step_none (c:=c) (s:=s) (a:=a) (x:=x) fun j hj=>hq j om
  exact⟨by rw[tup_two,e1,e2,e3],S13.nil⟩
 exact L43_1 _ 0 w3 om om (by intro j hj;simp at hj) S3 rfl

theorem list_ext_getD {l m:List Int} (h:l.length=m.length) (h2:∀ k,k<l.length→l.getD k 0=m.getD k 0):l=m:=by
  apply List.ext_getElem h
  intro k h3 h4
  have:=h2 k h3
  simpa [List.getD,h3,h4] using this
theorem beq_no {l m:List Int} {n k:Nat} (h:l.length=n) (h2:m.length=k) (hne:(n:Int)≠k):(l==m)=false:=by
  rw[beq_eq_false_iff_ne];intro e;rw[e] at h;omega
theorem beq_at {l m:List Int} {i:Nat} (h:l.getD i 0≠m.getD i 0):(l==m)=false:=by
  rw[beq_eq_false_iff_ne];intro e;rw[e] at h;exact h rfl
theorem beq_all {l m:List Int} (h:l.length=m.length) (h2:∀ j,j<l.length→l.getD j 0=m.getD j 0):(l==m)=true:=by rw[beq_iff_eq];exact list_ext_getD h h2

theorem hb14:aJ prog 14:=fun _ _=>by kernel_rfl
def K14_0:=adv 13 [] (aY Tryz.f14)
def K14_1:=adv 11 [false] K14_0
def K14_2:=adv 5 [] K14_1
def K14_3:=adv 10 [true] K14_2
def K14_4:=adv 5 [false] (ci K14_3)
def K14_5:=adv 5 [true] (ci K14_3)
def K14_6:=adv 6 [false] K14_2
def K14_7:=adv 5 [true] K14_0
set_option maxRecDepth 20000 in
set_option maxHeartbeats 20000000 in
theorem equal_any (la:Option Addr) (len cap:Nat) (l:List Int) (ma:Option Addr) (mn mc:Nat) (ml:List Int) (w:World) (hI:Ints w la len l) (hJ:Ints w ma mn ml) (hlen:len≤9223372036854775807):Ret prog 14 #[.slice la len cap,.slice ma mn mc] w (fun v w'=>v=.bool (l==ml)∧Sep w [] w'):=by
 have S0:=Sep.refl w
 refine Ret.named fun R hR=>Ret.of_J (N:=26) [(0,.slice la len cap),(1,.slice ma mn mc)] func14 rfl rfl (Nat.le_of_ble_eq_true kr) kr ?_
 have hl2:=hI.len_eq
 have hm2:=hJ.len_eq
 refine J.run 13 K14_0 [(10,.bool ((len:Int) != (mn:Int))),(0,.slice la len cap),(1,.slice ma mn mc)] w kr ?_
 by_cases fk1:(len:Int)=(mn:Int)
 refine J.head (.bool false) (congrArg Value.bool (bne_eq_false_iff_eq.2 fk1))<|J.run 11 K14_1 [(13,.int .i64 0),(12,.int .i64 (len:Int)),(0,.slice la len cap),(1,.slice ma mn mc)] w kr ?_
 have L14_1:∀ (mm_:Nat) (i:Int) (w1:World),(0≤i)→(i≤(len:Int))→(∀ j,j<(i).toNat→l.getD j 0=ml.getD j 0)→Sep w [] w1→((len:Int)-i).toNat=mm_→J prog 14 26 R K14_1 [(13,.int .i64 i),(12,.int .i64 (len:Int)),(0,.slice la len cap),(1,.slice ma mn mc)] w1:=by
  intro mm1
  induction mm1 using Nat.strongRecOn with
  | _ mm1 ih1 =>
  intro i w1 h0 h1 hq S1 hm1
  refine J.run 5 K14_2 [(14,.bool (decide (i<(len:Int)))),(13,.int .i64 i),(12,.int .i64 (len:Int)),(0,.slice la len cap),(1,.slice ma mn mc)] w1 kr ?_
  by_cases fk2:i<(len:Int)
  refine J.head (.bool true) (congrArg Value.bool (decide_eq_true fk2))<|J.run 10 K14_3 [(5,.int .i64 i),(13,.int .i64 i),(12,.int .i64 (len:Int)),(0,.slice la len cap),(1,.slice ma mn mc)] w1 kr ?_
  obtain ⟨p1,hp1,hc1⟩:=hI.at 0 (i).toNat om
  obtain ⟨p2,hp2,hc2⟩:=hJ.at 0 (i).toNat om
  refine J.drawStill S1 9 Tryz.mixed kr kr kr ?_
  intro w2 S2
  refine SL.ok dE (OK.run 16 (.slice la len cap) kr)<|SL.ok dE (OK.run 17 (.int .i64 i) kr)<|SL.ok dE (OK.index 18 40 1 la p1 len (i).toNat i (p1.add (i).toNat) kr kr hp1 om om nO)<|SL.ok dE (OK.ldCell 19 3 (p1.add (i).toNat) (.int .i64 (l.getD (i).toNat 0)) kr kr (S2.cell hc1))<|SL.ok dE (OK.run 20 (.slice ma mn mc) kr)<|SL.ok dE (OK.run 21 (.int .i64 i) kr)<|SL.ok dE (OK.index 22 40 1 ma p2 mn (i).toNat i (p2.add (i).toNat) kr kr hp2 om om nO)<|SL.ok dE (OK.ldCell 23 3 (p2.add (i).toNat) (.int .i64 (ml.getD (i).toNat 0)) kr kr (S2.cell hc2))<|SL.ok dE (OK.run 24 (.bool ((l.getD (i).toNat 0) != (ml.getD (i).toNat 0))) kr)<|SL.done<|TL.done kr ?_
  refine J.run 0 (ci K14_3) [(24,.bool ((l.getD (i).toNat 0) != (ml.getD (i).toNat 0))),(13,.int .i64 i),(12,.int .i64 (len:Int)),(0,.slice la len cap),(1,.slice ma mn mc)] w2 kr ?_
  by_cases fk3:(l.getD (i).toNat 0)=(ml.getD (i).toNat 0)
  exact J.head (.bool false) (congrArg Value.bool (bne_eq_false_iff_eq.2 fk3))<|J.run 5 K14_4 [(25,.int .i64 (IntKind.wrap .i64 (i+1))),(12,.int .i64 (len:Int)),(0,.slice la len cap),(1,.slice ma mn mc)] w2 kr<|J.head (.int .i64 (i+1)) (congrArg (Value.int .i64) (IntWalk.i64_in _ om))<|J.run 3 K14_1 [(13,.int .i64 (i+1)),(12,.int .i64 (len:Int)),(0,.slice la len cap),(1,.slice ma mn mc)] w2 kr<|J.run 0 K14_1 [(13,.int .i64 (i+1)),(12,.int .i64 (len:Int)),(0,.slice la len cap),(1,.slice ma mn mc)] w2 kr<|ih1 _ (show((len:Int)-(i+1)).toNat<mm1 from by omega) (i+1) w2 om om (by intro j hj;by_cases e:j=i.toNat;(subst e;exact fk3);exact hq j om) S2 rfl
  exact J.head (.bool true) (congrArg Value.bool (bne_iff_ne.2 fk3))<|J.run 5 K14_5 [(4,.bool false)] w2 kr<|J.ret Tryz.f14 [.bool false] func14 ⟨kr,trivial⟩<|hR _ _<|⟨congrArg Value.bool (beq_at (i:=i.toNat) fk3).symm,S2.nil⟩
  exact J.head (.bool false) (congrArg Value.bool (decide_eq_false fk2))<|J.run 6 K14_6 [(4,.bool true)] w1 kr<|J.ret Tryz.f14 [.bool true] func14 ⟨kr,trivial⟩<|hR _ _<|⟨congrArg Value.bool (beq_all om fun j hj=>hq j om).symm,S1.nil⟩
 exact L14_1 _ 0 w om om (by intro j hj;simp at hj) S0 rfl
 exact J.head (.bool true) (congrArg Value.bool (bne_iff_ne.2 fk1))<|J.run 5 K14_7 [(4,.bool false)] w kr<|J.ret Tryz.f14 [.bool false] func14 ⟨kr,trivial⟩<|hR _ _<|⟨congrArg Value.bool (beq_no hl2 hm2 om).symm,S0.nil⟩
 /-- state and age after so many steps -/
def stF (c:Cht) (l:List Int):Nat→Int×Int
  | 0=>(c.av,0)
  | k+1=>(bT c (stF c l k).1 (stF c l k).2 (l.getD k 0),stepA c (stF c l k).1 (stF c l k).2 (l.getD k 0))
def outF (c:Cht) (l:List Int) (k:Nat):List Int:=(List.range k).map fun j=>(stF c l (j+1)).1
def runE (c:Cht) (l:List Int):Int:=if aM c=false then 1 else if 1000<l.length then 5 else if (l.any fun x=> !cA c x) then 2 else 0
def runO (c:Cht) (l:List Int):List Int:=if runE c l=0 then outF c l l.length else []
theorem outF_snoc {c:Cht} {l:List Int} {i s a:Int} (h0:0≤i) (hs:s=(stF c l i.toNat).1) (ha:a=(stF c l i.toNat).2):outF c l (i+1).toNat=outF c l i.toNat++[bT c s a (l.getD i.toNat 0)]:=by
  rw[show(i+1).toNat=i.toNat+1 by omega,hs,ha];unfold outF;rw[List.range_succ,List.map_append];rfl
theorem stF_next {c:Cht} {l:List Int} {i s a:Int} (h0:0≤i) (hs:s=(stF c l i.toNat).1) (ha:a=(stF c l i.toNat).2):bT c s a (l.getD i.toNat 0)=(stF c l (i+1).toNat).1∧stepA c s a (l.getD i.toNat 0)=(stF c l (i+1).toNat).2:=by
  rw[show(i+1).toNat=i.toNat+1 by omega,hs,ha];exact⟨rfl,rfl⟩
theorem run_ok {c:Cht} {l:List Int} (h1:aM c=true) (h2:l.length≤1000) (h3:(l.any fun x=> !cA c x)=false):runE c l=0∧runO c l=outF c l l.length:=by
  have e:runE c l=0:=by unfold runE;rw[if_neg (by rw[h1];decide),if_neg om,if_neg (by rw[h3];decide)]
  exact⟨e,by unfold runO;rw[if_pos e]⟩
theorem run_err {c:Cht} {l:List Int} {e:Int} (h:runE c l=e) (h0:e≠0):runO c l=[]:=by unfold runO;rw[if_neg om]
theorem run_e1 {c:Cht} {l:List Int} (h1:aM c=false):runE c l=1:=by unfold runE;rw[if_pos h1]
theorem run_e5 {c:Cht} {l:List Int} (h1:aM c=true) (h2:1000<l.length):runE c l=5:=by unfold runE;rw[if_neg (by rw[h1];decide),if_pos h2]
theorem run_e2 {c:Cht} {l:List Int} (h1:aM c=true) (h2:l.length≤1000) (h3:(l.any fun x=> !cA c x)=true):runE c l=2:=by unfold runE;rw[if_neg (by rw[h1];decide),if_neg om,if_pos h3]
theorem runE_bounds (c:Cht) (l:List Int):0≤runE c l∧runE c l≤5:=by
  unfold runE
  split
  · omega
  · split
    · omega
    · split<;>omega
theorem stF_bounds {c:Cht} (h:aM c=true) (l:List Int) (k:Nat):(0≤(stF c l k).1∧(stF c l k).1<(c.aj:Int))∧0≤(stF c l k).2∧(stF c l k).2≤1000:=by
  induction k with
  | zero=>have:=cr h;simp[stF];omega
  | succ k ih=>exact step_bounds h _ ih.1 ih.2
theorem hb12:aJ prog 12:=fun _ _=>by kernel_rfl
def K12_0:=adv 2 [] (aY Tryz.f12)
def K12_1:=adv 6 [] (aK K12_0)
def K12_2:=adv 2 [] (aK (aK K12_1))
def K12_3:=adv 9 [false] K12_2
def K12_4:=adv 6 [true] K12_3
def K12_5:=adv 7 [false] K12_3
def K12_6:=adv 1 [] (aK K12_5)
def K12_7:=adv 6 [true] K12_6
def K12_8:=adv 5 [false] K12_6
def K12_9:=adv 1 [] (aK K12_8)
def K12_10:=adv 14 [] (aK (aK K12_9))
def K12_11:=adv 5 [] K12_10
def K12_12:=adv 6 [true] K12_11
def K12_13:=adv 4 [] (aK (aK K12_12))
def K12_14:=adv 1 [] (aK (aK K12_13))
def K12_15:=adv 3 [] (aK K12_14)
def K12_16:=adv 4 [] (aK K12_15)
def K12_17:=adv 5 [] (aK (aK (aK K12_16)))
def K12_18:=adv 8 [false] K12_11
def K12_19:=adv 6 [true] K12_2
set_option maxRecDepth 20000 in
set_option maxHeartbeats 20000000 in
theorem run_any (c:Cht) (la:Option Addr) (len cap:Nat) (l:List Int) (w:World) (hc:chtQ w c) (hI:Ints w la len l) (hlen:len≤9223372036854775807):Ret prog 12 #[.agg #[.slice c.al c.aj c.ao,.slice c.ak c.af c.am,.int .i64 c.av,.slice c.aq c.ai c.au],.slice la len cap] w (fun v w'=>∃ a2 cap2,v=.tuple #[.slice a2 (runO c l).length cap2,.int .i64 (runE c l)]∧Sep w [aa encI a2 cap2 3 1 (runO c l)] w'):=by
 have S0:=Sep.refl w
 refine Ret.named fun R hR=>Ret.of_J (N:=42) [(0,.agg #[.slice c.al c.aj c.ao,.slice c.ak c.af c.am,.int .i64 c.av,.slice c.aq c.ai c.au]),(1,.slice la len cap)] func12 rfl rfl (Nat.le_of_ble_eq_true kr) kr ?_
 obtain ⟨q1,q2,q3,q4,q5,q6,q7,q8,q9,q10,_⟩:=id hc
 have ql1:=q2.len_eq
 have ql2:=q5.len_eq
 have ql3:=q9.len_eq
 have hll:=hI.len_eq
 refine J.run 2 K12_0 [(0,.agg #[.slice c.al c.aj c.ao,.slice c.ak c.af c.am,.int .i64 c.av,.slice c.aq c.ai c.au]),(1,.slice la len cap)] w kr<|J.new S0 2 [.slice c.al c.aj c.ao,.slice c.ak c.af c.am,.int .i64 c.av,.slice c.aq c.ai c.au] 25 kr ?_
 intro b1 w1 S1
 refine J.run 6 K12_1 [(2,.pointer (some ⟨b1,0,none⟩)),(1,.slice la len cap)] w1 kr<|J.ok (OK.ldBox S1 0 10 25 0 (.agg #[.slice c.al c.aj c.ao,.slice c.ak c.af c.am,.int .i64 c.av,.slice c.aq c.ai c.au]) kr rfl kr)<|J.callF 11 17 #[.agg #[.slice c.al c.aj c.ao,.slice c.ak c.af c.am,.int .i64 c.av,.slice c.aq c.ai c.au]] hb17 kr (valid_any c _ (bX hc S1)) ?_
 rintro _ w2 ⟨rfl,T1⟩
 have S2:Sep w [box b1 [.slice c.al c.aj c.ao,.slice c.ak c.af c.am,.int .i64 c.av,.slice c.aq c.ai c.au] 25] w2:=S1.trans T1
 clear T1 S1
 refine J.run 2 K12_2 [(12,.bool (!(aM c))),(2,.pointer (some ⟨b1,0,none⟩)),(1,.slice la len cap)] w2 kr ?_
 rcases Bool.eq_false_or_eq_true (aM c) with fk1 | fk1
 refine J.head (.bool false) (congrArg Value.bool (by rw[fk1];rfl)) ?_
 have hvf:=cr fk1
 refine J.run 9 K12_3 [(15,.bool (decide ((len:Int)>1000))),(2,.pointer (some ⟨b1,0,none⟩)),(1,.slice la len cap)] w2 kr ?_
 by_cases fk2:(len:Int)>1000
 refine J.head (.bool true) (congrArg Value.bool (decide_eq_true fk2))<|J.run 6 K12_4 [(5,.int .i64 5),(4,.slice none 0 0)] w2 kr<|J.ret Tryz.f12 [.slice none 0 0,.int .i64 5] func12 ⟨kr,kr,trivial⟩<|hR _ _ ?_
 have e1:=run_e5 (c:=c) (l:=l) fk1 om
 have e2:=run_err e1 om
 exact⟨none,0,by rw[tup_two,e1,e2];rfl,by rw[e2];exact(S2.nilRow 3 1).pick 0 rfl⟩
 refine J.head (.bool false) (congrArg Value.bool (decide_eq_false fk2))<|J.run 7 K12_5 [(17,.func (.func 41) #[] #[.pointer (some ⟨b1,0,none⟩)]),(16,.slice la len cap),(2,.pointer (some ⟨b1,0,none⟩)),(1,.slice la len cap)] w2 kr ?_
 have hch:chtQ w2 c:=(bX hc S2)
 refine J.callF 18 40 #[.slice la len cap,.func (.func 41) #[] #[.pointer (some ⟨b1,0,none⟩)]] hb40 kr (containsI1 la len cap l 41 (.pointer (some ⟨b1,0,none⟩)) (fun x=> !cA c x) _ (hI.sep S2) oz hb41 (fun i_ w_ hi_ S_=>run1_any c b1 _ w_ (bX hch S_) (by first | omega | decide) (box_keep (S2.nth 0 rfl) S_))) ?_
 rintro _ w3 ⟨rfl,T2⟩
 have S3:Sep w [box b1 [.slice c.al c.aj c.ao,.slice c.ak c.af c.am,.int .i64 c.av,.slice c.aq c.ai c.au] 25] w3:=S2.trans T2
 clear T2 S2
 refine J.run 1 K12_6 [(18,.bool (List.any l (fun x=> !cA c x))),(2,.pointer (some ⟨b1,0,none⟩)),(1,.slice la len cap)] w3 kr ?_
 rcases Bool.eq_false_or_eq_true (List.any l (fun x=> !cA c x)) with fk3 | fk3
 refine J.head (.bool true) (congrArg Value.bool fk3)<|J.run 6 K12_7 [(5,.int .i64 2),(4,.slice none 0 0)] w3 kr<|J.ret Tryz.f12 [.slice none 0 0,.int .i64 2] func12 ⟨kr,kr,trivial⟩<|hR _ _ ?_
 have e1:=run_e2 (c:=c) (l:=l) fk1 om fk3
 have e2:=run_err e1 om
 exact⟨none,0,by rw[tup_two,e1,e2];rfl,by rw[e2];exact(S3.nilRow 3 1).pick 0 rfl⟩
 refine J.head (.bool false) (congrArg Value.bool fk3)<|J.run 5 K12_8 [(19,.pointer (some ⟨b1,2,none⟩)),(2,.pointer (some ⟨b1,0,none⟩)),(1,.slice la len cap)] w3 kr<|J.ok (OK.ldBox S3 0 20 3 2 (.int .i64 c.av) kr rfl kr)<|J.run 1 K12_9 [(21,.agg #[.int .i64 c.av,.int .i64 0]),(2,.pointer (some ⟨b1,0,none⟩)),(1,.slice la len cap)] w3 kr<|J.new S3 6 [.int .i64 0,.int .i64 0] 80 kr ?_
 intro b2 w4 S4
 refine J.stBox S4 0 80 0 (.agg #[.int .i64 c.av,.int .i64 0]) [.int .i64 c.av,.int .i64 0] [box b2 [.int .i64 c.av,.int .i64 0] 80,box b1 [.slice c.al c.aj c.ao,.slice c.ak c.af c.am,.int .i64 c.av,.slice c.aq c.ai c.au] 25] kr rfl kr kr rfl ?_
 intro w5 S5
 refine J.run 14 K12_10 [(24,.int .i64 0),(23,.int .i64 (len:Int)),(22,.slice la len cap),(7,.slice none 0 0),(6,.pointer (some ⟨b2,0,none⟩)),(2,.pointer (some ⟨b1,0,none⟩))] w5 kr ?_
 have S6:Sep w [aa encI none 0 3 1 ([]),box b2 [.int .i64 c.av,.int .i64 0] 80,box b1 [.slice c.al c.aj c.ao,.slice c.ak c.af c.am,.int .i64 c.av,.slice c.aq c.ai c.au] 25] w5:=S5.nilRow 3 1
 have L12_1:∀ (mm_:Nat) (ra:Option Addr) (rc:Nat) (ls:List Int) (s:Int) (a:Int) (i:Int) (w6:World),(0≤i)→(i≤(len:Int))→((ls).length=(i).toNat)→(s=(stF c l (i).toNat).1)→(a=(stF c l (i).toNat).2)→(ls=outF c l (i).toNat)→Sep w [aa encI ra rc 3 1 ls,box b2 [.int .i64 s,.int .i64 a] 80,box b1 [.slice c.al c.aj c.ao,.slice c.ak c.af c.am,.int .i64 c.av,.slice c.aq c.ai c.au] 25] w6→((len:Int)-i).toNat=mm_→J prog 12 42 R K12_10 [(24,.int .i64 i),(23,.int .i64 (len:Int)),(22,.slice la len cap),(7,.slice ra ls.length rc),(6,.pointer (some ⟨b2,0,none⟩)),(2,.pointer (some ⟨b1,0,none⟩))] w6:=by
  intro mm1
  induction mm1 using Nat.strongRecOn with
  | _ mm1 ih1 =>
  intro ra rc ls s a i w6 h0 h1 hn hs ha hls S7 hm1
  have hsb:=stF_bounds fk1 l i.toNat;rw[← hs,← ha] at hsb
  refine J.run 5 K12_11 [(25,.bool (decide (i<(len:Int)))),(24,.int .i64 i),(23,.int .i64 (len:Int)),(22,.slice la len cap),(7,.slice ra ls.length rc),(6,.pointer (some ⟨b2,0,none⟩)),(2,.pointer (some ⟨b1,0,none⟩))] w6 kr ?_
  by_cases fk4:i<(len:Int)
  refine J.head (.bool true) (congrArg Value.bool (decide_eq_true fk4))<|J.run 6 K12_12 [(24,.int .i64 i),(23,.int .i64 (len:Int)),(22,.slice la len cap),(7,.slice ra ls.length rc),(6,.pointer (some ⟨b2,0,none⟩)),(2,.pointer (some ⟨b1,0,none⟩))] w6 kr ?_
  obtain ⟨p1,hp1,hc1⟩:=hI.at 0 (i).toNat om
  refine J.ok (OK.index 26 40 1 la p1 len (i).toNat i (p1.add (i).toNat) kr kr hp1 om om nO)<|J.ok (OK.ldCell 27 3 (p1.add (i).toNat) (.int .i64 (l.getD (i).toNat 0)) kr kr (S7.cell hc1))<|J.run 4 K12_13 [(9,.int .i64 (l.getD (i).toNat 0)),(24,.int .i64 i),(23,.int .i64 (len:Int)),(22,.slice la len cap),(7,.slice ra ls.length rc),(6,.pointer (some ⟨b2,0,none⟩)),(2,.pointer (some ⟨b1,0,none⟩))] w6 kr<|J.ok (OK.ldBox S7 2 29 25 0 (.agg #[.slice c.al c.aj c.ao,.slice c.ak c.af c.am,.int .i64 c.av,.slice c.aq c.ai c.au]) kr rfl kr)<|J.ok (OK.ldBox S7 1 30 80 0 (.agg #[.int .i64 s,.int .i64 a]) kr rfl kr)<|J.run 1 K12_14 [(31,.int .i64 (l.getD (i).toNat 0)),(30,.agg #[.int .i64 s,.int .i64 a]),(29,.agg #[.slice c.al c.aj c.ao,.slice c.ak c.af c.am,.int .i64 c.av,.slice c.aq c.ai c.au]),(24,.int .i64 i),(23,.int .i64 (len:Int)),(22,.slice la len cap),(7,.slice ra ls.length rc),(6,.pointer (some ⟨b2,0,none⟩)),(2,.pointer (some ⟨b1,0,none⟩))] w6 kr<|J.callF 32 43 #[.agg #[.slice c.al c.aj c.ao,.slice c.ak c.af c.am,.int .i64 c.av,.slice c.aq c.ai c.au],.agg #[.int .i64 s,.int .i64 a],.int .i64 (l.getD (i).toNat 0)] hb43 kr (step_any c s a (l.getD (i).toNat 0) _ (bX hc S7) om) ?_
  rintro _ w7 ⟨rfl,T3⟩
  have S8:Sep w [aa encI ra rc 3 1 ls,box b2 [.int .i64 s,.int .i64 a] 80,box b1 [.slice c.al c.aj c.ao,.slice c.ak c.af c.am,.int .i64 c.av,.slice c.aq c.ai c.au] 25] w7:=S7.trans T3
  clear T3 S7
  have:=stepI_bounds c s a (l.getD (i).toNat 0)
  refine J.run 3 K12_15 [(33,.agg #[.int .i64 (bT c s a (l.getD (i).toNat 0)),.int .i64 (stepA c s a (l.getD (i).toNat 0))]),(24,.int .i64 i),(23,.int .i64 (len:Int)),(22,.slice la len cap),(7,.slice ra ls.length rc),(6,.pointer (some ⟨b2,0,none⟩)),(2,.pointer (some ⟨b1,0,none⟩))] w7 kr<|J.stBox S8 1 80 0 (.agg #[.int .i64 (bT c s a (l.getD (i).toNat 0)),.int .i64 (stepA c s a (l.getD (i).toNat 0))]) [.int .i64 (bT c s a (l.getD (i).toNat 0)),.int .i64 (stepA c s a (l.getD (i).toNat 0))] [aa encI ra rc 3 1 ls,box b2 [.int .i64 (bT c s a (l.getD (i).toNat 0)),.int .i64 (stepA c s a (l.getD (i).toNat 0))] 80,box b1 [.slice c.al c.aj c.ao,.slice c.ak c.af c.am,.int .i64 c.av,.slice c.aq c.ai c.au] 25] kr rfl kr kr rfl ?_
  intro w8 S9
  refine J.run 4 K12_16 [(36,.pointer (some ⟨b2,0,none⟩)),(35,.slice ra ls.length rc),(24,.int .i64 i),(23,.int .i64 (len:Int)),(22,.slice la len cap),(6,.pointer (some ⟨b2,0,none⟩)),(2,.pointer (some ⟨b1,0,none⟩))] w8 kr<|J.ok (OK.ldBox S9 1 37 3 0 (.int .i64 (bT c s a (l.getD (i).toNat 0))) kr rfl kr)<|J.newSlice S9 38 1 [.int .i64 (bT c s a (l.getD (i).toNat 0))] 3 kr ?_
  intro b3 w9 S10
  refine J.append encI S10 1 ls (bT c s a (l.getD (i).toNat 0)) 39 40 (.int .i64 0) 8 ⟨b3,0,none⟩ 1 rfl kr kr kr kr dE (aU (S10.nth 0 rfl)) kr kr (⟨om,om⟩) ?_
  intro ra1 rc1 w10 S11
  replace S11:Sep w [box b3 [.int .i64 (bT c s a (l.getD (i).toNat 0))] 3,aa encI ra1 rc1 3 1 (ls++[bT c s a (l.getD (i).toNat 0)]),box b2 [.int .i64 (bT c s a (l.getD (i).toNat 0)),.int .i64 (stepA c s a (l.getD (i).toNat 0))] 80,box b1 [.slice c.al c.aj c.ao,.slice c.ak c.af c.am,.int .i64 c.av,.slice c.aq c.ai c.au] 25] w10:=S11
  have S12:Sep w [aa encI ra1 rc1 3 1 (ls++[bT c s a (l.getD (i).toNat 0)]),box b2 [.int .i64 (bT c s a (l.getD (i).toNat 0)),.int .i64 (stepA c s a (l.getD (i).toNat 0))] 80,box b1 [.slice c.al c.aj c.ao,.slice c.ak c.af c.am,.int .i64 c.av,.slice c.aq c.ai c.au] 25] w10:=S11.erase 0
  clear S11
  exact J.run 5 K12_17 [(40,.int .i64 (IntKind.wrap .i64 (i+1))),(7,.slice ra1 ((ls++[bT c s a (l.getD (i).toNat 0)]).length) rc1),(23,.int .i64 (len:Int)),(22,.slice la len cap),(6,.pointer (some ⟨b2,0,none⟩)),(2,.pointer (some ⟨b1,0,none⟩))] w10 kr<|J.head (.int .i64 (i+1)) (congrArg (Value.int .i64) (IntWalk.i64_in _ om))<|J.run 3 K12_10 [(24,.int .i64 (i+1)),(7,.slice ra1 ((ls++[bT c s a (l.getD (i).toNat 0)]).length) rc1),(23,.int .i64 (len:Int)),(22,.slice la len cap),(6,.pointer (some ⟨b2,0,none⟩)),(2,.pointer (some ⟨b1,0,none⟩))] w10 kr<|J.run 0 K12_10 [(24,.int .i64 (i+1)),(23,.int .i64 (len:Int)),(22,.slice la len cap),(7,.slice ra1 ((ls++[bT c s a (l.getD (i).toNat 0)]).length) rc1),(6,.pointer (some ⟨b2,0,none⟩)),(2,.pointer (some ⟨b1,0,none⟩))] w10 kr<|ih1 _ (show((len:Int)-(i+1)).toNat<mm1 from by omega) ra1 rc1 (ls++[bT c s a (l.getD (i).toNat 0)]) (bT c s a (l.getD (i).toNat 0)) (stepA c s a (l.getD (i).toNat 0)) (i+1) w10 om om (by simp;omega) ((stF_next h0 hs ha).1) ((stF_next h0 hs ha).2) (by rw[outF_snoc h0 hs ha,← hls]) S12 rfl
  refine J.head (.bool false) (congrArg Value.bool (decide_eq_false fk4))<|J.run 8 K12_18 [(5,.int .i64 0),(4,.slice ra ls.length rc)] w6 kr<|J.ret Tryz.f12 [.slice ra ls.length rc,.int .i64 0] func12 ⟨kr,kr,trivial⟩<|hR _ _ ?_
  obtain ⟨e1,e2⟩:=run_ok (c:=c) (l:=l) fk1 om fk3
  have e3:ls=runO c l:=by rw[e2,hls,show i.toNat=l.length by omega]
  subst e3
  exact⟨ra,rc,by rw[tup_two,e1],S7.pick 0 rfl⟩
 exact L12_1 _ none 0 ([]) c.av 0 0 w5 om om (rfl) (rfl) (rfl) (rfl) S6 rfl
 refine J.head (.bool true) (congrArg Value.bool (by rw[fk1];rfl))<|J.run 6 K12_19 [(5,.int .i64 1),(4,.slice none 0 0)] w2 kr<|J.ret Tryz.f12 [.slice none 0 0,.int .i64 1] func12 ⟨kr,kr,trivial⟩<|hR _ _ ?_
 have e1:=run_e1 (c:=c) (l:=l) fk1
 have e2:=run_err e1 om
 exact⟨none,0,by rw[tup_two,e1,e2];rfl,by rw[e2];exact(S2.nilRow 3 1).pick 0 rfl⟩

theorem hb13:aJ prog 13:=fun _ _=>by kernel_rfl
def K13_0:=adv 2 [] (aY Tryz.f13)
def K13_1:=adv 3 [] (aK K13_0)
def K13_2:=adv 2 [] (aK (aK K13_1))
def K13_3:=adv 1 [] (aK K13_2)
def K13_4:=adv 1 [] (aK K13_3)
set_option maxRecDepth 20000 in
set_option maxHeartbeats 20000000 in
theorem key_any  (w:World):Ret prog 13 #[] w (fun v w'=>∃ a1 a2 a3,v=.agg #[.slice a1 2 2,.slice a2 1 1,.int .i64 0,.slice a3 2 2]∧Sep w [aa mvE a3 2 57 5 [(⟨0,1,1,0,2⟩:Mv),(⟨1,0,0,1,0⟩:Mv)],aa (ah Value.string) a2 1 9 1 [⟨#[107,101,121]⟩],aa (ah Value.string) a1 2 9 1 [⟨#[111,102,102]⟩,⟨#[111,110]⟩]] w'):=by
 have S0:=Sep.refl w
 refine Ret.named fun R hR=>Ret.of_J (N:=7) [] func13 rfl rfl (Nat.le_of_ble_eq_true kr) kr<|J.run 2 K13_0 [] w kr<|J.new S0 0 [.slice none 0 0,.slice none 0 0,.int .i64 0,.slice none 0 0] 25 kr ?_
 intro b1 w1 S1
 refine J.run 3 K13_1 [(0,.pointer (some ⟨b1,0,none⟩))] w1 kr<|J.newSlice S1 1 2 [.string ⟨#[111,102,102]⟩,.string ⟨#[111,110]⟩] 9 kr ?_
 intro b2 w2 S2
 refine J.newSlice S2 2 1 [.string ⟨#[107,101,121]⟩] 9 kr ?_
 intro b3 w3 S3
 refine J.run 2 K13_2 [(4,.agg #[.int .i64 1,.int .i64 0,.int .i64 0,.int .i64 1,.int .i64 0]),(3,.agg #[.int .i64 0,.int .i64 1,.int .i64 1,.int .i64 0,.int .i64 2]),(2,.slice (some ⟨b3,0,none⟩) 1 1),(1,.slice (some ⟨b2,0,none⟩) 2 2),(0,.pointer (some ⟨b1,0,none⟩))] w3 kr<|J.newSlice S3 5 2 [.int .i64 0,.int .i64 1,.int .i64 1,.int .i64 0,.int .i64 2,.int .i64 1,.int .i64 0,.int .i64 0,.int .i64 1,.int .i64 0] 57 kr ?_
 intro b4 w4 S4
 refine J.run 1 K13_3 [(6,.agg #[.slice (some ⟨b2,0,none⟩) 2 2,.slice (some ⟨b3,0,none⟩) 1 1,.int .i64 0,.slice (some ⟨b4,0,none⟩) 2 2]),(0,.pointer (some ⟨b1,0,none⟩))] w4 kr<|J.stBox S4 3 25 0 (.agg #[.slice (some ⟨b2,0,none⟩) 2 2,.slice (some ⟨b3,0,none⟩) 1 1,.int .i64 0,.slice (some ⟨b4,0,none⟩) 2 2]) [.slice (some ⟨b2,0,none⟩) 2 2,.slice (some ⟨b3,0,none⟩) 1 1,.int .i64 0,.slice (some ⟨b4,0,none⟩) 2 2] [box b4 [.int .i64 0,.int .i64 1,.int .i64 1,.int .i64 0,.int .i64 2,.int .i64 1,.int .i64 0,.int .i64 0,.int .i64 1,.int .i64 0] 57,box b3 [.string ⟨#[107,101,121]⟩] 9,box b2 [.string ⟨#[111,102,102]⟩,.string ⟨#[111,110]⟩] 9,box b1 [.slice (some ⟨b2,0,none⟩) 2 2,.slice (some ⟨b3,0,none⟩) 1 1,.int .i64 0,.slice (some ⟨b4,0,none⟩) 2 2] 25] kr rfl kr kr rfl ?_
 intro w5 S5
 refine J.run 1 K13_4 [(0,.pointer (some ⟨b1,0,none⟩))] w5 kr<|J.ret Tryz.f13 [.agg #[.slice (some ⟨b2,0,none⟩) 2 2,.slice (some ⟨b3,0,none⟩) 1 1,.int .i64 0,.slice (some ⟨b4,0,none⟩) 2 2]] func13 ⟨⟨⟨b1,0,none⟩,kr,aI (S5.nth 3 rfl) kr⟩,trivial⟩<|hR _ _ ?_
 have S6:Sep w [box b4 [.int .i64 0,.int .i64 1,.int .i64 1,.int .i64 0,.int .i64 2,.int .i64 1,.int .i64 0,.int .i64 0,.int .i64 1,.int .i64 0] 57,box b3 [.string ⟨#[107,101,121]⟩] 9,aa (ah Value.string) (some ⟨b2,0,none⟩) 2 9 1 ([⟨#[111,102,102]⟩,⟨#[111,110]⟩]),box b1 [.slice (some ⟨b2,0,none⟩) 2 2,.slice (some ⟨b3,0,none⟩) 1 1,.int .i64 0,.slice (some ⟨b4,0,none⟩) 2 2] 25] w5:=box_row (ah Value.string) S5 2 [⟨#[111,102,102]⟩,⟨#[111,110]⟩] 1 rfl rfl rfl dE (.inr trivial)
 have S7:Sep w [box b4 [.int .i64 0,.int .i64 1,.int .i64 1,.int .i64 0,.int .i64 2,.int .i64 1,.int .i64 0,.int .i64 0,.int .i64 1,.int .i64 0] 57,aa (ah Value.string) (some ⟨b3,0,none⟩) 1 9 1 ([⟨#[107,101,121]⟩]),aa (ah Value.string) (some ⟨b2,0,none⟩) 2 9 1 ([⟨#[111,102,102]⟩,⟨#[111,110]⟩]),box b1 [.slice (some ⟨b2,0,none⟩) 2 2,.slice (some ⟨b3,0,none⟩) 1 1,.int .i64 0,.slice (some ⟨b4,0,none⟩) 2 2] 25] w5:=box_row (ah Value.string) S6 1 [⟨#[107,101,121]⟩] 1 rfl rfl rfl dE (.inr trivial)
 have S8:Sep w [aa mvE (some ⟨b4,0,none⟩) 2 57 5 ([(⟨0,1,1,0,2⟩:Mv),(⟨1,0,0,1,0⟩:Mv)]),aa (ah Value.string) (some ⟨b3,0,none⟩) 1 9 1 ([⟨#[107,101,121]⟩]),aa (ah Value.string) (some ⟨b2,0,none⟩) 2 9 1 ([⟨#[111,102,102]⟩,⟨#[111,110]⟩]),box b1 [.slice (some ⟨b2,0,none⟩) 2 2,.slice (some ⟨b3,0,none⟩) 1 1,.int .i64 0,.slice (some ⟨b4,0,none⟩) 2 2] 25] w5:=box_row mvE S7 0 [(⟨0,1,1,0,2⟩:Mv),(⟨1,0,0,1,0⟩:Mv)] 5 rfl rfl rfl dE (.inr trivial)
 have S9:Sep w [aa mvE (some ⟨b4,0,none⟩) 2 57 5 ([(⟨0,1,1,0,2⟩:Mv),(⟨1,0,0,1,0⟩:Mv)]),aa (ah Value.string) (some ⟨b3,0,none⟩) 1 9 1 ([⟨#[107,101,121]⟩]),aa (ah Value.string) (some ⟨b2,0,none⟩) 2 9 1 ([⟨#[111,102,102]⟩,⟨#[111,110]⟩])] w5:=S8.erase 3
 exact⟨_,_,_,rfl,S9⟩

theorem hb4:aJ prog 4:=fun _ _=>by kernel_rfl
def K4_0:=adv 6 [] (aY Tryz.f4)
def K4_1:=adv 11 [] (aK (aK (aK K4_0)))
def K4_2:=adv 1 [] K4_1
def K4_3:=adv 3 [] (aK (aK K4_2))
set_option maxRecDepth 20000 in
set_option maxHeartbeats 20000000 in
theorem awake_any  (w:World):Ret prog 4 #[] w (fun v w'=>v=.bool true∧Sep w [] w'):=by
 have S0:=Sep.refl w
 refine Ret.named fun R hR=>Ret.of_J (N:=16) [] func4 rfl rfl (Nat.le_of_ble_eq_true kr) kr<|J.run 6 K4_0 [] w kr<|J.callF 4 13 #[] hb13 kr (key_any _) ?_
 rintro _ w1 ⟨ka1,ka2,ka3,rfl,T1⟩
 have S1:Sep w [aa mvE ka3 2 57 5 ([(⟨0,1,1,0,2⟩:Mv),(⟨1,0,0,1,0⟩:Mv)]),aa (ah Value.string) ka2 1 9 1 ([⟨#[107,101,121]⟩]),aa (ah Value.string) ka1 2 9 1 ([⟨#[111,102,102]⟩,⟨#[111,110]⟩])] w1:=S0.trans T1
 refine J.newSlice S1 5 4 [.int .i64 1,.int .i64 1,.int .i64 1,.int .i64 0] 3 kr ?_
 intro b1 w2 S2
 refine J.callF 6 12 #[.agg #[.slice ka1 2 2,.slice ka2 1 1,.int .i64 0,.slice ka3 2 2],.slice (some ⟨b1,0,none⟩) 4 4] hb12 kr (run_any (⟨ka1,2,2,[⟨#[111,102,102]⟩,⟨#[111,110]⟩],ka2,1,1,[⟨#[107,101,121]⟩],0,ka3,2,2,[(⟨0,1,1,0,2⟩:Mv),(⟨1,0,0,1,0⟩:Mv)]⟩:Cht) (some ⟨b1,0,none⟩) 4 4 ([1,1,1,0]) _ (show chtQ _ (⟨ka1,2,2,[⟨#[111,102,102]⟩,⟨#[111,110]⟩],ka2,1,1,[⟨#[107,101,121]⟩],0,ka3,2,2,[(⟨0,1,1,0,2⟩:Mv),(⟨1,0,0,1,0⟩:Mv)]⟩:Cht) from ⟨⟨(co (S2.nth 3 rfl)).2.2,rowOf_cap (S2.nth 3 rfl)⟩,(aR (S2.nth 3 rfl) _ rfl),by exact(show ∀ y ∈ ([⟨#[111,102,102]⟩,⟨#[111,110]⟩]:List ByteArray),(fun b=>b.size≤9223372036854775807) y from by decide),⟨(co (S2.nth 2 rfl)).2.2,rowOf_cap (S2.nth 2 rfl)⟩,(aR (S2.nth 2 rfl) _ rfl),by exact(show ∀ y ∈ ([⟨#[107,101,121]⟩]:List ByteArray),(fun b=>b.size≤9223372036854775807) y from by decide),(show(-9223372036854775808)≤(0:Int)∧(0:Int)≤9223372036854775807 from by omega),⟨(co (S2.nth 1 rfl)).2.2,rowOf_cap (S2.nth 1 rfl)⟩,(aX (S2.nth 1 rfl) _ rfl (fun _=>rfl) dE),by simp[mvQ],trivial⟩) ((box_ints [1,1,1,0] (S2.nth 0 rfl) rfl 4 rfl)) oz) ?_
 rintro _ w3 ⟨ra1,rc1,rfl,T2⟩
 have S3:Sep w [aa encI ra1 rc1 3 1 (runO (⟨ka1,2,2,[⟨#[111,102,102]⟩,⟨#[111,110]⟩],ka2,1,1,[⟨#[107,101,121]⟩],0,ka3,2,2,[(⟨0,1,1,0,2⟩:Mv),(⟨1,0,0,1,0⟩:Mv)]⟩:Cht) ([1,1,1,0])),box b1 [.int .i64 1,.int .i64 1,.int .i64 1,.int .i64 0] 3,aa mvE ka3 2 57 5 ([(⟨0,1,1,0,2⟩:Mv),(⟨1,0,0,1,0⟩:Mv)]),aa (ah Value.string) ka2 1 9 1 ([⟨#[107,101,121]⟩]),aa (ah Value.string) ka1 2 9 1 ([⟨#[111,102,102]⟩,⟨#[111,110]⟩])] w3:=S2.trans T2
 clear T2 S2
 have:=runE_bounds (⟨ka1,2,2,[⟨#[111,102,102]⟩,⟨#[111,110]⟩],ka2,1,1,[⟨#[107,101,121]⟩],0,ka3,2,2,[(⟨0,1,1,0,2⟩:Mv),(⟨1,0,0,1,0⟩:Mv)]⟩:Cht) ([1,1,1,0])
 refine J.run 11 K4_1 [(11,.bool ((runE (⟨ka1,2,2,[⟨#[111,102,102]⟩,⟨#[111,110]⟩],ka2,1,1,[⟨#[107,101,121]⟩],0,ka3,2,2,[(⟨0,1,1,0,2⟩:Mv),(⟨1,0,0,1,0⟩:Mv)]⟩:Cht) ([1,1,1,0]))==0)),(1,.slice ra1 ((runO (⟨ka1,2,2,[⟨#[111,102,102]⟩,⟨#[111,110]⟩],ka2,1,1,[⟨#[107,101,121]⟩],0,ka3,2,2,[(⟨0,1,1,0,2⟩:Mv),(⟨1,0,0,1,0⟩:Mv)]⟩:Cht) ([1,1,1,0])).length) rc1)] w3 kr ?_
 have fk2:(runE (⟨ka1,2,2,[⟨#[111,102,102]⟩,⟨#[111,110]⟩],ka2,1,1,[⟨#[107,101,121]⟩],0,ka3,2,2,[(⟨0,1,1,0,2⟩:Mv),(⟨1,0,0,1,0⟩:Mv)]⟩:Cht) ([1,1,1,0]))=0:=by kernel_rfl
 refine J.head (.bool true) (congrArg Value.bool (beq_iff_eq.2 fk2))<|J.run 1 K4_2 [(12,.slice ra1 ((runO (⟨ka1,2,2,[⟨#[111,102,102]⟩,⟨#[111,110]⟩],ka2,1,1,[⟨#[107,101,121]⟩],0,ka3,2,2,[(⟨0,1,1,0,2⟩:Mv),(⟨1,0,0,1,0⟩:Mv)]⟩:Cht) ([1,1,1,0])).length) rc1),(11,.bool true)] w3 kr<|J.newSlice S3 13 4 [.int .i64 0,.int .i64 0,.int .i64 1,.int .i64 0] 3 kr ?_
 intro b2 w4 S4
 have:=aQ (S4.nth 1 rfl)
 refine J.callF 14 14 #[.slice ra1 ((runO (⟨ka1,2,2,[⟨#[111,102,102]⟩,⟨#[111,110]⟩],ka2,1,1,[⟨#[107,101,121]⟩],0,ka3,2,2,[(⟨0,1,1,0,2⟩:Mv),(⟨1,0,0,1,0⟩:Mv)]⟩:Cht) ([1,1,1,0])).length) rc1,.slice (some ⟨b2,0,none⟩) 4 4] hb14 kr (equal_any ra1 ((runO (⟨ka1,2,2,[⟨#[111,102,102]⟩,⟨#[111,110]⟩],ka2,1,1,[⟨#[107,101,121]⟩],0,ka3,2,2,[(⟨0,1,1,0,2⟩:Mv),(⟨1,0,0,1,0⟩:Mv)]⟩:Cht) ([1,1,1,0])).length) rc1 (runO (⟨ka1,2,2,[⟨#[111,102,102]⟩,⟨#[111,110]⟩],ka2,1,1,[⟨#[107,101,121]⟩],0,ka3,2,2,[(⟨0,1,1,0,2⟩:Mv),(⟨1,0,0,1,0⟩:Mv)]⟩:Cht) ([1,1,1,0])) (some ⟨b2,0,none⟩) 4 4 ([0,0,1,0]) _ ((aR (S4.nth 1 rfl) ((runO (⟨ka1,2,2,[⟨#[111,102,102]⟩,⟨#[111,110]⟩],ka2,1,1,[⟨#[107,101,121]⟩],0,ka3,2,2,[(⟨0,1,1,0,2⟩:Mv),(⟨1,0,0,1,0⟩:Mv)]⟩:Cht) ([1,1,1,0])).length) rO)) ((box_ints [0,0,1,0] (S4.nth 0 rfl) rfl 4 rfl)) oz) ?_
 rintro _ w5 ⟨rfl,T3⟩
 have S5:Sep w [box b2 [.int .i64 0,.int .i64 0,.int .i64 1,.int .i64 0] 3,aa encI ra1 rc1 3 1 (runO (⟨ka1,2,2,[⟨#[111,102,102]⟩,⟨#[111,110]⟩],ka2,1,1,[⟨#[107,101,121]⟩],0,ka3,2,2,[(⟨0,1,1,0,2⟩:Mv),(⟨1,0,0,1,0⟩:Mv)]⟩:Cht) ([1,1,1,0])),box b1 [.int .i64 1,.int .i64 1,.int .i64 1,.int .i64 0] 3,aa mvE ka3 2 57 5 ([(⟨0,1,1,0,2⟩:Mv),(⟨1,0,0,1,0⟩:Mv)]),aa (ah Value.string) ka2 1 9 1 ([⟨#[107,101,121]⟩]),aa (ah Value.string) ka1 2 9 1 ([⟨#[111,102,102]⟩,⟨#[111,110]⟩])] w5:=S4.trans T3
 clear T3 S4
 exact J.run 3 K4_3 [(0,.bool ((runO (⟨ka1,2,2,[⟨#[111,102,102]⟩,⟨#[111,110]⟩],ka2,1,1,[⟨#[107,101,121]⟩],0,ka3,2,2,[(⟨0,1,1,0,2⟩:Mv),(⟨1,0,0,1,0⟩:Mv)]⟩:Cht) ([1,1,1,0]))==([0,0,1,0])))] w5 kr<|J.ret Tryz.f4 [.bool ((runO (⟨ka1,2,2,[⟨#[111,102,102]⟩,⟨#[111,110]⟩],ka2,1,1,[⟨#[107,101,121]⟩],0,ka3,2,2,[(⟨0,1,1,0,2⟩:Mv),(⟨1,0,0,1,0⟩:Mv)]⟩:Cht) ([1,1,1,0]))==([0,0,1,0]))] func4 ⟨kr,trivial⟩<|hR _ _<|⟨congrArg Value.bool kr,S5.nil⟩

theorem hb15:aJ prog 15:=fun _ _=>by kernel_rfl
def K15_0:=adv 11 [] (aY Tryz.f15)
set_option maxRecDepth 20000 in
set_option maxHeartbeats 20000000 in
theorem long_any (b:ByteArray) (w:World):Ret prog 15 #[.string b] w (fun v w'=>v=.bool (decide ((b.size:Int)>60))∧Sep w [] w'):=by
 have S0:=Sep.refl w
 exact Ret.named fun R hR=>Ret.of_J (N:=6) [(0,.string b)] func15 rfl rfl (Nat.le_of_ble_eq_true kr) kr<|J.run 11 K15_0 [(2,.bool (decide ((b.size:Int)>60)))] w kr<|J.ret Tryz.f15 [.bool (decide ((b.size:Int)>60))] func15 ⟨kr,trivial⟩<|hR _ _<|⟨rfl,S0.nil⟩

theorem hb44:aJ prog 44:=fun _ _=>by kernel_rfl
def K44_0:=adv 13 [] (aY Tryz.f44)
def K44_1:=adv 5 [] K44_0
def K44_2:=adv 14 [true] K44_1
def K44_3:=adv 1 [] (aK (aK (aK K44_2)))
def K44_4:=adv 6 [true] K44_3
def K44_5:=adv 5 [false] K44_3
def K44_6:=adv 6 [false] K44_1
set_option maxRecDepth 20000 in
set_option maxHeartbeats 20000000 in
theorem indexS0 (la:Option Addr) (len cap:Nat) (l:List ByteArray) (g:FuncId) (q:ByteArray→Bool) (w:World) (hI:Ones Value.string w la len l) (hlen:len≤9223372036854775807) (hbg:aJ prog g) (hcall:∀ (i:Nat) (w2:World),i<l.length→Sep w [] w2→Ret prog g #[.string (l.getD i ByteArray.empty)] w2 (fun v w3=>v=.bool (q (l.getD i ByteArray.empty))∧Sep w2 [] w3)):Ret prog 44 #[.slice la len cap,.func (.func g) #[] #[]] w (fun v w'=>v=.int .i64 (ap q l)∧Sep w [] w'):=by
 have S0:=Sep.refl w
 refine Ret.named fun R hR=>Ret.of_J (N:=19) [(0,.slice la len cap),(1,.func (.func g) #[] #[])] func44 rfl rfl (Nat.le_of_ble_eq_true kr) kr<|J.run 13 K44_0 [(8,.int .i64 0),(7,.int .i64 (len:Int)),(0,.slice la len cap),(1,.func (.func g) #[] #[])] w kr ?_
 have L44_1:∀ (mm_:Nat) (i:Int) (w1:World),(0≤i)→(i≤(len:Int))→(∀ j,j<(i).toNat→q (l.getD j ByteArray.empty)=false)→Sep w [] w1→((len:Int)-i).toNat=mm_→J prog 44 19 R K44_0 [(8,.int .i64 i),(7,.int .i64 (len:Int)),(0,.slice la len cap),(1,.func (.func g) #[] #[])] w1:=by
  intro mm1
  induction mm1 using Nat.strongRecOn with
  | _ mm1 ih1 =>
  intro i w1 h0 h1 hq S1 hm1
  refine J.run 5 K44_1 [(9,.bool (decide (i<(len:Int)))),(8,.int .i64 i),(7,.int .i64 (len:Int)),(0,.slice la len cap),(1,.func (.func g) #[] #[])] w1 kr ?_
  by_cases fk1:i<(len:Int)
  refine J.head (.bool true) (congrArg Value.bool (decide_eq_true fk1))<|J.run 14 K44_2 [(13,.int .i64 i),(12,.slice la len cap),(11,.func (.func g) #[] #[]),(5,.int .i64 i),(8,.int .i64 i),(7,.int .i64 (len:Int)),(0,.slice la len cap),(1,.func (.func g) #[] #[])] w1 kr ?_
  obtain ⟨p1,hp1,hc1⟩:=hI.at ByteArray.empty (i).toNat om
  refine J.ok (OK.index 14 22 1 la p1 len (i).toNat i (p1.add (i).toNat) kr kr hp1 om om nO)<|J.ok (OK.ldCell 15 9 (p1.add (i).toNat) (.string (l.getD (i).toNat ByteArray.empty)) kr kr (S1.cell hc1))<|J.callF 16 g #[.string (l.getD (i).toNat ByteArray.empty)] hbg kr (hcall (i).toNat w1 (by have:=hI.len_eq;omega) S1.nil) ?_
  rintro _ w2 ⟨rfl,T1⟩
  have S2:Sep w [] w2:=S1.trans T1
  clear T1 S1
  refine J.run 1 K44_3 [(16,.bool (q (l.getD (i).toNat ByteArray.empty))),(5,.int .i64 i),(8,.int .i64 i),(7,.int .i64 (len:Int)),(0,.slice la len cap),(1,.func (.func g) #[] #[])] w2 kr ?_
  rcases Bool.eq_false_or_eq_true (q (l.getD (i).toNat ByteArray.empty)) with fk2 | fk2
  exact J.head (.bool true) (congrArg Value.bool fk2)<|J.run 6 K44_4 [(4,.int .i64 i)] w2 kr<|J.ret Tryz.f44 [.int .i64 i] func44 ⟨kr,trivial⟩<|hR _ _<|⟨by rw[cz,cG ByteArray.empty i.toNat (by have:=hI.len_eq;omega) hq fk2,Int.toNat_of_nonneg h0],S2.nil⟩
  exact J.head (.bool false) (congrArg Value.bool fk2)<|J.run 5 K44_5 [(18,.int .i64 (IntKind.wrap .i64 (i+1))),(7,.int .i64 (len:Int)),(0,.slice la len cap),(1,.func (.func g) #[] #[])] w2 kr<|J.head (.int .i64 (i+1)) (congrArg (Value.int .i64) (IntWalk.i64_in _ om))<|J.run 3 K44_0 [(8,.int .i64 (i+1)),(7,.int .i64 (len:Int)),(0,.slice la len cap),(1,.func (.func g) #[] #[])] w2 kr<|J.run 0 K44_0 [(8,.int .i64 (i+1)),(7,.int .i64 (len:Int)),(0,.slice la len cap),(1,.func (.func g) #[] #[])] w2 kr<|ih1 _ (show((len:Int)-(i+1)).toNat<mm1 from by omega) (i+1) w2 om om (by intro j hj;by_cases e:j=i.toNat;(subst e;exact fk2);exact hq j om) S2 rfl
  exact J.head (.bool false) (congrArg Value.bool (decide_eq_false fk1))<|J.run 6 K44_6 [(4,.int .i64 (-1))] w1 kr<|J.ret Tryz.f44 [.int .i64 (-1)] func44 ⟨kr,trivial⟩<|hR _ _<|⟨by rw[cz,cH ByteArray.empty fun j hj=>hq j (by have:=hI.len_eq;omega)],S1.nil⟩
 exact L44_1 _ 0 w om om (by intro j hj;simp at hj) S0 rfl

theorem hb16:aJ prog 16:=fun _ _=>by kernel_rfl
def K16_0:=adv 8 [] (aY Tryz.f16)
def K16_1:=adv 3 [] (aK K16_0)
set_option maxRecDepth 20000 in
set_option maxHeartbeats 20000000 in
theorem containsS0 (la:Option Addr) (len cap:Nat) (l:List ByteArray) (g:FuncId) (q:ByteArray→Bool) (w:World) (hI:Ones Value.string w la len l) (hlen:len≤9223372036854775807) (hbg:aJ prog g) (hcall:∀ (i:Nat) (w2:World),i<l.length→Sep w [] w2→Ret prog g #[.string (l.getD i ByteArray.empty)] w2 (fun v w3=>v=.bool (q (l.getD i ByteArray.empty))∧Sep w2 [] w3)):Ret prog 16 #[.slice la len cap,.func (.func g) #[] #[]] w (fun v w'=>v=.bool (l.any q)∧Sep w [] w'):=by
 have S0:=Sep.refl w
 refine Ret.named fun R hR=>Ret.of_J (N:=9) [(0,.slice la len cap),(1,.func (.func g) #[] #[])] func16 rfl rfl (Nat.le_of_ble_eq_true kr) kr<|J.run 8 K16_0 [(6,.func (.func g) #[] #[]),(5,.slice la len cap)] w kr<|J.callF 7 44 #[.slice la len cap,.func (.func g) #[] #[]] hb44 kr (indexS0 la len cap l g  q _ (hI.sep S0) oz hbg (hcall)) ?_
 rintro _ w1 ⟨rfl,T1⟩
 have S1:Sep w [] w1:=S0.trans T1
 clear T1
 exact J.run 3 K16_1 [(4,.bool (decide ((ap q l)≥0)))] w1 kr<|J.ret Tryz.f16 [.bool (decide ((ap q l)≥0))] func16 ⟨kr,trivial⟩<|hR _ _<|⟨congrArg Value.bool (by first | exact bQ),S1.nil⟩

def cm (c:Cht):Bool:=decide (c.aj≤24)&&decide (c.af≤12)&&decide (c.ai≤110)&& !(c.aB.any fun b=>decide ((b.size:Int)>60))&& !(c.ay.any fun b=>decide ((b.size:Int)>60))
theorem hb5:aJ prog 5:=fun _ _=>by kernel_rfl
def K5_0:=adv 2 [] (aY Tryz.f5)
def K5_1:=adv 9 [] (aK K5_0)
def K5_2:=adv 3 [] (aK K5_1)
def K5_3:=adv 1 [] K5_2
def K5_4:=adv 4 [] (aK K5_3)
def K5_5:=adv 1 [] K5_4
def K5_6:=adv 4 [] (aK K5_5)
def K5_7:=adv 1 [] K5_6
def K5_8:=adv 1 [] (aK K5_7)
def K5_9:=adv 3 [] (aK K5_8)
def K5_10:=adv 8 [] K5_9
def K5_11:=adv 1 [] K5_9
def K5_12:=adv 1 [] (aK K5_11)
def K5_13:=adv 4 [] (aK K5_12)
def K5_14:=adv 15 [] K5_6
def K5_15:=adv 21 [] K5_4
def K5_16:=adv 27 [] K5_2
set_option maxRecDepth 20000 in
set_option maxHeartbeats 20000000 in
theorem small_any (c:Cht) (w:World) (hc:chtQ w c):Ret prog 5 #[.agg #[.slice c.al c.aj c.ao,.slice c.ak c.af c.am,.int .i64 c.av,.slice c.aq c.ai c.au]] w (fun v w'=>v=.bool (cm c)∧Sep w [] w'):=by
 have S0:=Sep.refl w
 refine Ret.named fun R hR=>Ret.of_J (N:=34) [(0,.agg #[.slice c.al c.aj c.ao,.slice c.ak c.af c.am,.int .i64 c.av,.slice c.aq c.ai c.au])] func5 rfl rfl (Nat.le_of_ble_eq_true kr) kr ?_
 obtain ⟨q1,q2,q3,q4,q5,q6,q7,q8,q9,q10,_⟩:=id hc
 have ql1:=q2.len_eq
 have ql2:=q5.len_eq
 have ql3:=q9.len_eq
 refine J.run 2 K5_0 [(0,.agg #[.slice c.al c.aj c.ao,.slice c.ak c.af c.am,.int .i64 c.av,.slice c.aq c.ai c.au])] w kr<|J.new S0 1 [.slice c.al c.aj c.ao,.slice c.ak c.af c.am,.int .i64 c.av,.slice c.aq c.ai c.au] 25 kr ?_
 intro b1 w1 S1
 refine J.run 9 K5_1 [(4,.pointer (some ⟨b1,0,none⟩)),(3,.func (.func 15) #[] #[]),(1,.pointer (some ⟨b1,0,none⟩))] w1 kr<|J.ok (OK.ldBox S1 0 5 22 0 (.slice c.al c.aj c.ao) kr rfl kr)<|J.run 3 K5_2 [(8,.bool (decide ((c.aj:Int)≤24))),(3,.func (.func 15) #[] #[]),(1,.pointer (some ⟨b1,0,none⟩))] w1 kr ?_
 by_cases fk1:(c.aj:Int)≤24
 refine J.head (.bool true) (congrArg Value.bool (decide_eq_true fk1))<|J.run 1 K5_3 [(9,.pointer (some ⟨b1,1,none⟩)),(8,.bool true),(3,.func (.func 15) #[] #[]),(1,.pointer (some ⟨b1,0,none⟩))] w1 kr<|J.ok (OK.ldBox S1 0 10 22 1 (.slice c.ak c.af c.am) kr rfl kr)<|J.run 4 K5_4 [(14,.bool (decide ((c.af:Int)≤12))),(3,.func (.func 15) #[] #[]),(1,.pointer (some ⟨b1,0,none⟩))] w1 kr ?_
 by_cases fk2:(c.af:Int)≤12
 refine J.head (.bool true) (congrArg Value.bool (decide_eq_true fk2))<|J.run 1 K5_5 [(15,.pointer (some ⟨b1,3,none⟩)),(14,.bool true),(3,.func (.func 15) #[] #[]),(1,.pointer (some ⟨b1,0,none⟩))] w1 kr<|J.ok (OK.ldBox S1 0 16 23 3 (.slice c.aq c.ai c.au) kr rfl kr)<|J.run 4 K5_6 [(20,.bool (decide ((c.ai:Int)≤110))),(3,.func (.func 15) #[] #[]),(1,.pointer (some ⟨b1,0,none⟩))] w1 kr ?_
 by_cases fk3:(c.ai:Int)≤110
 refine J.head (.bool true) (congrArg Value.bool (decide_eq_true fk3))<|J.run 1 K5_7 [(21,.pointer (some ⟨b1,0,none⟩)),(20,.bool true),(3,.func (.func 15) #[] #[]),(1,.pointer (some ⟨b1,0,none⟩))] w1 kr<|J.ok (OK.ldBox S1 0 22 22 0 (.slice c.al c.aj c.ao) kr rfl kr)<|J.run 1 K5_8 [(23,.func (.func 15) #[] #[]),(22,.slice c.al c.aj c.ao),(20,.bool true),(3,.func (.func 15) #[] #[]),(1,.pointer (some ⟨b1,0,none⟩))] w1 kr<|J.callF 24 16 #[.slice c.al c.aj c.ao,.func (.func 15) #[] #[]] hb16 kr (containsS0 c.al c.aj c.ao c.aB 15  (fun b=>decide ((b.size:Int)>60)) _ (q2.sep S1) oz hb15 (fun i_ w_ hi_ S_=>long_any _ w_)) ?_
 rintro _ w2 ⟨rfl,T1⟩
 have S2:Sep w [box b1 [.slice c.al c.aj c.ao,.slice c.ak c.af c.am,.int .i64 c.av,.slice c.aq c.ai c.au] 25] w2:=S1.trans T1
 clear T1 S1
 refine J.run 3 K5_9 [(27,.bool (!(List.any c.aB (fun b=>decide ((b.size:Int)>60))))),(3,.func (.func 15) #[] #[]),(1,.pointer (some ⟨b1,0,none⟩))] w2 kr ?_
 rcases Bool.eq_false_or_eq_true (List.any c.aB (fun b=>decide ((b.size:Int)>60))) with fk4 | fk4
 exact J.head (.bool false) (congrArg Value.bool (by rw[fk4];rfl))<|J.run 8 K5_10 [(2,.bool false)] w2 kr<|J.ret Tryz.f5 [.bool false] func5 ⟨kr,trivial⟩<|hR _ _<|⟨congrArg Value.bool (by rw[Bool.eq_iff_iff];first | (simp only[cm,Bool.and_eq_true,decide_eq_true_eq,Bool.not_eq_true',fk1,fk2,fk3,fk4];simp;done) | (simp only[cm,Bool.and_eq_true,decide_eq_true_eq,fk1,fk2,fk3,fk4];simp;omega) | (simp[cm];omega)),S2.nil⟩
 refine J.head (.bool true) (congrArg Value.bool (by rw[fk4];rfl))<|J.run 1 K5_11 [(28,.pointer (some ⟨b1,1,none⟩)),(27,.bool true),(3,.func (.func 15) #[] #[])] w2 kr<|J.ok (OK.ldBox S2 0 29 22 1 (.slice c.ak c.af c.am) kr rfl kr)<|J.run 1 K5_12 [(30,.func (.func 15) #[] #[]),(29,.slice c.ak c.af c.am),(27,.bool true)] w2 kr<|J.callF 31 16 #[.slice c.ak c.af c.am,.func (.func 15) #[] #[]] hb16 kr (containsS0 c.ak c.af c.am c.ay 15  (fun b=>decide ((b.size:Int)>60)) _ (q5.sep S2) oz hb15 (fun i_ w_ hi_ S_=>long_any _ w_)) ?_
 rintro _ w3 ⟨rfl,T2⟩
 have S3:Sep w [box b1 [.slice c.al c.aj c.ao,.slice c.ak c.af c.am,.int .i64 c.av,.slice c.aq c.ai c.au] 25] w3:=S2.trans T2
 clear T2 S2
 exact J.run 4 K5_13 [(2,.bool (!(List.any c.ay (fun b=>decide ((b.size:Int)>60)))))] w3 kr<|J.ret Tryz.f5 [.bool (!(List.any c.ay (fun b=>decide ((b.size:Int)>60))))] func5 ⟨kr,trivial⟩<|hR _ _<|⟨congrArg Value.bool (by rw[Bool.eq_iff_iff];first | (simp only[cm,Bool.and_eq_true,decide_eq_true_eq,Bool.not_eq_true',fk1,fk2,fk3,fk4];simp;done) | (simp only[cm,Bool.and_eq_true,decide_eq_true_eq,fk1,fk2,fk3,fk4];simp;omega) | (simp[cm];omega)),S3.nil⟩
 exact J.head (.bool false) (congrArg Value.bool (decide_eq_false fk3))<|J.run 15 K5_14 [(2,.bool false)] w1 kr<|J.ret Tryz.f5 [.bool false] func5 ⟨kr,trivial⟩<|hR _ _<|⟨congrArg Value.bool (by rw[Bool.eq_iff_iff];first | (simp only[cm,Bool.and_eq_true,decide_eq_true_eq,Bool.not_eq_true',fk1,fk2,fk3];simp;done) | (simp only[cm,Bool.and_eq_true,decide_eq_true_eq,fk1,fk2,fk3];simp;omega) | (simp[cm];omega)),S1.nil⟩
 exact J.head (.bool false) (congrArg Value.bool (decide_eq_false fk2))<|J.run 21 K5_15 [(2,.bool false)] w1 kr<|J.ret Tryz.f5 [.bool false] func5 ⟨kr,trivial⟩<|hR _ _<|⟨congrArg Value.bool (by rw[Bool.eq_iff_iff];first | (simp only[cm,Bool.and_eq_true,decide_eq_true_eq,Bool.not_eq_true',fk1,fk2];simp;done) | (simp only[cm,Bool.and_eq_true,decide_eq_true_eq,fk1,fk2];simp;omega) | (simp[cm];omega)),S1.nil⟩
 exact J.head (.bool false) (congrArg Value.bool (decide_eq_false fk1))<|J.run 27 K5_16 [(2,.bool false)] w1 kr<|J.ret Tryz.f5 [.bool false] func5 ⟨kr,trivial⟩<|hR _ _<|⟨congrArg Value.bool (by rw[Bool.eq_iff_iff];first | (simp only[cm,Bool.and_eq_true,decide_eq_true_eq,Bool.not_eq_true',fk1];simp;done) | (simp only[cm,Bool.and_eq_true,decide_eq_true_eq,fk1];simp;omega) | (simp[cm];omega)),S1.nil⟩

end
end Go.Proofs.YtdneanhkcnfgdaaGreatDoor

