/- Walks of functions of this seat, printed by a program over the engine. Conditions: as each theorem says. -/
import Derived.Test.YtaoolgcddapegaaGreatZqV11
set_option linter.unusedSimpArgs false
set_option linter.unusedVariables false
namespace Go.Proofs.YtaoolgcddapegaaGreat
noncomputable section
open Go.Eng Go.RowKit Go.Proofs.Tryz
set_option maxRecDepth 20000
set_option maxHeartbeats 20000000
theorem hb37:af prog 37:=fun _ _=>by kernel_rfl

theorem rtypes_any (k:Int) (w:World) (hk:0≤k∧k≤9223372036854775807):Ret prog 37 #[iv k] w (fun v w'=>v=.tuple #[iv (k/16384),iv (k/128%128),iv (k%128)]∧Sep w [] w'):=by
 refine Ret.st (N:=12) func37 fun R hR S0=>J.h 10 [] [] [] 6 (iv (IntKind.wrap .i64 (Int.tdiv k 16384))) (iv (k/16384)) (congrArg (Value.int .i64) (IntWalk.i64_quo _ _ om))<|J.h 2 [] [] [] 8 (iv (IntKind.wrap .i64 (Int.tdiv k 128))) (iv (k/128)) (congrArg (Value.int .i64) (IntWalk.i64_quo _ _ om))<|J.h 1 [] [] [] 9 (iv (Int.tmod (k/128) 128)) (iv ((k/128)%128)) (congrArg (Value.int .i64) (IntWalk.rem_in _ _ om))<|J.h 2 [] [] [] 11 (iv (Int.tmod k 128)) (iv (k%128)) (congrArg (Value.int .i64) (IntWalk.rem_in _ _ om))<|J.e 4 [iv (k/16384),iv ((k/128)%128),iv (k%128)] func37 (hR _ _ ?_)
 exact⟨rfl,S0.nil⟩

theorem hb35:af prog 35:=fun _ _=>by kernel_rfl
def K35_0:=List.drop 1 (adv 16 [] (bi Tryz.f35))
def K35_1:=List.drop 1 (adv 7 [false] K35_0)
def K35_2:=List.drop 1 (adv 7 [false] K35_1)
def K35_3:=List.drop 1 (adv 7 [false] K35_2)
theorem rfields_any (op:Int) (w:World) (hop:1≤op∧op≤22):Ret prog 35 #[iv op] w (fun v w'=>v=.string (cg op)∧Sep w [] w'):=by
 refine Ret.st (N:=25) func35 fun R hR S0=>?_
 have X1:∀ (tj4:Bool) (w1:World),((tj4=true→(op=1∨op=2∨op=3))∧(tj4=false→¬ (op=1∨op=2∨op=3)))→Sep w [] w1→J prog 35 25 R K35_0 [(3,iv op),(4,.bool tj4)] w1:=by
  intro tj4 w1 htj4 S1
  refine J.b 0 [] [] [] 4 tj4 (fun fk1=>?_) fun fk1=>?_
  have fb1:=htj4.1 fk1
  refine J.e 5 [.string ⟨#[65,75]⟩] func35 (hR _ _ ?_)
  exact⟨congrArg Value.string (by unfold cg;(repeat first | rw[if_pos om] | rw[if_neg om])<;>rfl),S1.nil⟩
  have fb2:=htj4.2 fk1
  have X2:∀ (tj8:Bool) (w2:World),((tj8=true→(op=4∨op=18))∧(tj8=false→¬ (op=4∨op=18)))→Sep w [] w2→J prog 35 25 R K35_1 [(3,iv op),(8,.bool tj8)] w2:=by
   intro tj8 w2 htj8 S2
   refine J.b 0 [] [] [] 8 tj8 (fun fk2=>?_) fun fk2=>?_
   have fb3:=htj8.1 fk2
   refine J.e 5 [.string ⟨#[65,66]⟩] func35 (hR _ _ ?_)
   exact⟨congrArg Value.string (by unfold cg;(repeat first | rw[if_pos om] | rw[if_neg om])<;>rfl),S2.nil⟩
   have fb4:=htj8.2 fk2
   have X3:∀ (tj11:Bool) (w3:World),((tj11=true→(op=5∨op=6∨op=7∨op=8∨op=13∨op=14∨op=19∨op=21))∧(tj11=false→¬ (op=5∨op=6∨op=7∨op=8∨op=13∨op=14∨op=19∨op=21)))→Sep w [] w3→J prog 35 25 R K35_2 [(3,iv op),(11,.bool tj11)] w3:=by
    intro tj11 w3 htj11 S3
    refine J.b 0 [] [] [] 11 tj11 (fun fk3=>?_) fun fk3=>?_
    have fb5:=htj11.1 fk3
    refine J.e 5 [.string ⟨#[65,66,67,75]⟩] func35 (hR _ _ ?_)
    exact⟨congrArg Value.string (by unfold cg;(repeat first | rw[if_pos om] | rw[if_neg om])<;>rfl),S3.nil⟩
    have fb6:=htj11.2 fk3
    have X4:∀ (tj20:Bool) (w4:World),((tj20=true→(op=9∨op=10∨op=20∨op=22))∧(tj20=false→¬ (op=9∨op=10∨op=20∨op=22)))→Sep w [] w4→J prog 35 25 R K35_3 [(20,.bool tj20)] w4:=by
     intro tj20 w4 htj20 S4
     refine J.b 0 [] [] [] 20 tj20 (fun fk4=>?_) fun fk4=>?_
     have fb7:=htj20.1 fk4
     refine J.e 5 [.string ⟨#[65,66,75]⟩] func35 (hR _ _ ?_)
     exact⟨congrArg Value.string (by unfold cg;(repeat first | rw[if_pos om] | rw[if_neg om])<;>rfl),S4.nil⟩
     have fb8:=htj20.2 fk4
     refine J.e 7 [.string ⟨#[65,66,67]⟩] func35 (hR _ _ ?_)
     exact⟨congrArg Value.string (by unfold cg;(repeat first | rw[if_pos om] | rw[if_neg om])<;>rfl),S4.nil⟩
    refine J.c 7 [false] [] [] 20 (op=9) (fun fk5=>?_) fun fk5=>?_
    exact J.t 2 (X4 true w3 (⟨fun h_=>by first | (cases h_;done) | (have h2_:=of_decide_eq_true h_;omega) | (have h2_:=beq_iff_eq.1 h_;omega) | omega,fun h_=>by first | (cases h_;done) | (have h2_:=of_decide_eq_false h_;omega) | (have h2_:=beq_eq_false_iff_ne.1 h_;omega) | omega⟩) S3)
    refine J.c 6 [false] [] [20] 20 (op=10) (fun fk6=>?_) fun fk6=>?_
    exact J.t 2 (X4 true w3 (⟨fun h_=>by first | (cases h_;done) | (have h2_:=of_decide_eq_true h_;omega) | (have h2_:=beq_iff_eq.1 h_;omega) | omega,fun h_=>by first | (cases h_;done) | (have h2_:=of_decide_eq_false h_;omega) | (have h2_:=beq_eq_false_iff_ne.1 h_;omega) | omega⟩) S3)
    refine J.c 6 [false] [] [20] 20 (op=20) (fun fk7=>?_) fun fk7=>?_
    exact J.t 2 (X4 true w3 (⟨fun h_=>by first | (cases h_;done) | (have h2_:=of_decide_eq_true h_;omega) | (have h2_:=beq_iff_eq.1 h_;omega) | omega,fun h_=>by first | (cases h_;done) | (have h2_:=of_decide_eq_false h_;omega) | (have h2_:=beq_eq_false_iff_ne.1 h_;omega) | omega⟩) S3)
    exact J.t 5 (X4 (op==22) w3 (⟨fun h_=>by first | (cases h_;done) | (have h2_:=of_decide_eq_true h_;omega) | (have h2_:=beq_iff_eq.1 h_;omega) | omega,fun h_=>by first | (cases h_;done) | (have h2_:=of_decide_eq_false h_;omega) | (have h2_:=beq_eq_false_iff_ne.1 h_;omega) | omega⟩) S3)
   refine J.c 7 [false] [] [] 11 (op=5) (fun fk8=>?_) fun fk8=>?_
   exact J.t 2 (X3 true w2 (⟨fun h_=>by first | (cases h_;done) | (have h2_:=of_decide_eq_true h_;omega) | (have h2_:=beq_iff_eq.1 h_;omega) | omega,fun h_=>by first | (cases h_;done) | (have h2_:=of_decide_eq_false h_;omega) | (have h2_:=beq_eq_false_iff_ne.1 h_;omega) | omega⟩) S2)
   refine J.c 6 [false] [] [11] 11 (op=6) (fun fk9=>?_) fun fk9=>?_
   exact J.t 2 (X3 true w2 (⟨fun h_=>by first | (cases h_;done) | (have h2_:=of_decide_eq_true h_;omega) | (have h2_:=beq_iff_eq.1 h_;omega) | omega,fun h_=>by first | (cases h_;done) | (have h2_:=of_decide_eq_false h_;omega) | (have h2_:=beq_eq_false_iff_ne.1 h_;omega) | omega⟩) S2)
   refine J.c 6 [false] [] [11] 11 (op=7) (fun fk10=>?_) fun fk10=>?_
   exact J.t 2 (X3 true w2 (⟨fun h_=>by first | (cases h_;done) | (have h2_:=of_decide_eq_true h_;omega) | (have h2_:=beq_iff_eq.1 h_;omega) | omega,fun h_=>by first | (cases h_;done) | (have h2_:=of_decide_eq_false h_;omega) | (have h2_:=beq_eq_false_iff_ne.1 h_;omega) | omega⟩) S2)
   refine J.c 6 [false] [] [11] 11 (op=8) (fun fk11=>?_) fun fk11=>?_
   exact J.t 2 (X3 true w2 (⟨fun h_=>by first | (cases h_;done) | (have h2_:=of_decide_eq_true h_;omega) | (have h2_:=beq_iff_eq.1 h_;omega) | omega,fun h_=>by first | (cases h_;done) | (have h2_:=of_decide_eq_false h_;omega) | (have h2_:=beq_eq_false_iff_ne.1 h_;omega) | omega⟩) S2)
   refine J.c 6 [false] [] [11] 11 (op=13) (fun fk12=>?_) fun fk12=>?_
   exact J.t 2 (X3 true w2 (⟨fun h_=>by first | (cases h_;done) | (have h2_:=of_decide_eq_true h_;omega) | (have h2_:=beq_iff_eq.1 h_;omega) | omega,fun h_=>by first | (cases h_;done) | (have h2_:=of_decide_eq_false h_;omega) | (have h2_:=beq_eq_false_iff_ne.1 h_;omega) | omega⟩) S2)
   refine J.c 6 [false] [] [11] 11 (op=14) (fun fk13=>?_) fun fk13=>?_
   exact J.t 2 (X3 true w2 (⟨fun h_=>by first | (cases h_;done) | (have h2_:=of_decide_eq_true h_;omega) | (have h2_:=beq_iff_eq.1 h_;omega) | omega,fun h_=>by first | (cases h_;done) | (have h2_:=of_decide_eq_false h_;omega) | (have h2_:=beq_eq_false_iff_ne.1 h_;omega) | omega⟩) S2)
   refine J.c 6 [false] [] [11] 11 (op=19) (fun fk14=>?_) fun fk14=>?_
   exact J.t 2 (X3 true w2 (⟨fun h_=>by first | (cases h_;done) | (have h2_:=of_decide_eq_true h_;omega) | (have h2_:=beq_iff_eq.1 h_;omega) | omega,fun h_=>by first | (cases h_;done) | (have h2_:=of_decide_eq_false h_;omega) | (have h2_:=beq_eq_false_iff_ne.1 h_;omega) | omega⟩) S2)
   exact J.t 5 (X3 (op==21) w2 (⟨fun h_=>by first | (cases h_;done) | (have h2_:=of_decide_eq_true h_;omega) | (have h2_:=beq_iff_eq.1 h_;omega) | omega,fun h_=>by first | (cases h_;done) | (have h2_:=of_decide_eq_false h_;omega) | (have h2_:=beq_eq_false_iff_ne.1 h_;omega) | omega⟩) S2)
  refine J.c 7 [false] [] [] 8 (op=4) (fun fk15=>?_) fun fk15=>?_
  exact J.t 2 (X2 true w1 (⟨fun h_=>by first | (cases h_;done) | (have h2_:=of_decide_eq_true h_;omega) | (have h2_:=beq_iff_eq.1 h_;omega) | omega,fun h_=>by first | (cases h_;done) | (have h2_:=of_decide_eq_false h_;omega) | (have h2_:=beq_eq_false_iff_ne.1 h_;omega) | omega⟩) S1)
  exact J.t 5 (X2 (op==18) w1 (⟨fun h_=>by first | (cases h_;done) | (have h2_:=of_decide_eq_true h_;omega) | (have h2_:=beq_iff_eq.1 h_;omega) | omega,fun h_=>by first | (cases h_;done) | (have h2_:=of_decide_eq_false h_;omega) | (have h2_:=beq_eq_false_iff_ne.1 h_;omega) | omega⟩) S1)
 refine J.c 16 [] [(3,iv op)] [] 4 (op=1) (fun fk16=>?_) fun fk16=>?_
 exact J.t 2 (X1 true w (⟨fun h_=>by first | (cases h_;done) | (have h2_:=of_decide_eq_true h_;omega) | (have h2_:=beq_iff_eq.1 h_;omega) | omega,fun h_=>by first | (cases h_;done) | (have h2_:=of_decide_eq_false h_;omega) | (have h2_:=beq_eq_false_iff_ne.1 h_;omega) | omega⟩) S0)
 refine J.c 6 [false] [] [4] 4 (op=2) (fun fk17=>?_) fun fk17=>?_
 exact J.t 2 (X1 true w (⟨fun h_=>by first | (cases h_;done) | (have h2_:=of_decide_eq_true h_;omega) | (have h2_:=beq_iff_eq.1 h_;omega) | omega,fun h_=>by first | (cases h_;done) | (have h2_:=of_decide_eq_false h_;omega) | (have h2_:=beq_eq_false_iff_ne.1 h_;omega) | omega⟩) S0)
 exact J.t 5 (X1 (op==3) w (⟨fun h_=>by first | (cases h_;done) | (have h2_:=of_decide_eq_true h_;omega) | (have h2_:=beq_iff_eq.1 h_;omega) | omega,fun h_=>by first | (cases h_;done) | (have h2_:=of_decide_eq_false h_;omega) | (have h2_:=beq_eq_false_iff_ne.1 h_;omega) | omega⟩) S0)
 /-! layer 13:bytes and texts of instructions -/
abbrev bq:Ins:=⟨0,0,0,0,0⟩
theorem has_yes {s:ByteArray} {c:Int} {i:Nat} (hi:i<s.size) (h:byteAt s i=c):hasF s c=true:=by
  unfold hasF;rw[List.any_eq_true]
  have hl:=ls_length s
  refine⟨(ls s).getD i 0,?_,by rw[beq_iff_eq,← h,byteAt_ls]⟩
  rw[List.getD_eq_getElem?_getD,List.getElem?_eq_getElem om];exact List.getElem_mem _
theorem has_no {s:ByteArray} {c:Int} (h:∀ j,j<s.size→byteAt s j≠c):hasF s c=false:=by
  unfold hasF;rw[List.any_eq_false]
  intro x hx
  obtain ⟨j,hj,rfl⟩:=List.mem_iff_getElem.1 hx
  have:=h j (by rw[← ls_length];exact hj)
  rw[byteAt_ls,List.getD_eq_getElem?_getD,List.getElem?_eq_getElem hj] at this
  simpa using this
theorem hb36:af prog 36:=fun _ _=>by kernel_rfl
def K36_0:=adv 11 [] (bi Tryz.f36)
theorem uses_any (s:ByteArray) (c:Int) (w:World) (hs:s.size≤9223372036854775807):Ret prog 36 #[.string s,.int .u8 c] w (fun v w'=>v=.bool (hasF s c)∧Sep w [] w'):=by
 refine Ret.st (N:=17) func36 fun R hR S0=>?_
 have L36_1:∀ (mm_:Nat) (i:Int) (w1:World),(0≤i)→(i≤(s.size:Int))→(∀ j,j<(i).toNat→byteAt s j≠c)→Sep w [] w1→((s.size:Int)-i).toNat=mm_→J prog 36 17 R K36_0 [(5,iv i),(0,.string s),(1,.int .u8 c)] w1:=by
  intro mm1
  induction mm1 using Nat.strongRecOn with
  | _ mm1 ih1 =>
  intro i w1 h0 h1 hq S1 hm1
  refine J.c 8 [] [] [] 9 (i<(s.size:Int)) (fun fk1=>?_) fun fk1=>?_
  refine J.r 8 [true] [(13,iv i),(12,.string s)] [] ?_
  have:=byteAt_bounds s (i).toNat
  refine J.ok (OK.byte 14 9 s i (byteAt s (i).toNat) kr kr om om (rfl))<|J.c 3 [] [] [] 16 ((byteAt s (i).toNat)=c) (fun fk2=>?_) fun fk2=>?_
  refine J.e 5 [.bool true] func36 (hR _ _ ?_)
  exact⟨congrArg Value.bool (has_yes (i:=i.toNat) om om).symm,S1.nil⟩
  exact J.wi 6 [false] [] [] 11 (i+1)<|J.t 3 (ih1 _ (show((s.size:Int)-(i+1)).toNat<mm1 from by omega) (i+1) w1 om om (dg_step (q:=fun j=>byteAt s j≠c) h0 hq om) S1 rfl)
  refine J.e 6 [.bool false] func36 (hR _ _ ?_)
  exact⟨congrArg Value.bool (has_no fun j hj=>hq j om).symm,S1.nil⟩
 exact J.t 11 (L36_1 _ 0 w om om (by intro j hj;simp at hj) S0 rfl)

theorem hb19:af prog 19:=fun _ _=>by kernel_rfl
def K19_0:=List.drop 1 (adv 58 [false] (bi Tryz.f19))
def K19_1:=List.drop 1 (adv 35 [false,false] K19_0)
def K19_2:=List.drop 1 (adv 7 [false] K19_1)
def K19_3:=List.drop 1 (adv 7 [false] K19_2)
theorem rformed_any (i:Ins) (w:World) (hi:insQ w i):Ret prog 19 #[.agg (dP i)] w (fun v w'=>v=.bool (formB i)∧Sep w [] w'):=by
 refine Ret.st (N:=170) func19 fun R hR S0=>?_
 obtain ⟨q1,q2,q3,q4,q5,_⟩:=id hi
 have hfz:=fields_size (op:=i.gOp)
 refine J.nw 2 [] [] [] S0 1 (aZ i) 64 fun b1 w1 S1=>J.lb 6 [] [] [] S1 0 rfl 8 (iv i.gOp)<|J.c 2 [] [] [] 10 (i.gOp<1) (fun fk1=>?_) fun fk1=>?_
 refine J.e 40 [.bool false] func19 (hR _ _ ?_)
 exact⟨congrArg Value.bool (decide_eq_false (show ¬ (cU i.gOp i.gA i.gB i.gC i.gK) by omega)).symm,S1.nil⟩
 refine J.lb 1 [] [] [] S1 0 rfl 12 (iv i.gOp)<|J.c 3 [] [] [] 15 (i.gOp>22) (fun fk2=>?_) fun fk2=>?_
 refine J.e 35 [.bool false] func19 (hR _ _ ?_)
 exact⟨congrArg Value.bool (decide_eq_false (show ¬ (cU i.gOp i.gA i.gB i.gC i.gK) by omega)).symm,S1.nil⟩
 refine J.lb 1 [] [] [] S1 0 rfl 17 (iv i.gA)<|J.c 3 [] [] [] 20 (i.gA<0) (fun fk3=>?_) fun fk3=>?_
 refine J.e 30 [.bool false] func19 (hR _ _ ?_)
 exact⟨congrArg Value.bool (decide_eq_false (show ¬ (cU i.gOp i.gA i.gB i.gC i.gK) by omega)).symm,S1.nil⟩
 refine J.lb 1 [] [] [] S1 0 rfl 22 (iv i.gA)<|J.c 3 [] [] [] 25 (i.gA>15) (fun fk4=>?_) fun fk4=>?_
 refine J.e 25 [.bool false] func19 (hR _ _ ?_)
 exact⟨congrArg Value.bool (decide_eq_false (show ¬ (cU i.gOp i.gA i.gB i.gC i.gK) by omega)).symm,S1.nil⟩
 refine J.lb 1 [] [] [] S1 0 rfl 27 (iv i.gB)<|J.c 3 [] [] [] 30 (i.gB<0) (fun fk5=>?_) fun fk5=>?_
 refine J.e 20 [.bool false] func19 (hR _ _ ?_)
 exact⟨congrArg Value.bool (decide_eq_false (show ¬ (cU i.gOp i.gA i.gB i.gC i.gK) by omega)).symm,S1.nil⟩
 refine J.lb 1 [] [] [] S1 0 rfl 32 (iv i.gB)<|J.c 3 [] [] [] 35 (i.gB>15) (fun fk6=>?_) fun fk6=>?_
 refine J.e 15 [.bool false] func19 (hR _ _ ?_)
 exact⟨congrArg Value.bool (decide_eq_false (show ¬ (cU i.gOp i.gA i.gB i.gC i.gK) by omega)).symm,S1.nil⟩
 refine J.lb 1 [] [] [] S1 0 rfl 37 (iv i.gC)<|J.c 3 [] [] [] 40 (i.gC<0) (fun fk7=>?_) fun fk7=>?_
 refine J.e 10 [.bool false] func19 (hR _ _ ?_)
 exact⟨congrArg Value.bool (decide_eq_false (show ¬ (cU i.gOp i.gA i.gB i.gC i.gK) by omega)).symm,S1.nil⟩
 refine J.lb 1 [] [] [] S1 0 rfl 42 (iv i.gC)<|J.c 3 [] [] [] 44 (i.gC>15) (fun fk8=>?_) fun fk8=>?_
 refine J.e 5 [.bool false] func19 (hR _ _ ?_)
 exact⟨congrArg Value.bool (decide_eq_false (show ¬ (cU i.gOp i.gA i.gB i.gC i.gK) by omega)).symm,S1.nil⟩
 refine J.lb 5 [false] [] [] S1 0 rfl 46 (iv i.gOp)<|J.c0 0 [] [] [] S1 47 hb35 (rfields_any i.gOp _ om) fun w2 S2=>?_
 have:=fields_size (op:=i.gOp)
 have X1:∀ (tb:Bool) (w3:World),((tb=true→¬ ((4≤i.gOp∨i.gB=0)∧(useC i.gOp∨i.gC=0)∧(useK i.gOp∨i.gK=0)))∧(tb=false→(4≤i.gOp∨i.gB=0)∧(useC i.gOp∨i.gC=0)∧(useK i.gOp∨i.gK=0)))→Sep w [box b1 (aZ i) 64] w3→J prog 19 170 R K19_0 [(1,pv b1),(75,.bool tb)] w3:=by
  intro tb w3 htb S3
  refine J.b 0 [] [] [] 75 tb (fun fk9=>?_) fun fk9=>?_
  have fb1:=htb.1 fk9
  refine J.e 5 [.bool false] func19 (hR _ _ ?_)
  exact⟨congrArg Value.bool (decide_eq_false (show ¬ (cU i.gOp i.gA i.gB i.gC i.gK) by omega)).symm,S3.nil⟩
  have fb2:=htb.2 fk9
  refine J.lb 5 [false] [] [] S3 0 rfl 78 (iv i.gK)<|J.h 1 [] [] [] 79 (iv (if 0>i.gK then 0 else i.gK)) (iv (max i.gK 0)) (congrArg (Value.int .i64) om)<|J.c0 0 [] [] [] S3 80 hb37 (rtypes_any (max i.gK 0) _ om) fun w4 S4=>J.lb 12 [] [(6,iv ((max i.gK 0)%128)),(5,iv ((max i.gK 0)/128%128)),(4,iv ((max i.gK 0)/16384))] [] S4 0 rfl 85 (iv i.gOp)<|J.c 7 [] [] [] 86 (i.gOp=1) (fun fk10=>?_) fun fk10=>?_
  refine J.lb 4 [true] [] [] S4 0 rfl 89 (iv i.gK)<|J.c 2 [] [] [] 91 (i.gK≥(-1099511627776)) (fun fk11=>?_) fun fk11=>?_
  refine J.lb 1 [] [] [] S4 0 rfl 93 (iv i.gK)<|J.e 4 [.bool (decide (i.gK≤1099511627776))] func19 (hR _ _ ?_)
  exact⟨congrArg Value.bool (by show(decide (i.gK≤1099511627776))=decide (cU i.gOp i.gA i.gB i.gC i.gK);by_cases hz_:i.gK≤1099511627776;(rw[(decide_eq_true hz_)];first | exact(decide_eq_true om).symm | exact(decide_eq_false om).symm);(rw[(decide_eq_false hz_)];first | exact(decide_eq_false om).symm | exact(decide_eq_true om).symm)),S4.nil⟩
  refine J.e 6 [.bool false] func19 (hR _ _ ?_)
  exact⟨congrArg Value.bool (decide_eq_false (show ¬ (cU i.gOp i.gA i.gB i.gC i.gK) by omega)).symm,S4.nil⟩
  have X2:∀ (tj96:Bool) (w5:World),((tj96=true→(i.gOp=5∨i.gOp=6∨i.gOp=7∨i.gOp=8))∧(tj96=false→¬ (i.gOp=5∨i.gOp=6∨i.gOp=7∨i.gOp=8)))→Sep w [box b1 (aZ i) 64] w5→J prog 19 170 R K19_1 [(85,iv i.gOp),(6,iv ((max i.gK 0)%128)),(5,iv ((max i.gK 0)/128%128)),(4,iv ((max i.gK 0)/16384)),(1,pv b1),(96,.bool tj96)] w5:=by
   intro tj96 w5 htj96 S5
   refine J.b 0 [] [] [] 96 tj96 (fun fk12=>?_) fun fk12=>?_
   have fb3:=htj96.1 fk12
   refine J.lb 4 [true] [] [] S5 0 rfl 102 (iv i.gK)<|J.c 2 [] [] [] 104 (i.gK≥0) (fun fk13=>?_) fun fk13=>?_
   refine J.e 5 [.bool (decide (((max i.gK 0)/16384)<128))] func19 (hR _ _ ?_)
   exact⟨congrArg Value.bool (by show(decide (((max i.gK 0)/16384)<128))=decide (cU i.gOp i.gA i.gB i.gC i.gK);by_cases hz_:((max i.gK 0)/16384)<128;(rw[(decide_eq_true hz_)];first | exact(decide_eq_true om).symm | exact(decide_eq_false om).symm);(rw[(decide_eq_false hz_)];first | exact(decide_eq_false om).symm | exact(decide_eq_true om).symm)),S5.nil⟩
   refine J.e 5 [.bool false] func19 (hR _ _ ?_)
   exact⟨congrArg Value.bool (decide_eq_false (show ¬ (cU i.gOp i.gA i.gB i.gC i.gK) by omega)).symm,S5.nil⟩
   have fb4:=htj96.2 fk12
   have X3:∀ (tj108:Bool) (w6:World),((tj108=true→(i.gOp=9∨i.gOp=10))∧(tj108=false→¬ (i.gOp=9∨i.gOp=10)))→Sep w [box b1 (aZ i) 64] w6→J prog 19 170 R K19_2 [(85,iv i.gOp),(6,iv ((max i.gK 0)%128)),(5,iv ((max i.gK 0)/128%128)),(4,iv ((max i.gK 0)/16384)),(1,pv b1),(108,.bool tj108)] w6:=by
    intro tj108 w6 htj108 S6
    refine J.b 0 [] [] [] 108 tj108 (fun fk14=>?_) fun fk14=>?_
    have fb5:=htj108.1 fk14
    refine J.lb 4 [true] [] [] S6 0 rfl 112 (iv i.gK)<|J.c 2 [] [] [] 114 (i.gK≥0) (fun fk15=>?_) fun fk15=>?_
    refine J.c 4 [] [] [] 118 (((max i.gK 0)/16384)<128) (fun fk16=>?_) fun fk16=>?_
    refine J.e 5 [.bool (((max i.gK 0)/128%128)==0)] func19 (hR _ _ ?_)
    exact⟨congrArg Value.bool (by show(((max i.gK 0)/128%128)==0)=decide (cU i.gOp i.gA i.gB i.gC i.gK);by_cases hz_:((max i.gK 0)/128%128)=0;(rw[(beq_iff_eq.2 hz_)];first | exact(decide_eq_true om).symm | exact(decide_eq_false om).symm);(rw[(beq_eq_false_iff_ne.2 hz_)];first | exact(decide_eq_false om).symm | exact(decide_eq_true om).symm)),S6.nil⟩
    refine J.e 5 [.bool false] func19 (hR _ _ ?_)
    exact⟨congrArg Value.bool (decide_eq_false (show ¬ (cU i.gOp i.gA i.gB i.gC i.gK) by omega)).symm,S6.nil⟩
    refine J.e 9 [.bool false] func19 (hR _ _ ?_)
    exact⟨congrArg Value.bool (decide_eq_false (show ¬ (cU i.gOp i.gA i.gB i.gC i.gK) by omega)).symm,S6.nil⟩
    have fb6:=htj108.2 fk14
    have X4:∀ (tj122:Bool) (w7:World),((tj122=true→(i.gOp=13∨i.gOp=14))∧(tj122=false→¬ (i.gOp=13∨i.gOp=14)))→Sep w [box b1 (aZ i) 64] w7→J prog 19 170 R K19_3 [(85,iv i.gOp),(6,iv ((max i.gK 0)%128)),(4,iv ((max i.gK 0)/16384)),(1,pv b1),(122,.bool tj122)] w7:=by
     intro tj122 w7 htj122 S7
     refine J.b 0 [] [] [] 122 tj122 (fun fk17=>?_) fun fk17=>?_
     have fb7:=htj122.1 fk17
     refine J.lb 4 [true] [] [] S7 0 rfl 126 (iv i.gK)<|J.c 2 [] [] [] 128 (i.gK≥0) (fun fk18=>?_) fun fk18=>?_
     refine J.c 4 [] [] [] 132 (((max i.gK 0)/16384)<128) (fun fk19=>?_) fun fk19=>?_
     refine J.e 5 [.bool (((max i.gK 0)%128)==0)] func19 (hR _ _ ?_)
     exact⟨congrArg Value.bool (by show(((max i.gK 0)%128)==0)=decide (cU i.gOp i.gA i.gB i.gC i.gK);by_cases hz_:((max i.gK 0)%128)=0;(rw[(beq_iff_eq.2 hz_)];first | exact(decide_eq_true om).symm | exact(decide_eq_false om).symm);(rw[(beq_eq_false_iff_ne.2 hz_)];first | exact(decide_eq_false om).symm | exact(decide_eq_true om).symm)),S7.nil⟩
     refine J.e 5 [.bool false] func19 (hR _ _ ?_)
     exact⟨congrArg Value.bool (decide_eq_false (show ¬ (cU i.gOp i.gA i.gB i.gC i.gK) by omega)).symm,S7.nil⟩
     refine J.e 9 [.bool false] func19 (hR _ _ ?_)
     exact⟨congrArg Value.bool (decide_eq_false (show ¬ (cU i.gOp i.gA i.gB i.gC i.gK) by omega)).symm,S7.nil⟩
     have fb8:=htj122.2 fk17
     refine J.c 6 [false] [] [] 136 (i.gOp=19) (fun fk20=>?_) fun fk20=>?_
     refine J.lb 4 [true] [] [] S7 0 rfl 139 (iv i.gK)<|J.c 2 [] [] [] 141 (i.gK≥0) (fun fk21=>?_) fun fk21=>?_
     refine J.lb 1 [] [] [] S7 0 rfl 143 (iv i.gK)<|J.e 4 [.bool (decide (i.gK≤15))] func19 (hR _ _ ?_)
     exact⟨congrArg Value.bool (by show(decide (i.gK≤15))=decide (cU i.gOp i.gA i.gB i.gC i.gK);by_cases hz_:i.gK≤15;(rw[(decide_eq_true hz_)];first | exact(decide_eq_true om).symm | exact(decide_eq_false om).symm);(rw[(decide_eq_false hz_)];first | exact(decide_eq_false om).symm | exact(decide_eq_true om).symm)),S7.nil⟩
     refine J.e 6 [.bool false] func19 (hR _ _ ?_)
     exact⟨congrArg Value.bool (decide_eq_false (show ¬ (cU i.gOp i.gA i.gB i.gC i.gK) by omega)).symm,S7.nil⟩
     refine J.c 6 [false] [] [] 146 (i.gOp=22) (fun fk22=>?_) fun fk22=>?_
     refine J.lb 4 [true] [] [] S7 0 rfl 149 (iv i.gK)<|J.c 2 [] [] [] 151 (i.gK≥0) (fun fk23=>?_) fun fk23=>?_
     refine J.lb 1 [] [] [] S7 0 rfl 153 (iv i.gK)<|J.c 3 [] [] [] 156 (i.gK≤32767) (fun fk24=>?_) fun fk24=>?_
     refine J.lb 1 [] [] [] S7 0 rfl 158 (iv i.gK)<|J.h 1 [] [] [] 159 (iv (Int.tmod i.gK 32)) (iv (i.gK%32)) (congrArg (Value.int .i64) (IntWalk.rem_in _ _ om))<|J.e 4 [.bool (decide ((i.gK%32)≤20))] func19 (hR _ _ ?_)
     exact⟨congrArg Value.bool (by show(decide ((i.gK%32)≤20))=decide (cU i.gOp i.gA i.gB i.gC i.gK);by_cases hz_:(i.gK%32)≤20;(rw[(decide_eq_true hz_)];first | exact(decide_eq_true om).symm | exact(decide_eq_false om).symm);(rw[(decide_eq_false hz_)];first | exact(decide_eq_false om).symm | exact(decide_eq_true om).symm)),S7.nil⟩
     refine J.e 7 [.bool false] func19 (hR _ _ ?_)
     exact⟨congrArg Value.bool (decide_eq_false (show ¬ (cU i.gOp i.gA i.gB i.gC i.gK) by omega)).symm,S7.nil⟩
     refine J.e 12 [.bool false] func19 (hR _ _ ?_)
     exact⟨congrArg Value.bool (decide_eq_false (show ¬ (cU i.gOp i.gA i.gB i.gC i.gK) by omega)).symm,S7.nil⟩
     refine J.lb 6 [false] [] [] S7 0 rfl 163 (iv i.gK)<|J.c 2 [] [] [] 165 (i.gK≥0) (fun fk25=>?_) fun fk25=>?_
     refine J.lb 1 [] [] [] S7 0 rfl 167 (iv i.gK)<|J.e 4 [.bool (decide (i.gK≤32767))] func19 (hR _ _ ?_)
     exact⟨congrArg Value.bool (by show(decide (i.gK≤32767))=decide (cU i.gOp i.gA i.gB i.gC i.gK);by_cases hz_:i.gK≤32767;(rw[(decide_eq_true hz_)];first | exact(decide_eq_true om).symm | exact(decide_eq_false om).symm);(rw[(decide_eq_false hz_)];first | exact(decide_eq_false om).symm | exact(decide_eq_true om).symm)),S7.nil⟩
     refine J.e 6 [.bool false] func19 (hR _ _ ?_)
     exact⟨congrArg Value.bool (decide_eq_false (show ¬ (cU i.gOp i.gA i.gB i.gC i.gK) by omega)).symm,S7.nil⟩
    refine J.c 7 [false] [] [] 122 (i.gOp=13) (fun fk26=>?_) fun fk26=>?_
    exact J.t 2 (X4 true w6 (⟨fun h_=>by first | (cases h_;done) | (have h2_:=of_decide_eq_true h_;omega) | (have h2_:=beq_iff_eq.1 h_;omega) | omega,fun h_=>by first | (cases h_;done) | (have h2_:=of_decide_eq_false h_;omega) | (have h2_:=beq_eq_false_iff_ne.1 h_;omega) | omega⟩) S6)
    exact J.t 5 (X4 (i.gOp==14) w6 (⟨fun h_=>by first | (cases h_;done) | (have h2_:=of_decide_eq_true h_;omega) | (have h2_:=beq_iff_eq.1 h_;omega) | omega,fun h_=>by first | (cases h_;done) | (have h2_:=of_decide_eq_false h_;omega) | (have h2_:=beq_eq_false_iff_ne.1 h_;omega) | omega⟩) S6)
   refine J.c 7 [false] [] [] 108 (i.gOp=9) (fun fk27=>?_) fun fk27=>?_
   exact J.t 2 (X3 true w5 (⟨fun h_=>by first | (cases h_;done) | (have h2_:=of_decide_eq_true h_;omega) | (have h2_:=beq_iff_eq.1 h_;omega) | omega,fun h_=>by first | (cases h_;done) | (have h2_:=of_decide_eq_false h_;omega) | (have h2_:=beq_eq_false_iff_ne.1 h_;omega) | omega⟩) S5)
   exact J.t 5 (X3 (i.gOp==10) w5 (⟨fun h_=>by first | (cases h_;done) | (have h2_:=of_decide_eq_true h_;omega) | (have h2_:=beq_iff_eq.1 h_;omega) | omega,fun h_=>by first | (cases h_;done) | (have h2_:=of_decide_eq_false h_;omega) | (have h2_:=beq_eq_false_iff_ne.1 h_;omega) | omega⟩) S5)
  refine J.c 7 [false] [] [] 96 (i.gOp=5) (fun fk28=>?_) fun fk28=>?_
  exact J.t 2 (X2 true w4 (⟨fun h_=>by first | (cases h_;done) | (have h2_:=of_decide_eq_true h_;omega) | (have h2_:=beq_iff_eq.1 h_;omega) | omega,fun h_=>by first | (cases h_;done) | (have h2_:=of_decide_eq_false h_;omega) | (have h2_:=beq_eq_false_iff_ne.1 h_;omega) | omega⟩) S4)
  refine J.c 6 [false] [] [96] 96 (i.gOp=6) (fun fk29=>?_) fun fk29=>?_
  exact J.t 2 (X2 true w4 (⟨fun h_=>by first | (cases h_;done) | (have h2_:=of_decide_eq_true h_;omega) | (have h2_:=beq_iff_eq.1 h_;omega) | omega,fun h_=>by first | (cases h_;done) | (have h2_:=of_decide_eq_false h_;omega) | (have h2_:=beq_eq_false_iff_ne.1 h_;omega) | omega⟩) S4)
  refine J.c 6 [false] [] [96] 96 (i.gOp=7) (fun fk30=>?_) fun fk30=>?_
  exact J.t 2 (X2 true w4 (⟨fun h_=>by first | (cases h_;done) | (have h2_:=of_decide_eq_true h_;omega) | (have h2_:=beq_iff_eq.1 h_;omega) | omega,fun h_=>by first | (cases h_;done) | (have h2_:=of_decide_eq_false h_;omega) | (have h2_:=beq_eq_false_iff_ne.1 h_;omega) | omega⟩) S4)
  exact J.t 5 (X2 (i.gOp==8) w4 (⟨fun h_=>by first | (cases h_;done) | (have h2_:=of_decide_eq_true h_;omega) | (have h2_:=beq_iff_eq.1 h_;omega) | omega,fun h_=>by first | (cases h_;done) | (have h2_:=of_decide_eq_false h_;omega) | (have h2_:=beq_eq_false_iff_ne.1 h_;omega) | omega⟩) S4)
 refine J.c0 6 [] [(3,.string (cg i.gOp))] [] S2 49 hb36 (uses_any (cg i.gOp) 66 _ om) fun w8 S8=>J.bn 2 [] [] [] 51 (hasF (cg i.gOp) 66) (fun fk31=>?_) fun fk31=>?_
 have fb9:=(has_B (op:=i.gOp) om).1 fk31
 refine J.c0 6 [] [(56,.bool false)] [] S8 58 hb36 (uses_any (cg i.gOp) 67 _ om) fun w9 S9=>J.bn 2 [] [] [] 60 (hasF (cg i.gOp) 67) (fun fk32=>?_) fun fk32=>?_
 have fb10:=(has_C (op:=i.gOp) om).1 fk32
 refine J.c0 7 [] [(66,.bool false)] [] S9 68 hb36 (uses_any (cg i.gOp) 75 _ om) fun w10 S10=>J.bn 2 [] [] [] 70 (hasF (cg i.gOp) 75) (fun fk33=>?_) fun fk33=>?_
 have fb11:=(has_K (op:=i.gOp) om).1 fk33
 exact J.t 6 (X1 false w10 (⟨fun h_=>by first | (cases h_;done) | (have h2_:=of_decide_eq_true h_;omega) | (have h2_:=bne_iff_ne.1 h_;omega) | omega,fun h_=>by first | (cases h_;done) | (have h2_:=of_decide_eq_false h_;omega) | (have h2_:=bne_eq_false_iff_eq.1 h_;omega) | omega⟩) S10)
 have fb12:=mt (has_K (op:=i.gOp) om).2 (by rw[fk33];decide)
 exact J.lb 1 [] [] [] S10 0 rfl 72 (iv i.gK)<|J.t 4 (X1 (i.gK != 0) w10 (⟨fun h_=>by first | (cases h_;done) | (have h2_:=of_decide_eq_true h_;omega) | (have h2_:=bne_iff_ne.1 h_;omega) | omega,fun h_=>by first | (cases h_;done) | (have h2_:=of_decide_eq_false h_;omega) | (have h2_:=bne_eq_false_iff_eq.1 h_;omega) | omega⟩) S10)
 have fb13:=mt (has_C (op:=i.gOp) om).2 (by rw[fk32];decide)
 refine J.lb 1 [] [] [] S9 0 rfl 62 (iv i.gC)<|J.cn 4 [] [] [] 66 (i.gC=0) (fun fk34=>?_) fun fk34=>?_
 refine J.c0 1 [] [] [] S9 68 hb36 (uses_any (cg i.gOp) 75 _ om) fun w11 S11=>J.bn 2 [] [] [] 70 (hasF (cg i.gOp) 75) (fun fk35=>?_) fun fk35=>?_
 have fb14:=(has_K (op:=i.gOp) om).1 fk35
 exact J.t 6 (X1 false w11 (⟨fun h_=>by first | (cases h_;done) | (have h2_:=of_decide_eq_true h_;omega) | (have h2_:=bne_iff_ne.1 h_;omega) | omega,fun h_=>by first | (cases h_;done) | (have h2_:=of_decide_eq_false h_;omega) | (have h2_:=bne_eq_false_iff_eq.1 h_;omega) | omega⟩) S11)
 have fb15:=mt (has_K (op:=i.gOp) om).2 (by rw[fk35];decide)
 exact J.lb 1 [] [] [] S11 0 rfl 72 (iv i.gK)<|J.t 4 (X1 (i.gK != 0) w11 (⟨fun h_=>by first | (cases h_;done) | (have h2_:=of_decide_eq_true h_;omega) | (have h2_:=bne_iff_ne.1 h_;omega) | omega,fun h_=>by first | (cases h_;done) | (have h2_:=of_decide_eq_false h_;omega) | (have h2_:=bne_eq_false_iff_eq.1 h_;omega) | omega⟩) S11)
 exact J.t 10 (X1 true w9 (⟨fun h_=>by first | (cases h_;done) | (have h2_:=of_decide_eq_true h_;omega) | (have h2_:=bne_iff_ne.1 h_;omega) | omega,fun h_=>by first | (cases h_;done) | (have h2_:=of_decide_eq_false h_;omega) | (have h2_:=bne_eq_false_iff_eq.1 h_;omega) | omega⟩) S9)
 have fb16:=mt (has_B (op:=i.gOp) om).2 (by rw[fk31];decide)
 refine J.lb 1 [] [] [] S8 0 rfl 53 (iv i.gB)<|J.cn 3 [] [] [] 56 (i.gB=0) (fun fk36=>?_) fun fk36=>?_
 refine J.c0 1 [] [] [] S8 58 hb36 (uses_any (cg i.gOp) 67 _ om) fun w12 S12=>J.bn 2 [] [] [] 60 (hasF (cg i.gOp) 67) (fun fk37=>?_) fun fk37=>?_
 have fb17:=(has_C (op:=i.gOp) om).1 fk37
 refine J.c0 7 [] [(66,.bool false)] [] S12 68 hb36 (uses_any (cg i.gOp) 75 _ om) fun w13 S13=>J.bn 2 [] [] [] 70 (hasF (cg i.gOp) 75) (fun fk38=>?_) fun fk38=>?_
 have fb18:=(has_K (op:=i.gOp) om).1 fk38
 exact J.t 6 (X1 false w13 (⟨fun h_=>by first | (cases h_;done) | (have h2_:=of_decide_eq_true h_;omega) | (have h2_:=bne_iff_ne.1 h_;omega) | omega,fun h_=>by first | (cases h_;done) | (have h2_:=of_decide_eq_false h_;omega) | (have h2_:=bne_eq_false_iff_eq.1 h_;omega) | omega⟩) S13)
 have fb19:=mt (has_K (op:=i.gOp) om).2 (by rw[fk38];decide)
 exact J.lb 1 [] [] [] S13 0 rfl 72 (iv i.gK)<|J.t 4 (X1 (i.gK != 0) w13 (⟨fun h_=>by first | (cases h_;done) | (have h2_:=of_decide_eq_true h_;omega) | (have h2_:=bne_iff_ne.1 h_;omega) | omega,fun h_=>by first | (cases h_;done) | (have h2_:=of_decide_eq_false h_;omega) | (have h2_:=bne_eq_false_iff_eq.1 h_;omega) | omega⟩) S13)
 have fb20:=mt (has_C (op:=i.gOp) om).2 (by rw[fk37];decide)
 refine J.lb 1 [] [] [] S12 0 rfl 62 (iv i.gC)<|J.cn 4 [] [] [] 66 (i.gC=0) (fun fk39=>?_) fun fk39=>?_
 refine J.c0 1 [] [] [] S12 68 hb36 (uses_any (cg i.gOp) 75 _ om) fun w14 S14=>J.bn 2 [] [] [] 70 (hasF (cg i.gOp) 75) (fun fk40=>?_) fun fk40=>?_
 have fb21:=(has_K (op:=i.gOp) om).1 fk40
 exact J.t 6 (X1 false w14 (⟨fun h_=>by first | (cases h_;done) | (have h2_:=of_decide_eq_true h_;omega) | (have h2_:=bne_iff_ne.1 h_;omega) | omega,fun h_=>by first | (cases h_;done) | (have h2_:=of_decide_eq_false h_;omega) | (have h2_:=bne_eq_false_iff_eq.1 h_;omega) | omega⟩) S14)
 have fb22:=mt (has_K (op:=i.gOp) om).2 (by rw[fk40];decide)
 exact J.lb 1 [] [] [] S14 0 rfl 72 (iv i.gK)<|J.t 4 (X1 (i.gK != 0) w14 (⟨fun h_=>by first | (cases h_;done) | (have h2_:=of_decide_eq_true h_;omega) | (have h2_:=bne_iff_ne.1 h_;omega) | omega,fun h_=>by first | (cases h_;done) | (have h2_:=of_decide_eq_false h_;omega) | (have h2_:=bne_eq_false_iff_eq.1 h_;omega) | omega⟩) S14)
 exact J.t 10 (X1 true w12 (⟨fun h_=>by first | (cases h_;done) | (have h2_:=of_decide_eq_true h_;omega) | (have h2_:=bne_iff_ne.1 h_;omega) | omega,fun h_=>by first | (cases h_;done) | (have h2_:=of_decide_eq_false h_;omega) | (have h2_:=bne_eq_false_iff_eq.1 h_;omega) | omega⟩) S12)
 exact J.t 20 (X1 true w8 (⟨fun h_=>by first | (cases h_;done) | (have h2_:=of_decide_eq_true h_;omega) | (have h2_:=bne_iff_ne.1 h_;omega) | omega,fun h_=>by first | (cases h_;done) | (have h2_:=of_decide_eq_false h_;omega) | (have h2_:=bne_eq_false_iff_eq.1 h_;omega) | omega⟩) S8)

end
end Go.Proofs.YtaoolgcddapegaaGreat

namespace Go.Proofs.YtaoolgcddapegaaGreat
open Go.Eng Go.RowKit
set_option maxRecDepth 20000
set_option maxHeartbeats 20000000
structure Prg where
  cD:Option Addr
  bl:Nat
  dd:Nat
  aB:List Ins
  aJ:Option Addr
  am:Nat
  bj:Nat
  av:List Fxd
  ce:Option Addr
  br:Nat
  cu:Nat
  bS:List Crv
  dc:Option Addr
  bO:Nat
  dz:Nat
  cX:List Mp
  ap:Int
  aU:Option Addr
  aq:Nat
  aW:Nat
  au:List Int
  aY:Option Addr
  aH:Nat
  ba:Nat
  ao:List Int
  bt:Option Addr
  aL:Nat
  bv:Nat
  aM:List Int
  bU:Option Addr
  bc:Nat
  co:Nat
  bf:List Int
def prgQ (w:World) (x:Prg):Prop:=(x.bl≤x.dd∧x.dd≤9223372036854775807)∧Recs insE 5 w x.cD x.bl x.aB∧(∀ y ∈ x.aB,(insQ w) y)∧(x.am≤x.bj∧x.bj≤9223372036854775807)∧Recs fxdE 10 w x.aJ x.am x.av∧(∀ y ∈ x.av,(cA w) y)∧(x.br≤x.cu∧x.cu≤9223372036854775807)∧Recs crvE 2 w x.ce x.br x.bS∧(∀ y ∈ x.bS,(crvQ w) y)∧(x.bO≤x.dz∧x.dz≤9223372036854775807)∧Recs mpE 3 w x.dc x.bO x.cX∧(∀ y ∈ x.cX,(mpQ w) y)∧((-9223372036854775808)≤x.ap∧x.ap≤9223372036854775807)∧(x.aq≤x.aW∧x.aW≤9223372036854775807)∧Ones (Value.int .i64) w x.aU x.aq x.au∧(∀ y ∈ x.au,(fun n=>(-9223372036854775808)≤n∧n≤9223372036854775807) y)∧(x.aH≤x.ba∧x.ba≤9223372036854775807)∧Ones (Value.int .i64) w x.aY x.aH x.ao∧(∀ y ∈ x.ao,(fun n=>(-9223372036854775808)≤n∧n≤9223372036854775807) y)∧(x.aL≤x.bv∧x.bv≤9223372036854775807)∧Ones (Value.int .i64) w x.bt x.aL x.aM∧(∀ y ∈ x.aM,(fun n=>(-9223372036854775808)≤n∧n≤9223372036854775807) y)∧(x.bc≤x.co∧x.co≤9223372036854775807)∧Ones (Value.int .i64) w x.bU x.bc x.bf∧(∀ y ∈ x.bf,(fun n=>(-9223372036854775808)≤n∧n≤9223372036854775807) y)∧True
theorem cS {w0 w:World} {L:List Eng.Claim} {x:Prg} (h:prgQ w0 x) (S:Sep w0 L w):prgQ w x:=by
  obtain ⟨hgCode1,hgCode2,hgCode3,hgTypes1,hgTypes2,hgTypes3,hgCurves1,hgCurves2,hgCurves3,hgMaps1,hgMaps2,hgMaps3,hgCells,hgInputs1,hgInputs2,hgInputs3,hgStates1,hgStates2,hgStates3,hgOutputs1,hgOutputs2,hgOutputs3,hgInitial1,hgInitial2,hgInitial3,_⟩:=h
  exact⟨hgCode1,hgCode2.sep S,fun y hy=>dF (hgCode3 y hy) S,hgTypes1,hgTypes2.sep S,fun y hy=>aw (hgTypes3 y hy) S,hgCurves1,hgCurves2.sep S,fun y hy=>dV (hgCurves3 y hy) S,hgMaps1,hgMaps2.sep S,fun y hy=>dZ (hgMaps3 y hy) S,hgCells,hgInputs1,hgInputs2.sep S,hgInputs3,hgStates1,hgStates2.sep S,hgStates3,hgOutputs1,hgOutputs2.sep S,hgOutputs3,hgInitial1,hgInitial2.sep S,hgInitial3,trivial⟩
abbrev aO (x:Prg):List Value:=[.slice x.cD x.bl x.dd,.slice x.aJ x.am x.bj,.slice x.ce x.br x.cu,.slice x.dc x.bO x.dz,iv x.ap,.slice x.aU x.aq x.aW,.slice x.aY x.aH x.ba,.slice x.bt x.aL x.bv,.slice x.bU x.bc x.co]
abbrev dq (x:Prg):Array Value:=#[.slice x.cD x.bl x.dd,.slice x.aJ x.am x.bj,.slice x.ce x.br x.cu,.slice x.dc x.bO x.dz,iv x.ap,.slice x.aU x.aq x.aW,.slice x.aY x.aH x.ba,.slice x.bt x.aL x.bv,.slice x.bU x.bc x.co]
structure Mch where
  gRegs_0:Int
  gRegs_1:Int
  gRegs_2:Int
  gRegs_3:Int
  gRegs_4:Int
  gRegs_5:Int
  gRegs_6:Int
  gRegs_7:Int
  gRegs_8:Int
  gRegs_9:Int
  gRegs_10:Int
  gRegs_11:Int
  gRegs_12:Int
  gRegs_13:Int
  gRegs_14:Int
  gRegs_15:Int
  gCells_a:Option Addr
  gCells_n:Nat
  gCells_c:Nat
  gCells_l:List Int
def tyN (p:Prg) (k:Int):Fxd:=p.av.getD k.toNat fx0
def tyOK (p:Prg) (op k:Int):Bool:=decide (k/16384<(p.am:Int)∧(op=9∨op=10∨k/128%128<(p.am:Int))∧(op=13∨op=14∨k%128<(p.am:Int)))
def tyA (p:Prg) (op k:Int):Fxd:=if tyOK p op k then tyN p (k/16384) else fx0
def tyB (p:Prg) (op k:Int):Fxd:=if tyOK p op k&&decide (op≠9∧op≠10) then tyN p (k/128%128) else fx0
def tyC (p:Prg) (op k:Int):Fxd:=if tyOK p op k&&decide (op≠13∧op≠14) then tyN p (k%128) else fx0
def cm (p:Prg) (i:Ins):Bool :=
  if i.gOp=2∨i.gOp=3 then decide (i.gK<p.ap) else if i.gOp=20 then decide (i.gK<(p.br:Int)) else if i.gOp=21 then decide (i.gK<(p.bO:Int)) else if i.gOp=22 then decide (i.gK/32+1<p.ap)
  else if ec i.gOp then tyOK p i.gOp i.gK&&cQ i.gOp (az (tyA p i.gOp i.gK)) (az (tyB p i.gOp i.gK)) (az (tyC p i.gOp i.gK)) else true
def cN (p:Prg) (i:Ins):Bool:=formB i&&cm p i
def cH (n:Int) (l:List Int):Bool:=decide (l.length≤1000)&&l.all fun c=>decide (0≤c)&&decide (c<n)
def initB (n:Int):Bool:=decide (-1099511627776≤n)&&decide (n≤1099511627776)
abbrev lenP (p:Prg):Prop:=p.bl≤4000∧p.am≤100∧p.br≤100∧p.bO≤100∧0≤p.ap∧p.ap≤1000
def bX (p:Prg):Bool :=
  decide (lenP p)&&(p.av.all bF&&(p.bS.all cB&&(p.cX.all ch&&(p.aB.all (cN p)&&(cH p.ap p.au&&(cH p.ap p.aM&&(cH p.ap p.ao&&(decide (p.bc=p.aH)&&(decide (p.au++p.ao).Nodup&&p.bf.all initB)))))))))
theorem aX {p:Prg} (h:¬ lenP p∨p.av.all bF=false∨p.bS.all cB=false∨p.cX.all ch=false∨p.aB.all (cN p)=false∨cH p.ap p.au=false∨cH p.ap p.aM=false∨cH p.ap p.ao=false∨p.bc≠p.aH∨¬ (p.au++p.ao).Nodup∨p.bf.all initB=false):bX p=false:=by
  unfold bX
  rcases h with h | h | h | h | h | h | h | h | h | h | h
  · rw[decide_eq_false h];rfl
  · rw[h];simp
  · rw[h];simp
  · rw[h];simp
  · rw[h];simp
  · rw[h];simp
  · rw[h];simp
  · rw[h];simp
  · rw[decide_eq_false h];simp
  · rw[decide_eq_false h];simp
  · rw[h];simp
theorem validP_yes {p:Prg} (h1:lenP p) (h2:p.av.all bF=true) (h3:p.bS.all cB=true) (h4:p.cX.all ch=true) (h5:p.aB.all (cN p)=true) (h6:cH p.ap p.au=true) (h7:cH p.ap p.aM=true) (h8:cH p.ap p.ao=true) (h9:p.bc=p.aH) (h10:(p.au++p.ao).Nodup) (h11:p.bf.all initB=true):bX p=true:=by
  unfold bX;rw[decide_eq_true h1,h2,h3,h4,h5,h6,h7,h8,decide_eq_true h9,decide_eq_true h10,h11];rfl
theorem ci {p:Prg} (h:bX p=true):lenP p∧p.av.all bF=true∧p.bS.all cB=true∧p.cX.all ch=true∧p.aB.all (cN p)=true∧cH p.ap p.au=true∧cH p.ap p.aM=true∧cH p.ap p.ao=true∧p.bc=p.aH∧(p.au++p.ao).Nodup∧p.bf.all initB=true:=by
  unfold bX at h
  simp only[Bool.and_eq_true,decide_eq_true_eq] at h
  exact h
theorem bY {n:Int} {l:List Int} (h:cH n l=true):l.length≤1000∧∀ j,j<l.length→0≤l.getD j 0∧l.getD j 0<n:=by
  unfold cH at h
  simp only[Bool.and_eq_true,decide_eq_true_eq] at h
  refine⟨h.1,fun j hj=>?_⟩
  have:=(cI 0).1 h.2 j hj
  simpa using this
theorem cellsL_yes {n:Int} {l:List Int} (h1:l.length≤1000) (h2:∀ j,j<l.length→0≤l.getD j 0∧l.getD j 0<n):cH n l=true:=by
  unfold cH;rw[decide_eq_true h1,Bool.true_and];exact(cI 0).2 fun j hj=>by simpa using h2 j hj
theorem cellsL_long {n:Int} {l:List Int} (h:¬ l.length≤1000):cH n l=false:=by unfold cH;rw[decide_eq_false h];rfl
theorem cellsL_bad {n:Int} {l:List Int} {j:Nat} (hj:j<l.length) (h:l.getD j 0<0∨n≤l.getD j 0):cH n l=false:=by
  unfold cH;rw[all_no 0 hj,Bool.and_false]
  rcases h with h | h
  · rw[decide_eq_false om];rfl
  · rw[decide_eq_false (show ¬ l.getD j 0<n by omega),Bool.and_false]
theorem cellsL_any {n:Int} {l:List Int} (h:(l.any fun c=> !(decide (0≤c)&&decide (c<n)))=true):cH n l=false:=by
  rw[dA] at h
  unfold cH
  cases hh:l.all (fun c=>decide (0≤c)&&decide (c<n)) with
  | true=>rw[hh] at h;cases h
  | false=>rw[Bool.and_false]
theorem cellsL_none {n:Int} {l:List Int} (h1:l.length≤1000) (h:(l.any fun c=> !(decide (0≤c)&&decide (c<n)))=false):cH n l=true:=by
  rw[dA] at h
  unfold cH;rw[decide_eq_true h1,Bool.true_and]
  simpa using h
theorem eF {α:Type} {q:α→Bool} {l:List α} (h:(l.any fun x=> !q x)=false):l.all q=true:=by rw[dA] at h;simpa using h
theorem any_true_all {α:Type} {q:α→Bool} {l:List α} (h:(l.any fun x=> !q x)=true):l.all q=false:=by rw[dA] at h;simpa using h
def markP (l:List Int) (n:Int) (k:Nat) (tk:List Bool):Prop:=(tk.length:Int)=n∧(l.take k).Nodup∧∀ c:Nat,(c:Int)<n→(tk.getD c false=true↔(c:Int) ∈ l.take k)
theorem mark_zero {l:List Int} {n:Int} (h:0≤n):markP l n 0 (List.replicate n.toNat false):=by
  refine⟨by rw[List.length_replicate];omega,by simp,fun c hc=>?_⟩
  have e:(List.replicate n.toNat false).getD c false=false:=by rw[List.getD_eq_getElem?_getD,List.getElem?_replicate];split<;>rfl
  rw[e];simp
theorem tk_snoc {l:List Int} {k:Nat} (hk:k<l.length):l.take (k+1)=l.take k++[l.getD k 0]:=by
  rw[List.take_add_one,List.getD_eq_getElem?_getD,List.getElem?_eq_getElem hk];rfl
theorem mark_step {l:List Int} {n:Int} {k:Nat} {tk:List Bool} (h:markP l n k tk) (hk:k<l.length) (hc:0≤l.getD k 0∧l.getD k 0<n) (hn:tk.getD (l.getD k 0).toNat false=false):markP l n (k+1) (tk.set (l.getD k 0).toNat true):=by
  obtain ⟨h1,h2,h3⟩:=h
  have hni:l.getD k 0 ∉ l.take k:=by
    intro hm
    have:=(h3 (l.getD k 0).toNat om).2 (by rw[Int.toNat_of_nonneg hc.1];exact hm)
    rw[hn] at this;cases this
  refine⟨by rw[List.length_set];exact h1,?_,fun c hcn=>?_⟩
  · rw[tk_snoc hk,List.nodup_append]
    refine⟨h2,by simp,fun a ha b hb=>?_⟩
    rw[List.mem_singleton] at hb
    intro e;subst e;subst hb;exact hni ha
  · rw[tk_snoc hk,List.mem_append,List.mem_singleton,List.getD_eq_getElem?_getD,List.getElem?_set]
    by_cases e:(l.getD k 0).toNat=c
    · rw[if_pos e,if_pos om]
      constructor
      · intro _;right;omega
      · intro _;rfl
    · rw[if_neg e,← List.getD_eq_getElem?_getD,h3 c hcn]
      constructor
      · intro h;exact .inl h
      · intro h
        rcases h with h | h
        · exact h
        · exact absurd om e
theorem mark_end {l:List Int} {n:Int} {tk:List Bool} {k:Nat} (h:markP l n k tk) (hk:l.length≤k):l.Nodup:=by
  have:=h.2.1
  rw[List.take_of_length_le hk] at this;exact this
theorem mark_twice {l:List Int} {n:Int} {k:Nat} {tk:List Bool} (h:markP l n k tk) (hk:k<l.length) (hc:0≤l.getD k 0∧l.getD k 0<n) (hn:tk.getD (l.getD k 0).toNat false=true):¬ l.Nodup:=by
  have hm:=(h.2.2 (l.getD k 0).toNat om).1 hn
  rw[Int.toNat_of_nonneg hc.1] at hm
  intro hnd
  have h2:(l.take (k+1)).Nodup:=List.Nodup.sublist (List.take_sublist _ _) hnd
  rw[tk_snoc hk,List.nodup_append] at h2
  exact h2.2.2 _ hm _ (List.mem_singleton.2 rfl) rfl
theorem getD_two {a b:List Int} {n:Int} {j:Nat} (ha:∀ j,j<a.length→0≤a.getD j 0∧a.getD j 0<n) (hb:∀ j,j<b.length→0≤b.getD j 0∧b.getD j 0<n) (hj:j<(a++b).length):0≤(a++b).getD j 0∧(a++b).getD j 0<n:=by
  rw[List.length_append] at hj
  rw[List.getD_eq_getElem?_getD]
  by_cases h:j<a.length
  · rw[List.getElem?_append_left h,← List.getD_eq_getElem?_getD];exact ha j h
  · rw[List.getElem?_append_right om,← List.getD_eq_getElem?_getD];exact hb _ om
def newN (p:Prg):Nat→List Int
  | 0=>List.replicate p.ap.toNat 0
  | k+1=>(newN p k).set (p.ao.getD k 0).toNat (p.bf.getD k 0)
theorem newN_len (p:Prg):∀ k,(newN p k).length=p.ap.toNat
  | 0=>by unfold newN;rw[List.length_replicate]
  | k+1=>by unfold newN;rw[List.length_set];exact newN_len p k
theorem code_at {p:Prg} (h:bX p=true) {j:Nat} (hj:j<p.aB.length):cN p (p.aB.getD j bq)=true:=(cI bq).1 (ci h).2.2.2.2.1 j hj
theorem fits_form {p:Prg} {i:Ins} (h:cN p i=true):formB i=true∧cm p i=true:=by unfold cN at h;rw[Bool.and_eq_true] at h;exact h

def newX (p:Prg):List Int:=if bX p then newN p p.ao.length else []
def newE (p:Prg):Int:=if bX p then 0 else 1
theorem newX_yes {p:Prg} (h:bX p=true):newX p=newN p p.ao.length∧newE p=0:=by unfold newX newE;rw[if_pos h,if_pos h];exact⟨rfl,rfl⟩
theorem newX_no {p:Prg} (h:bX p=false):newX p=[]∧newE p=1:=by unfold newX newE;rw[if_neg (by rw[h];decide),if_neg (by rw[h];decide)];exact⟨rfl,rfl⟩
theorem dD {p:Prg} {op k:Int}:tyOK p op k=true↔k/16384<(p.am:Int)∧(op=9∨op=10∨k/128%128<(p.am:Int))∧(op=13∨op=14∨k%128<(p.am:Int)):=by unfold tyOK;exact decide_eq_true_iff
theorem ty_no {p:Prg} {op k:Int} (h:tyOK p op k=false):tyA p op k=fx0∧tyB p op k=fx0∧tyC p op k=fx0:=by unfold tyA tyB tyC;rw[h];exact⟨rfl,rfl,rfl⟩
theorem ty_yes {p:Prg} {op k:Int} (h:tyOK p op k=true):tyA p op k=tyN p (k/16384)∧tyB p op k=(if op≠9∧op≠10 then tyN p (k/128%128) else fx0)∧tyC p op k=(if op≠13∧op≠14 then tyN p (k%128) else fx0):=by
  unfold tyA tyB tyC;rw[h]
  refine⟨rfl,?_,?_⟩
  · by_cases e:op≠9∧op≠10
    · rw[if_pos e,decide_eq_true e];rfl
    · rw[if_neg e,decide_eq_false e];rfl
  · by_cases e:op≠13∧op≠14
    · rw[if_pos e,decide_eq_true e];rfl
    · rw[if_neg e,decide_eq_false e];rfl
theorem tyN_q {w:World} {p:Prg} {k:Int} (h:∀ y ∈ p.av,cA w y):cA w (tyN p k):=by
  unfold tyN
  by_cases e:k.toNat<p.av.length
  · exact aP h _ e
  · rw[List.getD_eq_getElem?_getD,List.getElem?_eq_none om];exact⟨dE,dE,dE,dE,dE,dE,dE,dE,dE,trivial⟩
theorem fx0_q (w:World):cA w fx0:=⟨dE,dE,dE,dE,dE,dE,dE,dE,dE,trivial⟩
theorem ty_q {w:World} {p:Prg} {op k:Int} (h:∀ y ∈ p.av,cA w y):cA w (tyA p op k)∧cA w (tyB p op k)∧cA w (tyC p op k):=by
  unfold tyA tyB tyC
  refine⟨?_,?_,?_⟩<;>split<;>first | exact tyN_q h | exact fx0_q w

abbrev fuC (t:Fxd):List Value:=[iv t.ah,iv t.ae,iv t.ag,iv t.aj,iv t.ai]
abbrev fuA (t:Fxd):Array Value:=#[iv t.ah,iv t.ae,iv t.ag,iv t.aj,iv t.ai]
end Go.Proofs.YtaoolgcddapegaaGreat
namespace Go.Proofs.YtaoolgcddapegaaGreat
noncomputable section
open Go.Eng Go.RowKit Go.Proofs.Tryz
set_option maxRecDepth 20000
set_option maxHeartbeats 20000000
abbrev bo:List Value:=[iv 0,.bool false,iv 0,iv 0,iv 0,iv 0,iv 0,iv 0,iv 0,iv 0]
abbrev cP:Array Value:=#[iv 0,.bool false,iv 0,iv 0,iv 0,iv 0,iv 0,iv 0,iv 0,iv 0]
theorem hb93:af prog 93:=fun _ _=>by kernel_rfl
def K93_0:=List.drop 1 (adv 30 [] (bi Tryz.f93))
def K93_1:=List.drop 1 (adv 1 [] K93_0)
def K93_2:=List.drop 1 (adv 2 [] K93_1)
theorem types_any (p:Prg) (i:Ins) (w:World) (hp:prgQ w p) (hi:insQ w i) (hk:0≤i.gK∧i.gK<2097152):Ret prog 93 #[.agg (dq p),.agg (dP i)] w (fun v w'=>v=.tuple #[.agg (aI (tyA p i.gOp i.gK)),.agg (aI (tyB p i.gOp i.gK)),.agg (aI (tyC p i.gOp i.gK)),.bool (tyOK p i.gOp i.gK)]∧Sep w [] w'):=by
 refine Ret.st (N:=86) func93 fun R hR S0=>?_
 obtain ⟨q1,q2,q3,q4,q5,q6,q7,q8,q9,q10,q11,q12,q13,q14,q15,q16,q17,q18,q19,q20,q21,q22,q23,q24,q25,_⟩:=id hp
 have ql1:=q2.len_eq
 have ql2:=q5.len_eq
 have ql3:=q8.len_eq
 have ql4:=q11.len_eq
 have ql5:=q15.len_eq
 have ql6:=q18.len_eq
 have ql7:=q21.len_eq
 have ql8:=q24.len_eq
 obtain ⟨q26,q27,q28,q29,q30,_⟩:=id hi
 refine J.nw 2 [] [] [] S0 2 (aO p) 28 fun b1 w1 S1=>J.nw 0 [] [] [] S1 3 (aZ i) 64 fun b2 w2 S2=>J.nw 0 [] [] [] S2 4 bo 54 fun b3 w3 S3=>J.nw 0 [] [] [] S3 5 bo 54 fun b4 w4 S4=>J.nw 0 [] [] [] S4 6 bo 54 fun b5 w5 S5=>J.lb 5 [] [] [] S5 3 rfl 16 (iv i.gK)<|J.c0 0 [] [] [] S5 17 hb127 (split3_any i.gK _ om) fun w6 S6=>J.lb 11 [] [(10,iv (i.gK%128)),(9,iv (i.gK/128%128)),(8,iv (i.gK/16384))] [] S6 4 rfl 22 (.slice p.aJ p.am p.bj) ?_
 have X1:∀ (ton:Bool) (w7:World),((ton=true→i.gOp=9∨i.gOp=10)∧(ton=false→¬ (i.gOp=9∨i.gOp=10)))→Sep w [box b5 bo 54,box b4 bo 54,box b3 bo 54,box b2 (aZ i) 64,box b1 (aO p) 28] w7→J prog 93 86 R K93_0 [(11,iv (p.am:Int)),(10,iv (i.gK%128)),(9,iv (i.gK/128%128)),(8,iv (i.gK/16384)),(6,pv b5),(5,pv b4),(4,pv b3),(3,pv b2),(2,pv b1),(12,.bool ton)] w7:=by
  intro ton w7 hton S7
  have X2:∀ (tst:Bool) (w8:World),((tst=true→i.gOp=13∨i.gOp=14)∧(tst=false→¬ (i.gOp=13∨i.gOp=14)))→Sep w [box b5 bo 54,box b4 bo 54,box b3 bo 54,box b2 (aZ i) 64,box b1 (aO p) 28] w8→J prog 93 86 R K93_1 [(11,iv (p.am:Int)),(10,iv (i.gK%128)),(9,iv (i.gK/128%128)),(8,iv (i.gK/16384)),(6,pv b5),(5,pv b4),(4,pv b3),(2,pv b1),(12,.bool ton),(13,.bool tst)] w8:=by
   intro tst w8 htst S8
   have X3:∀ (tb:Bool) (w9:World),((tb=true→¬ (i.gK/16384<(p.am:Int)∧(i.gOp=9∨i.gOp=10∨i.gK/128%128<(p.am:Int))∧(i.gOp=13∨i.gOp=14∨i.gK%128<(p.am:Int))))∧(tb=false→i.gK/16384<(p.am:Int)∧(i.gOp=9∨i.gOp=10∨i.gK/128%128<(p.am:Int))∧(i.gOp=13∨i.gOp=14∨i.gK%128<(p.am:Int))))→Sep w [box b5 bo 54,box b4 bo 54,box b3 bo 54,box b2 (aZ i) 64,box b1 (aO p) 28] w9→J prog 93 86 R K93_2 [(10,iv (i.gK%128)),(9,iv (i.gK/128%128)),(8,iv (i.gK/16384)),(6,pv b5),(5,pv b4),(4,pv b3),(2,pv b1),(12,.bool ton),(13,.bool tst),(60,.bool tb)] w9:=by
    intro tb w9 htb S9
    refine J.b 0 [] [] [] 60 tb (fun fk1=>?_) fun fk1=>?_
    have fb1:=htb.1 fk1
    refine J.r 2 [true] [] []<|J.drawPlan (fun w_=>Sep w [box b5 bo 54,box b4 bo 54,box b3 bo 54,box b2 (aZ i) 64,box b1 (aO p) 28] w_) [(0,true),(1,true),(2,true),(3,false),(4,false),(5,false),(6,true)] S9 Tryz.mixed kr (aE (T:=[(0,some 61,16),(0,some 62,32),(0,some 63,64),(1,none,2305843009213693968),(11,none,4611686018427387936),(31,none,9223372036854775872),(63,some 7,0)]) kr kr) ?_
    intro w10 S10
    refine PB.mk S10<|PL.takeOK 0 (fun w_ S_=>OK.ldBox S_ 2 61 54 0 (.agg cP) kr rfl kr) rfl<|PL.takeOK 1 (fun w_ S_=>OK.ldBox S_ 1 62 54 0 (.agg cP) kr rfl kr) rfl<|PL.takeOK 2 (fun w_ S_=>OK.ldBox S_ 0 63 54 0 (.agg cP) kr rfl kr) rfl<|PL.stBox S10 2 54 0 (.agg cP) bo [box b5 bo 54,box b4 bo 54,box b3 bo 54,box b2 (aZ i) 64,box b1 (aO p) 28] kr rfl kr kr rfl ?_
    intro w11 S11
    refine PB.mk S11<|PL.stBox S11 1 54 0 (.agg cP) bo [box b5 bo 54,box b4 bo 54,box b3 bo 54,box b2 (aZ i) 64,box b1 (aO p) 28] kr rfl kr kr rfl ?_
    intro w12 S12
    refine PB.mk S12<|PL.stBox S12 0 54 0 (.agg cP) bo [box b5 bo 54,box b4 bo 54,box b3 bo 54,box b2 (aZ i) 64,box b1 (aO p) 28] kr rfl kr kr rfl ?_
    intro w13 S13
    refine PB.mk S13<|PL.take 6 7 (.bool false) (fun _ _=>kr)<|PL.done<|J.ret Tryz.f93 [.agg cP,.agg cP,.agg cP,.bool false] func93 ⟨⟨⟨b3,0,none⟩,kr,aS (S13.nth 2 rfl) kr⟩,⟨⟨b4,0,none⟩,kr,aS (S13.nth 1 rfl) kr⟩,⟨⟨b5,0,none⟩,kr,aS (S13.nth 0 rfl) kr⟩,kr,trivial⟩<|hR _ _ ?_
    have e0:tyOK p i.gOp i.gK=false:=decide_eq_false om
    obtain ⟨e1,e2,e3⟩:=ty_no e0
    exact⟨by rw[e1,e2,e3,e0];rfl,S13.nil⟩
    have fb2:=htb.2 fk1
    refine J.lb 5 [false] [] [] S9 4 rfl 65 (.slice p.aJ p.am p.bj)<|J.r 1 [] [(66,iv (i.gK/16384))] [] ?_
    obtain ⟨p1,hp1,hc1⟩:=q5.at fx0 (i.gK/16384).toNat om
    have hel1:=aP q6 fx0 (n:=(i.gK/16384).toNat) (by have:=q5.len_eq;omega)
    obtain ⟨q31,q32,q33,q34,q35,q36,q37,q38,q39,_⟩:=id hel1
    refine J.ok (OK.index 67 23 10 p.aJ p1 p.am (i.gK/16384).toNat (i.gK/16384) (p1.add ((i.gK/16384).toNat*10)) kr kr hp1 om om rfl)<|J.ok (OK.ldCells 68 54 (p1.add ((i.gK/16384).toNat*10)) (aN (p.av.getD (i.gK/16384).toNat fx0)) kr kr kr (fun j_ v_ hj_=>S9.cell (hc1 j_ v_ hj_)))<|J.sb 0 [] [] [] S9 2 rfl (aN (p.av.getD (i.gK/16384).toNat fx0)) rfl fun w14 S14=>J.bn 7 [] [] [] 70 ton (fun fk2=>?_) fun fk2=>?_
    have fb3:=hton.1 fk2
    refine J.bn 8 [false] [] [] 77 tst (fun fk3=>?_) fun fk3=>?_
    have fb4:=htst.1 fk3
    refine J.r 3 [false] [] []<|J.drawPlan (fun w_=>Sep w [box b5 bo 54,box b4 bo 54,box b3 (aN (p.av.getD (i.gK/16384).toNat fx0)) 54,box b2 (aZ i) 64,box b1 (aO p) 28] w_) [(0,true),(1,true),(2,true),(3,false),(4,false),(5,false),(6,true)] S14 Tryz.mixed kr (aE (T:=[(0,some 83,16),(0,some 84,32),(0,some 85,64),(1,none,9671406556917033397649424),(11,none,19342813113834066795298848),(31,none,38685626227668133590597696),(63,some 7,0)]) kr kr) ?_
    intro w15 S15
    refine PB.mk S15<|PL.takeOK 0 (fun w_ S_=>OK.ldBox S_ 2 83 54 0 (.agg (aI (p.av.getD (i.gK/16384).toNat fx0))) kr rfl kr) rfl<|PL.takeOK 1 (fun w_ S_=>OK.ldBox S_ 1 84 54 0 (.agg cP) kr rfl kr) rfl<|PL.takeOK 2 (fun w_ S_=>OK.ldBox S_ 0 85 54 0 (.agg cP) kr rfl kr) rfl<|PL.stBox S15 2 54 0 (.agg (aI (p.av.getD (i.gK/16384).toNat fx0))) (aN (p.av.getD (i.gK/16384).toNat fx0)) [box b5 bo 54,box b4 bo 54,box b3 (aN (p.av.getD (i.gK/16384).toNat fx0)) 54,box b2 (aZ i) 64,box b1 (aO p) 28] kr rfl kr kr rfl ?_
    intro w16 S16
    refine PB.mk S16<|PL.stBox S16 1 54 0 (.agg cP) bo [box b5 bo 54,box b4 bo 54,box b3 (aN (p.av.getD (i.gK/16384).toNat fx0)) 54,box b2 (aZ i) 64,box b1 (aO p) 28] kr rfl kr kr rfl ?_
    intro w17 S17
    refine PB.mk S17<|PL.stBox S17 0 54 0 (.agg cP) bo [box b5 bo 54,box b4 bo 54,box b3 (aN (p.av.getD (i.gK/16384).toNat fx0)) 54,box b2 (aZ i) 64,box b1 (aO p) 28] kr rfl kr kr rfl ?_
    intro w18 S18
    refine PB.mk S18<|PL.take 6 7 (.bool true) (fun _ _=>kr)<|PL.done<|J.ret Tryz.f93 [.agg (aI (p.av.getD (i.gK/16384).toNat fx0)),.agg cP,.agg cP,.bool true] func93 ⟨⟨⟨b3,0,none⟩,kr,aS (S18.nth 2 rfl) kr⟩,⟨⟨b4,0,none⟩,kr,aS (S18.nth 1 rfl) kr⟩,⟨⟨b5,0,none⟩,kr,aS (S18.nth 0 rfl) kr⟩,kr,trivial⟩<|hR _ _ ?_
    obtain ⟨e1,e2,e3⟩:=ty_yes (p:=p) (op:=i.gOp) (k:=i.gK) ((dD (p:=p) (op:=i.gOp) (k:=i.gK)).2 om)
    rw[if_neg om] at e2
    rw[if_neg om] at e3
    exact⟨by rw[e1,e2,e3,(dD (p:=p) (op:=i.gOp) (k:=i.gK)).2 om];rfl,S18.nil⟩
    have fb5:=htst.2 fk3
    refine J.lb 3 [true] [] [] S14 4 rfl 79 (.slice p.aJ p.am p.bj)<|J.r 1 [] [(80,iv (i.gK%128))] [] ?_
    obtain ⟨p2,hp2,hc2⟩:=q5.at fx0 (i.gK%128).toNat om
    have hel2:=aP q6 fx0 (n:=(i.gK%128).toNat) (by have:=q5.len_eq;omega)
    obtain ⟨q40,q41,q42,q43,q44,q45,q46,q47,q48,_⟩:=id hel2
    refine J.ok (OK.index 81 23 10 p.aJ p2 p.am (i.gK%128).toNat (i.gK%128) (p2.add ((i.gK%128).toNat*10)) kr kr hp2 om om rfl)<|J.ok (OK.ldCells 82 54 (p2.add ((i.gK%128).toNat*10)) (aN (p.av.getD (i.gK%128).toNat fx0)) kr kr kr (fun j_ v_ hj_=>S14.cell (hc2 j_ v_ hj_)))<|J.sb 0 [] [] [] S14 0 rfl (aN (p.av.getD (i.gK%128).toNat fx0)) rfl fun w19 S19=>J.r 2 [] [] []<|J.drawPlan (fun w_=>Sep w [box b5 (aN (p.av.getD (i.gK%128).toNat fx0)) 54,box b4 bo 54,box b3 (aN (p.av.getD (i.gK/16384).toNat fx0)) 54,box b2 (aZ i) 64,box b1 (aO p) 28] w_) [(0,true),(1,true),(2,true),(3,false),(4,false),(5,false),(6,true)] S19 Tryz.mixed kr (aE (T:=[(0,some 83,16),(0,some 84,32),(0,some 85,64),(1,none,9671406556917033397649424),(11,none,19342813113834066795298848),(31,none,38685626227668133590597696),(63,some 7,0)]) kr kr) ?_
    intro w20 S20
    refine PB.mk S20<|PL.takeOK 0 (fun w_ S_=>OK.ldBox S_ 2 83 54 0 (.agg (aI (p.av.getD (i.gK/16384).toNat fx0))) kr rfl kr) rfl<|PL.takeOK 1 (fun w_ S_=>OK.ldBox S_ 1 84 54 0 (.agg cP) kr rfl kr) rfl<|PL.takeOK 2 (fun w_ S_=>OK.ldBox S_ 0 85 54 0 (.agg (aI (p.av.getD (i.gK%128).toNat fx0))) kr rfl kr) rfl<|PL.stBox S20 2 54 0 (.agg (aI (p.av.getD (i.gK/16384).toNat fx0))) (aN (p.av.getD (i.gK/16384).toNat fx0)) [box b5 (aN (p.av.getD (i.gK%128).toNat fx0)) 54,box b4 bo 54,box b3 (aN (p.av.getD (i.gK/16384).toNat fx0)) 54,box b2 (aZ i) 64,box b1 (aO p) 28] kr rfl kr kr rfl ?_
    intro w21 S21
    refine PB.mk S21<|PL.stBox S21 1 54 0 (.agg cP) bo [box b5 (aN (p.av.getD (i.gK%128).toNat fx0)) 54,box b4 bo 54,box b3 (aN (p.av.getD (i.gK/16384).toNat fx0)) 54,box b2 (aZ i) 64,box b1 (aO p) 28] kr rfl kr kr rfl ?_
    intro w22 S22
    refine PB.mk S22<|PL.stBox S22 0 54 0 (.agg (aI (p.av.getD (i.gK%128).toNat fx0))) (aN (p.av.getD (i.gK%128).toNat fx0)) [box b5 (aN (p.av.getD (i.gK%128).toNat fx0)) 54,box b4 bo 54,box b3 (aN (p.av.getD (i.gK/16384).toNat fx0)) 54,box b2 (aZ i) 64,box b1 (aO p) 28] kr rfl kr kr rfl ?_
    intro w23 S23
    refine PB.mk S23<|PL.take 6 7 (.bool true) (fun _ _=>kr)<|PL.done<|J.ret Tryz.f93 [.agg (aI (p.av.getD (i.gK/16384).toNat fx0)),.agg cP,.agg (aI (p.av.getD (i.gK%128).toNat fx0)),.bool true] func93 ⟨⟨⟨b3,0,none⟩,kr,aS (S23.nth 2 rfl) kr⟩,⟨⟨b4,0,none⟩,kr,aS (S23.nth 1 rfl) kr⟩,⟨⟨b5,0,none⟩,kr,aS (S23.nth 0 rfl) kr⟩,kr,trivial⟩<|hR _ _ ?_
    obtain ⟨e1,e2,e3⟩:=ty_yes (p:=p) (op:=i.gOp) (k:=i.gK) ((dD (p:=p) (op:=i.gOp) (k:=i.gK)).2 om)
    rw[if_neg om] at e2
    rw[if_pos om] at e3
    exact⟨by rw[e1,e2,e3,(dD (p:=p) (op:=i.gOp) (k:=i.gK)).2 om];rfl,S23.nil⟩
    have fb6:=hton.2 fk2
    refine J.lb 3 [true] [] [] S14 4 rfl 72 (.slice p.aJ p.am p.bj)<|J.r 1 [] [(73,iv (i.gK/128%128))] [] ?_
    obtain ⟨p3,hp3,hc3⟩:=q5.at fx0 (i.gK/128%128).toNat om
    have hel3:=aP q6 fx0 (n:=(i.gK/128%128).toNat) (by have:=q5.len_eq;omega)
    obtain ⟨q49,q50,q51,q52,q53,q54,q55,q56,q57,_⟩:=id hel3
    refine J.ok (OK.index 74 23 10 p.aJ p3 p.am (i.gK/128%128).toNat (i.gK/128%128) (p3.add ((i.gK/128%128).toNat*10)) kr kr hp3 om om rfl)<|J.ok (OK.ldCells 75 54 (p3.add ((i.gK/128%128).toNat*10)) (aN (p.av.getD (i.gK/128%128).toNat fx0)) kr kr kr (fun j_ v_ hj_=>S14.cell (hc3 j_ v_ hj_)))<|J.sb 0 [] [] [] S14 1 rfl (aN (p.av.getD (i.gK/128%128).toNat fx0)) rfl fun w24 S24=>J.bn 7 [] [] [] 77 tst (fun fk4=>?_) fun fk4=>?_
    have fb7:=htst.1 fk4
    refine J.r 3 [false] [] []<|J.drawPlan (fun w_=>Sep w [box b5 bo 54,box b4 (aN (p.av.getD (i.gK/128%128).toNat fx0)) 54,box b3 (aN (p.av.getD (i.gK/16384).toNat fx0)) 54,box b2 (aZ i) 64,box b1 (aO p) 28] w_) [(0,true),(1,true),(2,true),(3,false),(4,false),(5,false),(6,true)] S24 Tryz.mixed kr (aE (T:=[(0,some 83,16),(0,some 84,32),(0,some 85,64),(1,none,9671406556917033397649424),(11,none,19342813113834066795298848),(31,none,38685626227668133590597696),(63,some 7,0)]) kr kr) ?_
    intro w25 S25
    refine PB.mk S25<|PL.takeOK 0 (fun w_ S_=>OK.ldBox S_ 2 83 54 0 (.agg (aI (p.av.getD (i.gK/16384).toNat fx0))) kr rfl kr) rfl<|PL.takeOK 1 (fun w_ S_=>OK.ldBox S_ 1 84 54 0 (.agg (aI (p.av.getD (i.gK/128%128).toNat fx0))) kr rfl kr) rfl<|PL.takeOK 2 (fun w_ S_=>OK.ldBox S_ 0 85 54 0 (.agg cP) kr rfl kr) rfl<|PL.stBox S25 2 54 0 (.agg (aI (p.av.getD (i.gK/16384).toNat fx0))) (aN (p.av.getD (i.gK/16384).toNat fx0)) [box b5 bo 54,box b4 (aN (p.av.getD (i.gK/128%128).toNat fx0)) 54,box b3 (aN (p.av.getD (i.gK/16384).toNat fx0)) 54,box b2 (aZ i) 64,box b1 (aO p) 28] kr rfl kr kr rfl ?_
    intro w26 S26
    refine PB.mk S26<|PL.stBox S26 1 54 0 (.agg (aI (p.av.getD (i.gK/128%128).toNat fx0))) (aN (p.av.getD (i.gK/128%128).toNat fx0)) [box b5 bo 54,box b4 (aN (p.av.getD (i.gK/128%128).toNat fx0)) 54,box b3 (aN (p.av.getD (i.gK/16384).toNat fx0)) 54,box b2 (aZ i) 64,box b1 (aO p) 28] kr rfl kr kr rfl ?_
    intro w27 S27
    refine PB.mk S27<|PL.stBox S27 0 54 0 (.agg cP) bo [box b5 bo 54,box b4 (aN (p.av.getD (i.gK/128%128).toNat fx0)) 54,box b3 (aN (p.av.getD (i.gK/16384).toNat fx0)) 54,box b2 (aZ i) 64,box b1 (aO p) 28] kr rfl kr kr rfl ?_
    intro w28 S28
    refine PB.mk S28<|PL.take 6 7 (.bool true) (fun _ _=>kr)<|PL.done<|J.ret Tryz.f93 [.agg (aI (p.av.getD (i.gK/16384).toNat fx0)),.agg (aI (p.av.getD (i.gK/128%128).toNat fx0)),.agg cP,.bool true] func93 ⟨⟨⟨b3,0,none⟩,kr,aS (S28.nth 2 rfl) kr⟩,⟨⟨b4,0,none⟩,kr,aS (S28.nth 1 rfl) kr⟩,⟨⟨b5,0,none⟩,kr,aS (S28.nth 0 rfl) kr⟩,kr,trivial⟩<|hR _ _ ?_
    obtain ⟨e1,e2,e3⟩:=ty_yes (p:=p) (op:=i.gOp) (k:=i.gK) ((dD (p:=p) (op:=i.gOp) (k:=i.gK)).2 om)
    rw[if_pos om] at e2
    rw[if_neg om] at e3
    exact⟨by rw[e1,e2,e3,(dD (p:=p) (op:=i.gOp) (k:=i.gK)).2 om];rfl,S28.nil⟩
    have fb8:=htst.2 fk4
    refine J.lb 3 [true] [] [] S24 4 rfl 79 (.slice p.aJ p.am p.bj)<|J.r 1 [] [(80,iv (i.gK%128))] [] ?_
    obtain ⟨p4,hp4,hc4⟩:=q5.at fx0 (i.gK%128).toNat om
    have hel4:=aP q6 fx0 (n:=(i.gK%128).toNat) (by have:=q5.len_eq;omega)
    obtain ⟨q58,q59,q60,q61,q62,q63,q64,q65,q66,_⟩:=id hel4
    refine J.ok (OK.index 81 23 10 p.aJ p4 p.am (i.gK%128).toNat (i.gK%128) (p4.add ((i.gK%128).toNat*10)) kr kr hp4 om om rfl)<|J.ok (OK.ldCells 82 54 (p4.add ((i.gK%128).toNat*10)) (aN (p.av.getD (i.gK%128).toNat fx0)) kr kr kr (fun j_ v_ hj_=>S24.cell (hc4 j_ v_ hj_)))<|J.sb 0 [] [] [] S24 0 rfl (aN (p.av.getD (i.gK%128).toNat fx0)) rfl fun w29 S29=>J.r 2 [] [] []<|J.drawPlan (fun w_=>Sep w [box b5 (aN (p.av.getD (i.gK%128).toNat fx0)) 54,box b4 (aN (p.av.getD (i.gK/128%128).toNat fx0)) 54,box b3 (aN (p.av.getD (i.gK/16384).toNat fx0)) 54,box b2 (aZ i) 64,box b1 (aO p) 28] w_) [(0,true),(1,true),(2,true),(3,false),(4,false),(5,false),(6,true)] S29 Tryz.mixed kr (aE (T:=[(0,some 83,16),(0,some 84,32),(0,some 85,64),(1,none,9671406556917033397649424),(11,none,19342813113834066795298848),(31,none,38685626227668133590597696),(63,some 7,0)]) kr kr) ?_
    intro w30 S30
    refine PB.mk S30<|PL.takeOK 0 (fun w_ S_=>OK.ldBox S_ 2 83 54 0 (.agg (aI (p.av.getD (i.gK/16384).toNat fx0))) kr rfl kr) rfl<|PL.takeOK 1 (fun w_ S_=>OK.ldBox S_ 1 84 54 0 (.agg (aI (p.av.getD (i.gK/128%128).toNat fx0))) kr rfl kr) rfl<|PL.takeOK 2 (fun w_ S_=>OK.ldBox S_ 0 85 54 0 (.agg (aI (p.av.getD (i.gK%128).toNat fx0))) kr rfl kr) rfl<|PL.stBox S30 2 54 0 (.agg (aI (p.av.getD (i.gK/16384).toNat fx0))) (aN (p.av.getD (i.gK/16384).toNat fx0)) [box b5 (aN (p.av.getD (i.gK%128).toNat fx0)) 54,box b4 (aN (p.av.getD (i.gK/128%128).toNat fx0)) 54,box b3 (aN (p.av.getD (i.gK/16384).toNat fx0)) 54,box b2 (aZ i) 64,box b1 (aO p) 28] kr rfl kr kr rfl ?_
    intro w31 S31
    refine PB.mk S31<|PL.stBox S31 1 54 0 (.agg (aI (p.av.getD (i.gK/128%128).toNat fx0))) (aN (p.av.getD (i.gK/128%128).toNat fx0)) [box b5 (aN (p.av.getD (i.gK%128).toNat fx0)) 54,box b4 (aN (p.av.getD (i.gK/128%128).toNat fx0)) 54,box b3 (aN (p.av.getD (i.gK/16384).toNat fx0)) 54,box b2 (aZ i) 64,box b1 (aO p) 28] kr rfl kr kr rfl ?_
    intro w32 S32
    refine PB.mk S32<|PL.stBox S32 0 54 0 (.agg (aI (p.av.getD (i.gK%128).toNat fx0))) (aN (p.av.getD (i.gK%128).toNat fx0)) [box b5 (aN (p.av.getD (i.gK%128).toNat fx0)) 54,box b4 (aN (p.av.getD (i.gK/128%128).toNat fx0)) 54,box b3 (aN (p.av.getD (i.gK/16384).toNat fx0)) 54,box b2 (aZ i) 64,box b1 (aO p) 28] kr rfl kr kr rfl ?_
    intro w33 S33
    refine PB.mk S33<|PL.take 6 7 (.bool true) (fun _ _=>kr)<|PL.done<|J.ret Tryz.f93 [.agg (aI (p.av.getD (i.gK/16384).toNat fx0)),.agg (aI (p.av.getD (i.gK/128%128).toNat fx0)),.agg (aI (p.av.getD (i.gK%128).toNat fx0)),.bool true] func93 ⟨⟨⟨b3,0,none⟩,kr,aS (S33.nth 2 rfl) kr⟩,⟨⟨b4,0,none⟩,kr,aS (S33.nth 1 rfl) kr⟩,⟨⟨b5,0,none⟩,kr,aS (S33.nth 0 rfl) kr⟩,kr,trivial⟩<|hR _ _ ?_
    obtain ⟨e1,e2,e3⟩:=ty_yes (p:=p) (op:=i.gOp) (k:=i.gK) ((dD (p:=p) (op:=i.gOp) (k:=i.gK)).2 om)
    rw[if_pos om] at e2
    rw[if_pos om] at e3
    exact⟨by rw[e1,e2,e3,(dD (p:=p) (op:=i.gOp) (k:=i.gK)).2 om];rfl,S33.nil⟩
   refine J.c 7 [] [] [] 43 ((i.gK/16384)≥(p.am:Int)) (fun fk5=>?_) fun fk5=>?_
   exact J.t 18 (X3 true w8 (⟨fun h_=>by first | (cases h_;done) | (have h2_:=of_decide_eq_true h_;omega) | omega,fun h_=>by first | (cases h_;done) | (have h2_:=of_decide_eq_false h_;omega) | omega⟩) S8)
   refine J.bn 3 [] [] [] 46 ton (fun fk6=>?_) fun fk6=>?_
   have fb9:=hton.1 fk6
   refine J.bn 9 [] [(52,.bool false)] [] 55 tst (fun fk7=>?_) fun fk7=>?_
   have fb10:=htst.1 fk7
   exact J.t 6 (X3 false w8 (⟨fun h_=>by first | (cases h_;done) | (have h2_:=of_decide_eq_true h_;omega) | omega,fun h_=>by first | (cases h_;done) | (have h2_:=of_decide_eq_false h_;omega) | omega⟩) S8)
   have fb11:=htst.2 fk7
   exact J.t 6 (X3 (decide ((i.gK%128)≥(p.am:Int))) w8 (⟨fun h_=>by first | (cases h_;done) | (have h2_:=of_decide_eq_true h_;omega) | omega,fun h_=>by first | (cases h_;done) | (have h2_:=of_decide_eq_false h_;omega) | omega⟩) S8)
   have fb12:=hton.2 fk6
   refine J.c 6 [] [] [] 52 ((i.gK/128%128)≥(p.am:Int)) (fun fk8=>?_) fun fk8=>?_
   exact J.t 9 (X3 true w8 (⟨fun h_=>by first | (cases h_;done) | (have h2_:=of_decide_eq_true h_;omega) | omega,fun h_=>by first | (cases h_;done) | (have h2_:=of_decide_eq_false h_;omega) | omega⟩) S8)
   refine J.bn 3 [] [] [] 55 tst (fun fk9=>?_) fun fk9=>?_
   have fb13:=htst.1 fk9
   exact J.t 6 (X3 false w8 (⟨fun h_=>by first | (cases h_;done) | (have h2_:=of_decide_eq_true h_;omega) | omega,fun h_=>by first | (cases h_;done) | (have h2_:=of_decide_eq_false h_;omega) | omega⟩) S8)
   have fb14:=htst.2 fk9
   exact J.t 6 (X3 (decide ((i.gK%128)≥(p.am:Int))) w8 (⟨fun h_=>by first | (cases h_;done) | (have h2_:=of_decide_eq_true h_;omega) | omega,fun h_=>by first | (cases h_;done) | (have h2_:=of_decide_eq_false h_;omega) | omega⟩) S8)
  refine J.lb 3 [] [] [] S7 3 rfl 33 (iv i.gOp)<|J.c 2 [] [] [] 35 (i.gOp=13) (fun fk10=>?_) fun fk10=>?_
  exact J.t 6 (X2 true w7 (⟨fun h_=>by first | (cases h_;done) | (have h2_:=beq_iff_eq.1 h_;omega) | omega,fun h_=>by first | (cases h_;done) | (have h2_:=beq_eq_false_iff_ne.1 h_;omega) | omega⟩) S7)
  exact J.lb 1 [] [] [] S7 3 rfl 37 (iv i.gOp)<|J.t 4 (X2 (i.gOp==14) w7 (⟨fun h_=>by first | (cases h_;done) | (have h2_:=beq_iff_eq.1 h_;omega) | omega,fun h_=>by first | (cases h_;done) | (have h2_:=beq_eq_false_iff_ne.1 h_;omega) | omega⟩) S7)
 refine J.lb 6 [] [(11,iv (p.am:Int))] [] S6 3 rfl 25 (iv i.gOp)<|J.c 2 [] [] [] 27 (i.gOp=9) (fun fk11=>?_) fun fk11=>?_
 exact J.t 6 (X1 true w6 (⟨fun h_=>by first | (cases h_;done) | (have h2_:=beq_iff_eq.1 h_;omega) | omega,fun h_=>by first | (cases h_;done) | (have h2_:=beq_eq_false_iff_ne.1 h_;omega) | omega⟩) S6)
 exact J.lb 1 [] [] [] S6 3 rfl 29 (iv i.gOp)<|J.t 4 (X1 (i.gOp==10) w6 (⟨fun h_=>by first | (cases h_;done) | (have h2_:=beq_iff_eq.1 h_;omega) | omega,fun h_=>by first | (cases h_;done) | (have h2_:=beq_eq_false_iff_ne.1 h_;omega) | omega⟩) S6)
end
end Go.Proofs.YtaoolgcddapegaaGreat
