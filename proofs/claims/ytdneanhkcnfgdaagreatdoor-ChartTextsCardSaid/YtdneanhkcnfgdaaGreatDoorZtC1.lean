/- Walks of functions of this seat, printed by a program over the engine. Conditions: as each theorem says. -/
import Derived.Test.YtdneanhkcnfgdaaGreatDoorProg
import Derived.Test.YtdneanhkcnfgdaaGreatDoorZtEng9
set_option linter.unusedSimpArgs false
set_option linter.unusedVariables false
namespace Go.Proofs.YtdneanhkcnfgdaaGreatDoor
noncomputable section
open Go.Eng Go.RowKit Go.Proofs.Tryz
theorem Tryz.mixed:prog.follows .mixedOrders=true:=by kernel_rfl

def aL (c:Int):Bool:=(decide (65≤c)&&decide (c≤90))||(decide (97≤c)&&decide (c≤122))
def aH (c:Int):Bool:=decide (48≤c)&&decide (c≤57)
def aG (c:Int):Bool:=aL c||aH c||c==95
def eqT (a b:ByteArray):Bool:=a.toList==b.toList
theorem eqT_comm (a b:ByteArray):eqT a b=eqT b a:=by unfold eqT;rw[Bool.eq_iff_iff,beq_iff_eq,beq_iff_eq];exact eq_comm
def bZ:List ByteArray:=[⟨#[115,116,97,116,101,115]⟩,⟨#[105,110,112,117,116,115]⟩,⟨#[115,116,97,114,116]⟩,⟨#[116,111]⟩,⟨#[105,102]⟩,⟨#[110,111,116]⟩,⟨#[97,102,116,101,114]⟩]
def keyB (s:ByteArray):Bool:=bZ.any fun k=>eqT s k
def aV (s:ByteArray):Bool:=decide (1≤s.size)&&decide (s.size≤24)&&aL (aA s 0)&&((List.range s.size).all fun j=>aG (aA s j))&& !keyB s
theorem all_range_false {n j:Nat} {p:Nat→Bool} (h:j<n) (hp:p j=false):(List.range n).all p=false:=by
  rw[List.all_eq_false];exact⟨j,by simpa using h,by simp[hp]⟩
theorem all_range_true {n:Nat} {p:Nat→Bool} (h:∀ j,j<n→p j=true):(List.range n).all p=true:=by
  rw[List.all_eq_true];intro j hj;exact h j (by simpa using hj)
theorem bC {s:ByteArray} (h:s.size<1∨24<s.size∨aL (aA s 0)=false∨keyB s=true):aV s=false:=by
  unfold aV
  rcases h with h | h | h | h
  · rw[decide_eq_false (show ¬ 1≤s.size by omega)];rfl
  · rw[decide_eq_false (show ¬ s.size≤24 by omega)];simp
  · rw[h];simp
  · rw[h];simp
theorem name_bad {s:ByteArray} {i:Int} (h0:0≤i) (h:i<(s.size:Int)) (hp:aG (aA s i.toNat)=false):aV s=false:=by
  unfold aV;rw[all_range_false (j:=i.toNat) om hp];simp
theorem name_yes {s:ByteArray} (h1:1≤s.size) (h2:s.size≤24) (h3:aL (aA s 0)=true) (h4:∀ j,j<s.size→aG (aA s j)=true) (h5:keyB s=false):aV s=true:=by
  unfold aV;rw[decide_eq_true h1,decide_eq_true h2,h3,all_range_true h4,h5];rfl
theorem name_step {s:ByteArray} {i:Int} (hq:∀ j,j<i.toNat→aG (aA s j)=true) (h0:0≤i) (hp:aG (aA s i.toNat)=true):∀ j,j<(i+1).toNat→aG (aA s j)=true:=by
  intro j hj
  by_cases e:j=i.toNat
  · subst e;exact hp
  · exact hq j om

structure Mv where
  aC:Int
  gTo:Int
  gOn:Int
  aN:Int
  ax:Int
def mvE (x:Mv):List Value:=[.int .i64 x.aC,.int .i64 x.gTo,.int .i64 x.gOn,.int .i64 x.aN,.int .i64 x.ax]
def mvQ (w:World) (x:Mv):Prop:=((-9223372036854775808)≤x.aC∧x.aC≤9223372036854775807)∧((-9223372036854775808)≤x.gTo∧x.gTo≤9223372036854775807)∧((-9223372036854775808)≤x.gOn∧x.gOn≤9223372036854775807)∧((-9223372036854775808)≤x.aN∧x.aN≤9223372036854775807)∧((-9223372036854775808)≤x.ax∧x.ax≤9223372036854775807)∧True
theorem mvQ_sep {w0 w:World} {L:List Eng.Claim} {x:Mv} (h:mvQ w0 x) (S:Sep w0 L w):mvQ w x:=by
  obtain ⟨hgFrom,hgTo,hgOn,hgOff,hgAfter,_⟩:=h
  exact⟨hgFrom,hgTo,hgOn,hgOff,hgAfter,trivial⟩
structure Cht where
  al:Option Addr
  aj:Nat
  ao:Nat
  aB:List ByteArray
  ak:Option Addr
  af:Nat
  am:Nat
  ay:List ByteArray
  av:Int
  aq:Option Addr
  ai:Nat
  au:Nat
  ab:List Mv
def chtQ (w:World) (x:Cht):Prop:=(x.aj≤x.ao∧x.ao≤9223372036854775807)∧Ones Value.string w x.al x.aj x.aB∧(∀ y ∈ x.aB,(fun b=>b.size≤9223372036854775807) y)∧(x.af≤x.am∧x.am≤9223372036854775807)∧Ones Value.string w x.ak x.af x.ay∧(∀ y ∈ x.ay,(fun b=>b.size≤9223372036854775807) y)∧((-9223372036854775808)≤x.av∧x.av≤9223372036854775807)∧(x.ai≤x.au∧x.au≤9223372036854775807)∧Recs mvE 5 w x.aq x.ai x.ab∧(∀ y ∈ x.ab,(mvQ w) y)∧True
theorem bX {w0 w:World} {L:List Eng.Claim} {x:Cht} (h:chtQ w0 x) (S:Sep w0 L w):chtQ w x:=by
  obtain ⟨hgStates1,hgStates2,hgStates3,hgInputs1,hgInputs2,hgInputs3,hgStart,hgMoves1,hgMoves2,hgMoves3,_⟩:=h
  exact⟨hgStates1,hgStates2.sep S,hgStates3,hgInputs1,hgInputs2.sep S,hgInputs3,hgStart,hgMoves1,hgMoves2.sep S,fun y hy=>mvQ_sep (hgMoves3 y hy) S,trivial⟩

def bM (l:List ByteArray):Bool:=(List.range l.length).all fun i=>aV (l.getD i ByteArray.empty)&& !(l.take i).any (eqT (l.getD i ByteArray.empty))
theorem names_bad {l:List ByteArray} {i:Int} (h0:0≤i) (h:i<(l.length:Int)) (hp:aV (l.getD i.toNat ByteArray.empty)=false∨(l.take i.toNat).any (eqT (l.getD i.toNat ByteArray.empty))=true):bM l=false:=by
  unfold bM;refine all_range_false (j:=i.toNat) om ?_
  rcases hp with hp | hp
  · rw[hp];rfl
  · rw[hp];simp
theorem names_yes {l:List ByteArray} (h:∀ j,j<l.length→aV (l.getD j ByteArray.empty)=true∧(l.take j).any (eqT (l.getD j ByteArray.empty))=false):bM l=true:=by
  unfold bM;refine all_range_true fun j hj=>?_
  rw[(h j hj).1,(h j hj).2];rfl
theorem names_step {l:List ByteArray} {i:Int} (hq:∀ j,j<i.toNat→aV (l.getD j ByteArray.empty)=true∧(l.take j).any (eqT (l.getD j ByteArray.empty))=false) (h0:0≤i) (h1:aV (l.getD i.toNat ByteArray.empty)=true) (h2:(l.take i.toNat).any (eqT (l.getD i.toNat ByteArray.empty))=false) :
    ∀ j,j<(i+1).toNat→aV (l.getD j ByteArray.empty)=true∧(l.take j).any (eqT (l.getD j ByteArray.empty))=false:=by
  intro j hj
  by_cases e:j=i.toNat
  · subst e;exact⟨h1,h2⟩
  · exact hq j om
def andF (x y:Int):Int:=IntKind.wrap .i64 ((BitVec.ofInt 64 x &&& BitVec.ofInt 64 y).toNat:Int)
def mvB (n all:Int) (m:Mv):Bool:=decide (0≤m.aC)&&decide (m.aC<n)&&decide (0≤m.gTo)&&decide (m.gTo<n)&&decide (0≤m.gOn)&&decide (m.gOn≤all)&&decide (0≤m.aN)&&decide (m.aN≤all)&&andF m.gOn m.aN==0&&decide (0≤m.ax)&&decide (m.ax≤1000)
def bc (c:Cht):Int:=2^c.af-1
def aM (c:Cht):Bool:=decide (1≤c.aj)&&decide (c.aj≤20)&&decide (c.af≤10)&&bM c.aB&&bM c.ay&&decide (0≤c.av)&&decide (c.av<(c.aj:Int))&&decide (c.ai≤100)&&c.ab.all (mvB c.aj (bc c))
def cA (c:Cht) (x:Int):Bool:=decide (0≤x)&&decide (x<2^c.af)
def fitB (s a x:Int) (m:Mv):Bool:=m.aC==s&&decide (m.ax≤a)&&andF x m.gOn==m.gOn&&andF x m.aN==0
def stepI (c:Cht) (s a x:Int):Int:=ap (fitB s a x) c.ab
def bT (c:Cht) (s a x:Int):Int:=if stepI c s a x<0 then s else (c.ab.getD (stepI c s a x).toNat ⟨0,0,0,0,0⟩).gTo
def stepA (c:Cht) (s a x:Int):Int:=if stepI c s a x<0 then min (a+1) 1000 else 0
theorem pow10 {n:Nat} (h:n≤12):(1:Int)≤2^n∧(2:Int)^n≤4096:=by
  have h1:(1:Int)≤2^n:=by exact_mod_cast Nat.one_le_two_pow
  have h2:(2:Int)^n≤2^12:=by exact_mod_cast Nat.pow_le_pow_right om h
  omega
theorem shl_one {y:Int} {n:Nat} (hn:y=n) (h:n≤12):IntKind.wrap .i64 (1*2^min y.toNat (IntKind.bits .i64))=2^n:=by
  subst hn
  have hp:=pow10 h
  rw[show min ((n:Int).toNat) (IntKind.bits .i64)=n by rw[Int.toNat_natCast];exact Nat.min_eq_left (show n≤64 by omega),Int.one_mul]
  exact IntWalk.i64_in _ om
theorem cr {c:Cht} (h:aM c=true):(1≤c.aj∧c.aj≤20)∧c.af≤10∧(0≤c.av∧c.av<(c.aj:Int))∧c.ai≤100∧c.ab.all (mvB c.aj (bc c))=true:=by
  simp only[aM,Bool.and_eq_true,decide_eq_true_eq] at h
  obtain ⟨⟨⟨⟨⟨⟨⟨⟨h1,h2⟩,h3⟩,h4⟩,h5⟩,h6⟩,h7⟩,h8⟩,h9⟩:=h
  exact⟨⟨h1,h2⟩,h3,⟨h6,h7⟩,h8,h9⟩
theorem aO {α:Type} (q:α→Bool) (l:List α):(l.any fun x=> !q x)= !l.all q:=by rw[← List.not_all_eq_any_not]
theorem step_bounds {c:Cht} (h:aM c=true) {s a:Int} (x:Int) (hs:0≤s∧s<(c.aj:Int)) (ha:0≤a∧a≤1000):(0≤bT c s a x∧bT c s a x<(c.aj:Int))∧0≤stepA c s a x∧stepA c s a x≤1000:=by
  obtain ⟨_,_,_,_,h5⟩:=cr h
  unfold bT stepA
  split
  · omega
  · rename_i hn
    have hn2:0≤ap (fitB s a x) c.ab:=by unfold stepI at hn;omega
    obtain ⟨h1,_⟩:=indexF_at (⟨0,0,0,0,0⟩:Mv) hn2
    rw[List.all_eq_true] at h5
    have hm:=bu (Q:=fun m=>mvB c.aj (bc c) m=true) h5 (n:=(stepI c s a x).toNat) (⟨0,0,0,0,0⟩:Mv) (by unfold stepI;omega)
    simp only[mvB,Bool.and_eq_true,decide_eq_true_eq] at hm
    omega

theorem hb52:aJ prog 52:=fun _ _=>by kernel_rfl
def K52_0:=adv 9 [] (aY Tryz.f52)
def K52_1:=adv 4 [] K52_0
def K52_2:=adv 21 [] K52_1
def K52_3:=adv 3 [] K52_1
def K52_4:=adv 5 [] K52_3
def K52_5:=adv 13 [] K52_4
def K52_6:=adv 3 [] K52_4
def K52_7:=adv 5 [] K52_6
def K52_8:=adv 5 [] K52_7
def K52_9:=adv 5 [] K52_7
def K52_10:=adv 10 [] K52_6
def K52_11:=adv 8 [] K52_3
def K52_12:=adv 5 [] K52_11
def K52_13:=adv 5 [] K52_12
def K52_14:=adv 5 [] K52_12
def K52_15:=adv 10 [] K52_11
def K52_16:=adv 7 [] K52_0
def K52_17:=adv 5 [] K52_16
def K52_18:=adv 13 [] K52_17
def K52_19:=adv 3 [] K52_17
def K52_20:=adv 5 [] K52_19
def K52_21:=adv 5 [] K52_20
def K52_22:=adv 5 [] K52_20
def K52_23:=adv 10 [] K52_19
def K52_24:=adv 8 [] K52_16
def K52_25:=adv 5 [] K52_24
def K52_26:=adv 5 [] K52_25
def K52_27:=adv 5 [] K52_25
def K52_28:=adv 10 [] K52_24
set_option maxRecDepth 20000 in
set_option maxHeartbeats 20000000 in
theorem plain_any (c:Int) (w:World):Ret prog 52 #[.int .u8 c] w (fun v w'=>v=.bool (aG c)∧Sep w [] w'):=by
 have S0:=Sep.refl w
 refine Ret.named fun R hR=>Ret.of_J (N:=29) [(0,.int .u8 c)] func52 rfl rfl (Nat.le_of_ble_eq_true kr) kr<|J.run 9 K52_0 [(5,.bool (decide (c≥97))),(0,.int .u8 c)] w kr ?_
 by_cases fk1:c≥97
 refine J.head (.bool true) (congrArg Value.bool (decide_eq_true fk1))<|J.run 4 K52_1 [(9,.bool (decide (c≤122))),(0,.int .u8 c)] w kr ?_
 by_cases fk2:c≤122
 exact J.head (.bool true) (congrArg Value.bool (decide_eq_true fk2))<|J.run 21 K52_2 [(2,.bool true)] w kr<|J.ret Tryz.f52 [.bool true] func52 ⟨kr,trivial⟩<|hR _ _<|⟨congrArg Value.bool (by rw[Bool.eq_iff_iff];first | (simp[aG,aL,aH];done) | (simp[aG,aL,aH];omega) | (simp[aG,aH,fk1,fk2];done) | (simp[aG,aH,fk1,fk2];omega)),S0.nil⟩
 refine J.head (.bool false) (congrArg Value.bool (decide_eq_false fk2))<|J.run 3 K52_3 [(12,.bool (decide (c≥65))),(9,.bool false),(0,.int .u8 c)] w kr ?_
 by_cases fk3:c≥65
 refine J.head (.bool true) (congrArg Value.bool (decide_eq_true fk3))<|J.run 5 K52_4 [(17,.bool (decide (c≤90))),(0,.int .u8 c)] w kr ?_
 by_cases fk4:c≤90
 exact J.head (.bool true) (congrArg Value.bool (decide_eq_true fk4))<|J.run 13 K52_5 [(2,.bool true)] w kr<|J.ret Tryz.f52 [.bool true] func52 ⟨kr,trivial⟩<|hR _ _<|⟨congrArg Value.bool (by rw[Bool.eq_iff_iff];first | (simp[aG,aL,aH];done) | (simp[aG,aL,aH];omega) | (simp[aG,aH,fk1,fk2,fk3,fk4];done) | (simp[aG,aH,fk1,fk2,fk3,fk4];omega)),S0.nil⟩
 refine J.head (.bool false) (congrArg Value.bool (decide_eq_false fk4))<|J.run 3 K52_6 [(20,.bool (decide (c≥48))),(17,.bool false),(0,.int .u8 c)] w kr ?_
 by_cases fk5:c≥48
 refine J.head (.bool true) (congrArg Value.bool (decide_eq_true fk5))<|J.run 5 K52_7 [(25,.bool (decide (c≤57))),(0,.int .u8 c)] w kr ?_
 by_cases fk6:c≤57
 exact J.head (.bool true) (congrArg Value.bool (decide_eq_true fk6))<|J.run 5 K52_8 [(2,.bool true)] w kr<|J.ret Tryz.f52 [.bool true] func52 ⟨kr,trivial⟩<|hR _ _<|⟨congrArg Value.bool (by rw[Bool.eq_iff_iff];first | (simp[aG,aL,aH];done) | (simp[aG,aL,aH];omega) | (simp[aG,aH,fk1,fk2,fk3,fk4,fk5,fk6];done) | (simp[aG,aH,fk1,fk2,fk3,fk4,fk5,fk6];omega)),S0.nil⟩
 exact J.head (.bool false) (congrArg Value.bool (decide_eq_false fk6))<|J.run 5 K52_9 [(2,.bool (c==95))] w kr<|J.ret Tryz.f52 [.bool (c==95)] func52 ⟨kr,trivial⟩<|hR _ _<|⟨congrArg Value.bool (by rw[Bool.eq_iff_iff];first | (simp[aG,aL,aH];done) | (simp[aG,aL,aH];omega) | (simp[aG,aH,fk1,fk2,fk3,fk4,fk5,fk6];done) | (simp[aG,aH,fk1,fk2,fk3,fk4,fk5,fk6];omega)),S0.nil⟩
 exact J.head (.bool false) (congrArg Value.bool (decide_eq_false fk5))<|J.run 10 K52_10 [(2,.bool (c==95))] w kr<|J.ret Tryz.f52 [.bool (c==95)] func52 ⟨kr,trivial⟩<|hR _ _<|⟨congrArg Value.bool (by rw[Bool.eq_iff_iff];first | (simp[aG,aL,aH];done) | (simp[aG,aL,aH];omega) | (simp[aG,aH,fk1,fk2,fk3,fk4,fk5];done) | (simp[aG,aH,fk1,fk2,fk3,fk4,fk5];omega)),S0.nil⟩
 refine J.head (.bool false) (congrArg Value.bool (decide_eq_false fk3))<|J.run 8 K52_11 [(20,.bool (decide (c≥48))),(17,.bool false),(0,.int .u8 c)] w kr ?_
 by_cases fk7:c≥48
 refine J.head (.bool true) (congrArg Value.bool (decide_eq_true fk7))<|J.run 5 K52_12 [(25,.bool (decide (c≤57))),(0,.int .u8 c)] w kr ?_
 by_cases fk8:c≤57
 exact J.head (.bool true) (congrArg Value.bool (decide_eq_true fk8))<|J.run 5 K52_13 [(2,.bool true)] w kr<|J.ret Tryz.f52 [.bool true] func52 ⟨kr,trivial⟩<|hR _ _<|⟨congrArg Value.bool (by rw[Bool.eq_iff_iff];first | (simp[aG,aL,aH];done) | (simp[aG,aL,aH];omega) | (simp[aG,aH,fk1,fk2,fk3,fk7,fk8];done) | (simp[aG,aH,fk1,fk2,fk3,fk7,fk8];omega)),S0.nil⟩
 exact J.head (.bool false) (congrArg Value.bool (decide_eq_false fk8))<|J.run 5 K52_14 [(2,.bool (c==95))] w kr<|J.ret Tryz.f52 [.bool (c==95)] func52 ⟨kr,trivial⟩<|hR _ _<|⟨congrArg Value.bool (by rw[Bool.eq_iff_iff];first | (simp[aG,aL,aH];done) | (simp[aG,aL,aH];omega) | (simp[aG,aH,fk1,fk2,fk3,fk7,fk8];done) | (simp[aG,aH,fk1,fk2,fk3,fk7,fk8];omega)),S0.nil⟩
 exact J.head (.bool false) (congrArg Value.bool (decide_eq_false fk7))<|J.run 10 K52_15 [(2,.bool (c==95))] w kr<|J.ret Tryz.f52 [.bool (c==95)] func52 ⟨kr,trivial⟩<|hR _ _<|⟨congrArg Value.bool (by rw[Bool.eq_iff_iff];first | (simp[aG,aL,aH];done) | (simp[aG,aL,aH];omega) | (simp[aG,aH,fk1,fk2,fk3,fk7];done) | (simp[aG,aH,fk1,fk2,fk3,fk7];omega)),S0.nil⟩
 refine J.head (.bool false) (congrArg Value.bool (decide_eq_false fk1))<|J.run 7 K52_16 [(12,.bool (decide (c≥65))),(9,.bool false),(0,.int .u8 c)] w kr ?_
 by_cases fk9:c≥65
 refine J.head (.bool true) (congrArg Value.bool (decide_eq_true fk9))<|J.run 5 K52_17 [(17,.bool (decide (c≤90))),(0,.int .u8 c)] w kr ?_
 by_cases fk10:c≤90
 exact J.head (.bool true) (congrArg Value.bool (decide_eq_true fk10))<|J.run 13 K52_18 [(2,.bool true)] w kr<|J.ret Tryz.f52 [.bool true] func52 ⟨kr,trivial⟩<|hR _ _<|⟨congrArg Value.bool (by rw[Bool.eq_iff_iff];first | (simp[aG,aL,aH];done) | (simp[aG,aL,aH];omega) | (simp[aG,aH,fk1,fk9,fk10];done) | (simp[aG,aH,fk1,fk9,fk10];omega)),S0.nil⟩
 refine J.head (.bool false) (congrArg Value.bool (decide_eq_false fk10))<|J.run 3 K52_19 [(20,.bool (decide (c≥48))),(17,.bool false),(0,.int .u8 c)] w kr ?_
 by_cases fk11:c≥48
 refine J.head (.bool true) (congrArg Value.bool (decide_eq_true fk11))<|J.run 5 K52_20 [(25,.bool (decide (c≤57))),(0,.int .u8 c)] w kr ?_
 by_cases fk12:c≤57
 exact J.head (.bool true) (congrArg Value.bool (decide_eq_true fk12))<|J.run 5 K52_21 [(2,.bool true)] w kr<|J.ret Tryz.f52 [.bool true] func52 ⟨kr,trivial⟩<|hR _ _<|⟨congrArg Value.bool (by rw[Bool.eq_iff_iff];first | (simp[aG,aL,aH];done) | (simp[aG,aL,aH];omega) | (simp[aG,aH,fk1,fk9,fk10,fk11,fk12];done) | (simp[aG,aH,fk1,fk9,fk10,fk11,fk12];omega)),S0.nil⟩
 exact J.head (.bool false) (congrArg Value.bool (decide_eq_false fk12))<|J.run 5 K52_22 [(2,.bool (c==95))] w kr<|J.ret Tryz.f52 [.bool (c==95)] func52 ⟨kr,trivial⟩<|hR _ _<|⟨congrArg Value.bool (by rw[Bool.eq_iff_iff];first | (simp[aG,aL,aH];done) | (simp[aG,aL,aH];omega) | (simp[aG,aH,fk1,fk9,fk10,fk11,fk12];done) | (simp[aG,aH,fk1,fk9,fk10,fk11,fk12];omega)),S0.nil⟩
 exact J.head (.bool false) (congrArg Value.bool (decide_eq_false fk11))<|J.run 10 K52_23 [(2,.bool (c==95))] w kr<|J.ret Tryz.f52 [.bool (c==95)] func52 ⟨kr,trivial⟩<|hR _ _<|⟨congrArg Value.bool (by rw[Bool.eq_iff_iff];first | (simp[aG,aL,aH];done) | (simp[aG,aL,aH];omega) | (simp[aG,aH,fk1,fk9,fk10,fk11];done) | (simp[aG,aH,fk1,fk9,fk10,fk11];omega)),S0.nil⟩
 refine J.head (.bool false) (congrArg Value.bool (decide_eq_false fk9))<|J.run 8 K52_24 [(20,.bool (decide (c≥48))),(17,.bool false),(0,.int .u8 c)] w kr ?_
 by_cases fk13:c≥48
 refine J.head (.bool true) (congrArg Value.bool (decide_eq_true fk13))<|J.run 5 K52_25 [(25,.bool (decide (c≤57))),(0,.int .u8 c)] w kr ?_
 by_cases fk14:c≤57
 exact J.head (.bool true) (congrArg Value.bool (decide_eq_true fk14))<|J.run 5 K52_26 [(2,.bool true)] w kr<|J.ret Tryz.f52 [.bool true] func52 ⟨kr,trivial⟩<|hR _ _<|⟨congrArg Value.bool (by rw[Bool.eq_iff_iff];first | (simp[aG,aL,aH];done) | (simp[aG,aL,aH];omega) | (simp[aG,aH,fk1,fk9,fk13,fk14];done) | (simp[aG,aH,fk1,fk9,fk13,fk14];omega)),S0.nil⟩
 exact J.head (.bool false) (congrArg Value.bool (decide_eq_false fk14))<|J.run 5 K52_27 [(2,.bool (c==95))] w kr<|J.ret Tryz.f52 [.bool (c==95)] func52 ⟨kr,trivial⟩<|hR _ _<|⟨congrArg Value.bool (by rw[Bool.eq_iff_iff];first | (simp[aG,aL,aH];done) | (simp[aG,aL,aH];omega) | (simp[aG,aH,fk1,fk9,fk13,fk14];done) | (simp[aG,aH,fk1,fk9,fk13,fk14];omega)),S0.nil⟩
 exact J.head (.bool false) (congrArg Value.bool (decide_eq_false fk13))<|J.run 10 K52_28 [(2,.bool (c==95))] w kr<|J.ret Tryz.f52 [.bool (c==95)] func52 ⟨kr,trivial⟩<|hR _ _<|⟨congrArg Value.bool (by rw[Bool.eq_iff_iff];first | (simp[aG,aL,aH];done) | (simp[aG,aL,aH];omega) | (simp[aG,aH,fk1,fk9,fk13];done) | (simp[aG,aH,fk1,fk9,fk13];omega)),S0.nil⟩

theorem hb73:aJ prog 73:=fun _ _=>by kernel_rfl
def K73_0:=adv 9 [] (aY Tryz.f73)
def K73_1:=adv 4 [] K73_0
def K73_2:=adv 9 [] K73_1
def K73_3:=adv 3 [] K73_1
def K73_4:=adv 6 [] K73_3
def K73_5:=adv 6 [] K73_3
def K73_6:=adv 7 [] K73_0
def K73_7:=adv 6 [] K73_6
def K73_8:=adv 6 [] K73_6
set_option maxRecDepth 20000 in
set_option maxHeartbeats 20000000 in
theorem letter_any (c:Int) (w:World):Ret prog 73 #[.int .u8 c] w (fun v w'=>v=.bool (aL c)∧Sep w [] w'):=by
 have S0:=Sep.refl w
 refine Ret.named fun R hR=>Ret.of_J (N:=17) [(0,.int .u8 c)] func73 rfl rfl (Nat.le_of_ble_eq_true kr) kr<|J.run 9 K73_0 [(5,.bool (decide (c≥97))),(0,.int .u8 c)] w kr ?_
 by_cases fk1:c≥97
 refine J.head (.bool true) (congrArg Value.bool (decide_eq_true fk1))<|J.run 4 K73_1 [(9,.bool (decide (c≤122))),(0,.int .u8 c)] w kr ?_
 by_cases fk2:c≤122
 exact J.head (.bool true) (congrArg Value.bool (decide_eq_true fk2))<|J.run 9 K73_2 [(2,.bool true)] w kr<|J.ret Tryz.f73 [.bool true] func73 ⟨kr,trivial⟩<|hR _ _<|⟨congrArg Value.bool (by rw[Bool.eq_iff_iff];first | (simp[aG,aL,aH];done) | (simp[aG,aL,aH];omega) | (simp[aG,aH,fk1,fk2];done) | (simp[aG,aH,fk1,fk2];omega)),S0.nil⟩
 refine J.head (.bool false) (congrArg Value.bool (decide_eq_false fk2))<|J.run 3 K73_3 [(12,.bool (decide (c≥65))),(9,.bool false),(0,.int .u8 c)] w kr ?_
 by_cases fk3:c≥65
 exact J.head (.bool true) (congrArg Value.bool (decide_eq_true fk3))<|J.run 6 K73_4 [(2,.bool (decide (c≤90)))] w kr<|J.ret Tryz.f73 [.bool (decide (c≤90))] func73 ⟨kr,trivial⟩<|hR _ _<|⟨congrArg Value.bool (by rw[Bool.eq_iff_iff];first | (simp[aG,aL,aH];done) | (simp[aG,aL,aH];omega) | (simp[aG,aH,fk1,fk2,fk3];done) | (simp[aG,aH,fk1,fk2,fk3];omega)),S0.nil⟩
 exact J.head (.bool false) (congrArg Value.bool (decide_eq_false fk3))<|J.run 6 K73_5 [(2,.bool false)] w kr<|J.ret Tryz.f73 [.bool false] func73 ⟨kr,trivial⟩<|hR _ _<|⟨congrArg Value.bool (by rw[Bool.eq_iff_iff];first | (simp[aG,aL,aH];done) | (simp[aG,aL,aH];omega) | (simp[aG,aH,fk1,fk2,fk3];done) | (simp[aG,aH,fk1,fk2,fk3];omega)),S0.nil⟩
 refine J.head (.bool false) (congrArg Value.bool (decide_eq_false fk1))<|J.run 7 K73_6 [(12,.bool (decide (c≥65))),(9,.bool false),(0,.int .u8 c)] w kr ?_
 by_cases fk4:c≥65
 exact J.head (.bool true) (congrArg Value.bool (decide_eq_true fk4))<|J.run 6 K73_7 [(2,.bool (decide (c≤90)))] w kr<|J.ret Tryz.f73 [.bool (decide (c≤90))] func73 ⟨kr,trivial⟩<|hR _ _<|⟨congrArg Value.bool (by rw[Bool.eq_iff_iff];first | (simp[aG,aL,aH];done) | (simp[aG,aL,aH];omega) | (simp[aG,aH,fk1,fk4];done) | (simp[aG,aH,fk1,fk4];omega)),S0.nil⟩
 exact J.head (.bool false) (congrArg Value.bool (decide_eq_false fk4))<|J.run 6 K73_8 [(2,.bool false)] w kr<|J.ret Tryz.f73 [.bool false] func73 ⟨kr,trivial⟩<|hR _ _<|⟨congrArg Value.bool (by rw[Bool.eq_iff_iff];first | (simp[aG,aL,aH];done) | (simp[aG,aL,aH];omega) | (simp[aG,aH,fk1,fk4];done) | (simp[aG,aH,fk1,fk4];omega)),S0.nil⟩

theorem hb60:aJ prog 60:=fun _ _=>by kernel_rfl
def K60_0:=adv 7 [] (aY Tryz.f60)
def K60_1:=adv 1 [] (aK K60_0)
def K60_2:=adv 13 [] K60_1
def K60_3:=adv 3 [] K60_1
def K60_4:=adv 5 [] K60_3
def K60_5:=adv 5 [] K60_4
def K60_6:=adv 5 [] K60_4
def K60_7:=adv 10 [] K60_3
set_option maxRecDepth 20000 in
set_option maxHeartbeats 20000000 in
theorem part_any (c:Int) (w:World):Ret prog 60 #[.int .u8 c] w (fun v w'=>v=.bool (aG c)∧Sep w [] w'):=by
 have S0:=Sep.refl w
 refine Ret.named fun R hR=>Ret.of_J (N:=17) [(0,.int .u8 c)] func60 rfl rfl (Nat.le_of_ble_eq_true kr) kr<|J.run 7 K60_0 [(3,.int .u8 c),(0,.int .u8 c)] w kr<|J.callF 4 73 #[.int .u8 c] hb73 kr (letter_any c _) ?_
 rintro _ w1 ⟨rfl,T1⟩
 have S1:Sep w [] w1:=S0.trans T1
 clear T1
 refine J.run 1 K60_1 [(5,.bool (aL c)),(0,.int .u8 c)] w1 kr ?_
 rcases Bool.eq_false_or_eq_true (aL c) with fk1 | fk1
 exact J.head (.bool true) (congrArg Value.bool fk1)<|J.run 13 K60_2 [(2,.bool true)] w1 kr<|J.ret Tryz.f60 [.bool true] func60 ⟨kr,trivial⟩<|hR _ _<|⟨congrArg Value.bool (by rw[Bool.eq_iff_iff];first | (simp[aG,aL,aH];done) | (simp[aG,aL,aH];omega) | (simp[aG,aH,fk1];done) | (simp[aG,aH,fk1];omega)),S1.nil⟩
 refine J.head (.bool false) (congrArg Value.bool fk1)<|J.run 3 K60_3 [(8,.bool (decide (c≥48))),(5,.bool false),(0,.int .u8 c)] w1 kr ?_
 by_cases fk2:c≥48
 refine J.head (.bool true) (congrArg Value.bool (decide_eq_true fk2))<|J.run 5 K60_4 [(13,.bool (decide (c≤57))),(0,.int .u8 c)] w1 kr ?_
 by_cases fk3:c≤57
 exact J.head (.bool true) (congrArg Value.bool (decide_eq_true fk3))<|J.run 5 K60_5 [(2,.bool true)] w1 kr<|J.ret Tryz.f60 [.bool true] func60 ⟨kr,trivial⟩<|hR _ _<|⟨congrArg Value.bool (by rw[Bool.eq_iff_iff];first | (simp[aG,aL,aH];done) | (simp[aG,aL,aH];omega) | (simp[aG,aH,fk1,fk2,fk3];done) | (simp[aG,aH,fk1,fk2,fk3];omega)),S1.nil⟩
 exact J.head (.bool false) (congrArg Value.bool (decide_eq_false fk3))<|J.run 5 K60_6 [(2,.bool (c==95))] w1 kr<|J.ret Tryz.f60 [.bool (c==95)] func60 ⟨kr,trivial⟩<|hR _ _<|⟨congrArg Value.bool (by rw[Bool.eq_iff_iff];first | (simp[aG,aL,aH];done) | (simp[aG,aL,aH];omega) | (simp[aG,aH,fk1,fk2,fk3];done) | (simp[aG,aH,fk1,fk2,fk3];omega)),S1.nil⟩
 exact J.head (.bool false) (congrArg Value.bool (decide_eq_false fk2))<|J.run 10 K60_7 [(2,.bool (c==95))] w1 kr<|J.ret Tryz.f60 [.bool (c==95)] func60 ⟨kr,trivial⟩<|hR _ _<|⟨congrArg Value.bool (by rw[Bool.eq_iff_iff];first | (simp[aG,aL,aH];done) | (simp[aG,aL,aH];omega) | (simp[aG,aH,fk1,fk2];done) | (simp[aG,aH,fk1,fk2];omega)),S1.nil⟩

theorem hb57:aJ prog 57:=fun _ _=>by kernel_rfl
def K57_0:=adv 13 [] (aY Tryz.f57)
def K57_1:=adv 5 [] K57_0
def K57_2:=adv 14 [true] K57_1
def K57_3:=adv 2 [] (aK (aK K57_2))
def K57_4:=adv 6 [true] K57_3
def K57_5:=adv 5 [false] K57_3
def K57_6:=adv 6 [false] K57_1
set_option maxRecDepth 20000 in
set_option maxHeartbeats 20000000 in
theorem indexS (la:Option Addr) (len cap:Nat) (l:List ByteArray) (x:ByteArray) (w:World) (hI:Ones Value.string w la len l) (hlen:len≤9223372036854775807):Ret prog 57 #[.slice la len cap,.string x] w (fun v w'=>v=.int .i64 (ap (eqT x) l)∧Sep w [] w'):=by
 have S0:=Sep.refl w
 refine Ret.named fun R hR=>Ret.of_J (N:=19) [(0,.slice la len cap),(1,.string x)] func57 rfl rfl (Nat.le_of_ble_eq_true kr) kr<|J.run 13 K57_0 [(8,.int .i64 0),(7,.int .i64 (len:Int)),(0,.slice la len cap),(1,.string x)] w kr ?_
 have L57_1:∀ (mm_:Nat) (i:Int) (w1:World),(0≤i)→(i≤(len:Int))→(∀ j,j<(i).toNat→eqT x (l.getD j ByteArray.empty)=false)→Sep w [] w1→((len:Int)-i).toNat=mm_→J prog 57 19 R K57_0 [(8,.int .i64 i),(7,.int .i64 (len:Int)),(0,.slice la len cap),(1,.string x)] w1:=by
  intro mm1
  induction mm1 using Nat.strongRecOn with
  | _ mm1 ih1 =>
  intro i w1 h0 h1 hq S1 hm1
  refine J.run 5 K57_1 [(9,.bool (decide (i<(len:Int)))),(8,.int .i64 i),(7,.int .i64 (len:Int)),(0,.slice la len cap),(1,.string x)] w1 kr ?_
  by_cases fk1:i<(len:Int)
  refine J.head (.bool true) (congrArg Value.bool (decide_eq_true fk1))<|J.run 14 K57_2 [(13,.int .i64 i),(12,.slice la len cap),(11,.string x),(5,.int .i64 i),(8,.int .i64 i),(7,.int .i64 (len:Int)),(0,.slice la len cap),(1,.string x)] w1 kr ?_
  obtain ⟨p1,hp1,hc1⟩:=hI.at ByteArray.empty (i).toNat om
  refine J.ok (OK.index 14 22 1 la p1 len (i).toNat i (p1.add (i).toNat) kr kr hp1 om om nO)<|J.ok (OK.ldCell 15 9 (p1.add (i).toNat) (.string (l.getD (i).toNat ByteArray.empty)) kr kr (S1.cell hc1))<|J.run 2 K57_3 [(16,.bool (x.toList==(l.getD (i).toNat ByteArray.empty).toList)),(5,.int .i64 i),(8,.int .i64 i),(7,.int .i64 (len:Int)),(0,.slice la len cap),(1,.string x)] w1 kr ?_
  rcases Bool.eq_false_or_eq_true (x.toList==(l.getD (i).toNat ByteArray.empty).toList) with fk2 | fk2
  exact J.head (.bool true) (congrArg Value.bool fk2)<|J.run 6 K57_4 [(4,.int .i64 i)] w1 kr<|J.ret Tryz.f57 [.int .i64 i] func57 ⟨kr,trivial⟩<|hR _ _<|⟨by rw[cz,cG ByteArray.empty i.toNat (by have:=hI.len_eq;omega) hq fk2,Int.toNat_of_nonneg h0],S1.nil⟩
  exact J.head (.bool false) (congrArg Value.bool fk2)<|J.run 5 K57_5 [(18,.int .i64 (IntKind.wrap .i64 (i+1))),(7,.int .i64 (len:Int)),(0,.slice la len cap),(1,.string x)] w1 kr<|J.head (.int .i64 (i+1)) (congrArg (Value.int .i64) (IntWalk.i64_in _ om))<|J.run 3 K57_0 [(8,.int .i64 (i+1)),(7,.int .i64 (len:Int)),(0,.slice la len cap),(1,.string x)] w1 kr<|J.run 0 K57_0 [(8,.int .i64 (i+1)),(7,.int .i64 (len:Int)),(0,.slice la len cap),(1,.string x)] w1 kr<|ih1 _ (show((len:Int)-(i+1)).toNat<mm1 from by omega) (i+1) w1 om om (by intro j hj;by_cases e:j=i.toNat;(subst e;exact fk2);exact hq j om) S1 rfl
  exact J.head (.bool false) (congrArg Value.bool (decide_eq_false fk1))<|J.run 6 K57_6 [(4,.int .i64 (-1))] w1 kr<|J.ret Tryz.f57 [.int .i64 (-1)] func57 ⟨kr,trivial⟩<|hR _ _<|⟨by rw[cz,cH ByteArray.empty fun j hj=>hq j (by have:=hI.len_eq;omega)],S1.nil⟩
 exact L57_1 _ 0 w om om (by intro j hj;simp at hj) S0 rfl

theorem hb63:aJ prog 63:=fun _ _=>by kernel_rfl
def K63_0:=adv 11 [] (aY Tryz.f63)
def K63_1:=adv 8 [] K63_0
def K63_2:=adv 8 [true] K63_1
def K63_3:=adv 3 [] (aK (aK K63_2))
def K63_4:=adv 6 [true] K63_3
def K63_5:=adv 6 [false] K63_3
def K63_6:=adv 6 [false] K63_1
set_option maxRecDepth 20000 in
set_option maxHeartbeats 20000000 in
theorem br (la:Option Addr) (len cap:Nat) (l:List ByteArray) (x:ByteArray) (w:World) (hI:Ones Value.string w la len l) (hlen:len≤9223372036854775807):Ret prog 63 #[.slice la len cap,.string x] w (fun v w'=>v=.int .i64 (ap (eqT x) l)∧Sep w [] w'):=by
 have S0:=Sep.refl w
 refine Ret.named fun R hR=>Ret.of_J (N:=19) [(0,.slice la len cap),(1,.string x)] func63 rfl rfl (Nat.le_of_ble_eq_true kr) kr<|J.run 11 K63_0 [(5,.int .i64 0),(0,.slice la len cap),(1,.string x)] w kr ?_
 have L63_1:∀ (mm_:Nat) (i:Int) (w1:World),(0≤i)→(i≤(len:Int))→(∀ j,j<(i).toNat→eqT x (l.getD j ByteArray.empty)=false)→Sep w [] w1→((len:Int)-i).toNat=mm_→J prog 63 19 R K63_0 [(5,.int .i64 i),(0,.slice la len cap),(1,.string x)] w1:=by
  intro mm1
  induction mm1 using Nat.strongRecOn with
  | _ mm1 ih1 =>
  intro i w1 h0 h1 hq S1 hm1
  refine J.run 8 K63_1 [(9,.bool (decide (i<(len:Int)))),(5,.int .i64 i),(0,.slice la len cap),(1,.string x)] w1 kr ?_
  by_cases fk1:i<(len:Int)
  refine J.head (.bool true) (congrArg Value.bool (decide_eq_true fk1))<|J.run 8 K63_2 [(13,.int .i64 i),(12,.slice la len cap),(5,.int .i64 i),(0,.slice la len cap),(1,.string x)] w1 kr ?_
  obtain ⟨p1,hp1,hc1⟩:=hI.at ByteArray.empty (i).toNat om
  refine J.ok (OK.index 14 22 1 la p1 len (i).toNat i (p1.add (i).toNat) kr kr hp1 om om nO)<|J.ok (OK.ldCell 15 9 (p1.add (i).toNat) (.string (l.getD (i).toNat ByteArray.empty)) kr kr (S1.cell hc1))<|J.run 3 K63_3 [(17,.bool ((l.getD (i).toNat ByteArray.empty).toList==x.toList)),(5,.int .i64 i),(0,.slice la len cap),(1,.string x)] w1 kr ?_
  rcases Bool.eq_false_or_eq_true ((l.getD (i).toNat ByteArray.empty).toList==x.toList) with fk2 | fk2
  exact J.head (.bool true) (congrArg Value.bool fk2)<|J.run 6 K63_4 [(4,.int .i64 i)] w1 kr<|J.ret Tryz.f63 [.int .i64 i] func63 ⟨kr,trivial⟩<|hR _ _<|⟨by rw[cz,cG ByteArray.empty i.toNat (by have:=hI.len_eq;omega) hq ((eqT_comm _ _).trans fk2),Int.toNat_of_nonneg h0],S1.nil⟩
  exact J.head (.bool false) (congrArg Value.bool fk2)<|J.run 6 K63_5 [(11,.int .i64 (IntKind.wrap .i64 (i+1))),(0,.slice la len cap),(1,.string x)] w1 kr<|J.head (.int .i64 (i+1)) (congrArg (Value.int .i64) (IntWalk.i64_in _ om))<|J.run 3 K63_0 [(5,.int .i64 (i+1)),(0,.slice la len cap),(1,.string x)] w1 kr<|J.run 0 K63_0 [(5,.int .i64 (i+1)),(0,.slice la len cap),(1,.string x)] w1 kr<|ih1 _ (show((len:Int)-(i+1)).toNat<mm1 from by omega) (i+1) w1 om om (by intro j hj;by_cases e:j=i.toNat;(subst e;exact((eqT_comm _ _).trans fk2));exact hq j om) S1 rfl
  exact J.head (.bool false) (congrArg Value.bool (decide_eq_false fk1))<|J.run 6 K63_6 [(4,.int .i64 (-1))] w1 kr<|J.ret Tryz.f63 [.int .i64 (-1)] func63 ⟨kr,trivial⟩<|hR _ _<|⟨by rw[cz,cH ByteArray.empty fun j hj=>hq j (by have:=hI.len_eq;omega)],S1.nil⟩
 exact L63_1 _ 0 w om om (by intro j hj;simp at hj) S0 rfl

theorem hb56:aJ prog 56:=fun _ _=>by kernel_rfl
def K56_0:=adv 8 [] (aY Tryz.f56)
def K56_1:=adv 3 [] (aK K56_0)
set_option maxRecDepth 20000 in
set_option maxHeartbeats 20000000 in
theorem containsS (la:Option Addr) (len cap:Nat) (l:List ByteArray) (x:ByteArray) (w:World) (hI:Ones Value.string w la len l) (hlen:len≤9223372036854775807):Ret prog 56 #[.slice la len cap,.string x] w (fun v w'=>v=.bool (l.any (eqT x))∧Sep w [] w'):=by
 have S0:=Sep.refl w
 refine Ret.named fun R hR=>Ret.of_J (N:=9) [(0,.slice la len cap),(1,.string x)] func56 rfl rfl (Nat.le_of_ble_eq_true kr) kr<|J.run 8 K56_0 [(6,.string x),(5,.slice la len cap)] w kr<|J.callF 7 57 #[.slice la len cap,.string x] hb57 kr (indexS la len cap l x _ (hI.sep S0) oz) ?_
 rintro _ w1 ⟨rfl,T1⟩
 have S1:Sep w [] w1:=S0.trans T1
 clear T1
 exact J.run 3 K56_1 [(4,.bool (decide ((ap (eqT x) l)≥0)))] w1 kr<|J.ret Tryz.f56 [.bool (decide ((ap (eqT x) l)≥0))] func56 ⟨kr,trivial⟩<|hR _ _<|⟨congrArg Value.bool bQ,S1.nil⟩

theorem name_last {s:ByteArray} (h1:1≤s.size) (h2:s.size≤24) (h3:aL (aA s 0)=true) (h4:∀ j,j<s.size→aG (aA s j)=true):decide (ap (eqT s) bZ<0)=aV s:=by
  have e:=bQ (q:=eqT s) (l:=bZ)
  have e2:decide (ap (eqT s) bZ<0)= !decide (ap (eqT s) bZ≥0):=by
    rw[← decide_not,decide_eq_decide];omega
  rw[e2,e]
  unfold aV;rw[decide_eq_true h1,decide_eq_true h2,h3,all_range_true h4];rfl
theorem letter0 {c:Int} (h1:¬ (48≤c∧c≤57)) (h2:c≠95) (h:aG c=true):aL c=true:=by
  cases hl:aL c with
  | true=>rfl
  | false=>simp[aG,hl,aH] at h;omega
theorem hb58:aJ prog 58:=fun _ _=>by kernel_rfl
def K58_0:=adv 11 [] (aY Tryz.f58)
def K58_1:=adv 25 [true] K58_0
def K58_2:=adv 5 [] K58_0
def K58_3:=adv 20 [true] K58_2
def K58_4:=adv 1 [] K58_2
def K58_5:=adv 2 [] (aK K58_4)
def K58_6:=adv 1 [] K58_5
def K58_7:=adv 4 [] (aK K58_6)
def K58_8:=adv 10 [true] K58_7
def K58_9:=adv 1 [] K58_7
def K58_10:=adv 3 [] (aK K58_9)
def K58_11:=adv 5 [true] K58_10
def K58_12:=adv 11 [false] K58_10
def K58_13:=adv 5 [] K58_12
def K58_14:=adv 13 [true] K58_13
def K58_15:=adv 2 [] (aK (aK K58_14))
def K58_16:=adv 5 [false] K58_15
def K58_17:=adv 5 [true] K58_15
def K58_18:=adv 14 [false] K58_13
def K58_19:=adv 7 [true,true] K58_18
def K58_20:=adv 6 [false] K58_18
def K58_21:=adv 7 [true,true] K58_20
def K58_22:=adv 6 [false] K58_20
def K58_23:=adv 7 [true,true] K58_22
def K58_24:=adv 6 [false] K58_22
def K58_25:=adv 7 [true,true] K58_24
def K58_26:=adv 6 [false] K58_24
def K58_27:=adv 7 [true,true] K58_26
def K58_28:=adv 6 [false] K58_26
def K58_29:=adv 7 [true,true] K58_28
def K58_30:=adv 5 [false] K58_28
def K58_31:=adv 5 [true] K58_30
def K58_32:=adv 7 [false] K58_30
def K58_33:=adv 7 [] K58_5
def K58_34:=adv 3 [] (aK K58_33)
def K58_35:=adv 5 [true] K58_34
def K58_36:=adv 11 [false] K58_34
def K58_37:=adv 5 [] K58_36
def K58_38:=adv 13 [true] K58_37
def K58_39:=adv 2 [] (aK (aK K58_38))
def K58_40:=adv 5 [false] K58_39
def K58_41:=adv 5 [true] K58_39
def K58_42:=adv 14 [false] K58_37
def K58_43:=adv 7 [true,true] K58_42
def K58_44:=adv 6 [false] K58_42
def K58_45:=adv 7 [true,true] K58_44
def K58_46:=adv 6 [false] K58_44
def K58_47:=adv 7 [true,true] K58_46
def K58_48:=adv 6 [false] K58_46
def K58_49:=adv 7 [true,true] K58_48
def K58_50:=adv 6 [false] K58_48
def K58_51:=adv 7 [true,true] K58_50
def K58_52:=adv 6 [false] K58_50
def K58_53:=adv 7 [true,true] K58_52
def K58_54:=adv 5 [false] K58_52
def K58_55:=adv 5 [true] K58_54
def K58_56:=adv 7 [false] K58_54
set_option maxRecDepth 20000 in
set_option maxHeartbeats 20000000 in
theorem name_any (s:ByteArray) (w:World) (hs:s.size≤9223372036854775807):Ret prog 58 #[.string s] w (fun v w'=>v=.bool (aV s)∧Sep w [] w'):=by
 have S0:=Sep.refl w
 refine Ret.named fun R hR=>Ret.of_J (N:=47) [(0,.string s)] func58 rfl rfl (Nat.le_of_ble_eq_true kr) kr<|J.run 11 K58_0 [(7,.bool (decide ((s.size:Int)<1))),(0,.string s)] w kr ?_
 by_cases fk1:(s.size:Int)<1
 exact J.head (.bool true) (congrArg Value.bool (decide_eq_true fk1))<|J.run 25 K58_1 [(2,.bool false)] w kr<|J.ret Tryz.f58 [.bool false] func58 ⟨kr,trivial⟩<|hR _ _<|⟨congrArg Value.bool (bC (by first | omega | (right;right;left;first | assumption | (simp[aL];omega)))).symm,S0.nil⟩
 refine J.head (.bool false) (congrArg Value.bool (decide_eq_false fk1))<|J.run 5 K58_2 [(12,.bool (decide ((s.size:Int)>24))),(0,.string s)] w kr ?_
 by_cases fk2:(s.size:Int)>24
 exact J.head (.bool true) (congrArg Value.bool (decide_eq_true fk2))<|J.run 20 K58_3 [(2,.bool false)] w kr<|J.ret Tryz.f58 [.bool false] func58 ⟨kr,trivial⟩<|hR _ _<|⟨congrArg Value.bool (bC (by first | omega | (right;right;left;first | assumption | (simp[aL];omega)))).symm,S0.nil⟩
 refine J.head (.bool false) (congrArg Value.bool (decide_eq_false fk2))<|J.run 1 K58_4 [(13,.string s),(12,.bool false),(0,.string s)] w kr ?_
 have:=aS s 0
 refine J.ok (OK.byte 14 9 s (0:Int) (aA s 0) kr kr om om (rfl))<|J.run 2 K58_5 [(16,.bool (decide ((aA s 0)≥48))),(12,.bool false),(0,.string s)] w kr ?_
 by_cases fk3:(aA s 0)≥48
 refine J.head (.bool true) (congrArg Value.bool (decide_eq_true fk3))<|J.run 1 K58_6 [(17,.string s),(16,.bool true),(12,.bool false),(0,.string s)] w kr ?_
 have:=aS s 0
 refine J.ok (OK.byte 18 9 s (0:Int) (aA s 0) kr kr om om (rfl))<|J.run 4 K58_7 [(22,.bool (decide ((aA s 0)≤57))),(0,.string s)] w kr ?_
 by_cases fk4:(aA s 0)≤57
 exact J.head (.bool true) (congrArg Value.bool (decide_eq_true fk4))<|J.run 10 K58_8 [(2,.bool false)] w kr<|J.ret Tryz.f58 [.bool false] func58 ⟨kr,trivial⟩<|hR _ _<|⟨congrArg Value.bool (bC (by first | omega | (right;right;left;first | assumption | (simp[aL];omega)))).symm,S0.nil⟩
 refine J.head (.bool false) (congrArg Value.bool (decide_eq_false fk4))<|J.run 1 K58_9 [(23,.string s),(22,.bool false),(0,.string s)] w kr ?_
 have:=aS s 0
 refine J.ok (OK.byte 24 9 s (0:Int) (aA s 0) kr kr om om (rfl))<|J.run 3 K58_10 [(26,.bool ((aA s 0)==95)),(0,.string s)] w kr ?_
 by_cases fk5:(aA s 0)=95
 exact J.head (.bool true) (congrArg Value.bool (beq_iff_eq.2 fk5))<|J.run 5 K58_11 [(2,.bool false)] w kr<|J.ret Tryz.f58 [.bool false] func58 ⟨kr,trivial⟩<|hR _ _<|⟨congrArg Value.bool (bC (by first | omega | (right;right;left;first | assumption | (simp[aL];omega)))).symm,S0.nil⟩
 refine J.head (.bool false) (congrArg Value.bool (beq_eq_false_iff_ne.2 fk5))<|J.run 11 K58_12 [(29,.int .i64 0),(28,.int .i64 (s.size:Int)),(0,.string s)] w kr ?_
 have L58_1:∀ (mm_:Nat) (i:Int) (w1:World),(0≤i)→(i≤(s.size:Int))→(∀ j,j<(i).toNat→aG (aA s j)=true)→Sep w [] w1→((s.size:Int)-i).toNat=mm_→J prog 58 47 R K58_12 [(29,.int .i64 i),(28,.int .i64 (s.size:Int)),(0,.string s)] w1:=by
  intro mm1
  induction mm1 using Nat.strongRecOn with
  | _ mm1 ih1 =>
  intro i w1 h0 h1 hq S1 hm1
  refine J.run 5 K58_13 [(30,.bool (decide (i<(s.size:Int)))),(29,.int .i64 i),(28,.int .i64 (s.size:Int)),(0,.string s)] w1 kr ?_
  by_cases fk6:i<(s.size:Int)
  refine J.head (.bool true) (congrArg Value.bool (decide_eq_true fk6))<|J.run 13 K58_14 [(33,.int .i64 i),(32,.string s),(29,.int .i64 i),(28,.int .i64 (s.size:Int)),(0,.string s)] w1 kr ?_
  have:=aS s (i).toNat
  refine J.ok (OK.byte 34 9 s i (aA s (i).toNat) kr kr om om (rfl))<|J.callF 35 52 #[.int .u8 (aA s (i).toNat)] hb52 kr (plain_any (aA s (i).toNat) _) ?_
  rintro _ w2 ⟨rfl,T1⟩
  have S2:Sep w [] w2:=S1.trans T1
  clear T1 S1
  refine J.run 2 K58_15 [(36,.bool (!(aG (aA s (i).toNat)))),(29,.int .i64 i),(28,.int .i64 (s.size:Int)),(0,.string s)] w2 kr ?_
  rcases Bool.eq_false_or_eq_true (aG (aA s (i).toNat)) with fk7 | fk7
  exact J.head (.bool false) (congrArg Value.bool (by rw[fk7];rfl))<|J.run 5 K58_16 [(37,.int .i64 (IntKind.wrap .i64 (i+1))),(28,.int .i64 (s.size:Int)),(0,.string s)] w2 kr<|J.head (.int .i64 (i+1)) (congrArg (Value.int .i64) (IntWalk.i64_in _ om))<|J.run 3 K58_12 [(29,.int .i64 (i+1)),(28,.int .i64 (s.size:Int)),(0,.string s)] w2 kr<|J.run 0 K58_12 [(29,.int .i64 (i+1)),(28,.int .i64 (s.size:Int)),(0,.string s)] w2 kr<|ih1 _ (show((s.size:Int)-(i+1)).toNat<mm1 from by omega) (i+1) w2 om om (name_step hq h0 fk7) S2 rfl
  exact J.head (.bool true) (congrArg Value.bool (by rw[fk7];rfl))<|J.run 5 K58_17 [(2,.bool false)] w2 kr<|J.ret Tryz.f58 [.bool false] func58 ⟨kr,trivial⟩<|hR _ _<|⟨congrArg Value.bool (name_bad h0 om fk7).symm,S2.nil⟩
  refine J.head (.bool false) (congrArg Value.bool (decide_eq_false fk6)) ?_
  have hlet:aL (aA s 0)=true:=letter0 om aS0 (hq 0 om)
  refine J.run 14 K58_18 [(39,.bool (s.toList==(⟨#[115,116,97,116,101,115]⟩:ByteArray).toList)),(38,.string s)] w1 kr ?_
  rcases Bool.eq_false_or_eq_true (s.toList==(⟨#[115,116,97,116,101,115]⟩:ByteArray).toList) with fk8 | fk8
  exact J.head (.bool true) (congrArg Value.bool fk8)<|J.run 7 K58_19 [(2,.bool false)] w1 kr<|J.ret Tryz.f58 [.bool false] func58 ⟨kr,trivial⟩<|hR _ _<|⟨congrArg Value.bool (bC (.inr (.inr (.inr (by simp only[keyB,bZ,eqT,List.any_cons,List.any_nil,Bool.or_false,Bool.or_true,Bool.true_or,Bool.false_or,fk1,fk2,fk3,fk4,fk5,fk6,fk8]))))).symm,S1.nil⟩
  refine J.head (.bool false) (congrArg Value.bool fk8)<|J.run 6 K58_20 [(39,.bool (s.toList==(⟨#[105,110,112,117,116,115]⟩:ByteArray).toList)),(38,.string s)] w1 kr ?_
  rcases Bool.eq_false_or_eq_true (s.toList==(⟨#[105,110,112,117,116,115]⟩:ByteArray).toList) with fk9 | fk9
  exact J.head (.bool true) (congrArg Value.bool fk9)<|J.run 7 K58_21 [(2,.bool false)] w1 kr<|J.ret Tryz.f58 [.bool false] func58 ⟨kr,trivial⟩<|hR _ _<|⟨congrArg Value.bool (bC (.inr (.inr (.inr (by simp only[keyB,bZ,eqT,List.any_cons,List.any_nil,Bool.or_false,Bool.or_true,Bool.true_or,Bool.false_or,fk1,fk2,fk3,fk4,fk5,fk6,fk8,fk9]))))).symm,S1.nil⟩
  refine J.head (.bool false) (congrArg Value.bool fk9)<|J.run 6 K58_22 [(39,.bool (s.toList==(⟨#[115,116,97,114,116]⟩:ByteArray).toList)),(38,.string s)] w1 kr ?_
  rcases Bool.eq_false_or_eq_true (s.toList==(⟨#[115,116,97,114,116]⟩:ByteArray).toList) with fk10 | fk10
  exact J.head (.bool true) (congrArg Value.bool fk10)<|J.run 7 K58_23 [(2,.bool false)] w1 kr<|J.ret Tryz.f58 [.bool false] func58 ⟨kr,trivial⟩<|hR _ _<|⟨congrArg Value.bool (bC (.inr (.inr (.inr (by simp only[keyB,bZ,eqT,List.any_cons,List.any_nil,Bool.or_false,Bool.or_true,Bool.true_or,Bool.false_or,fk1,fk2,fk3,fk4,fk5,fk6,fk8,fk9,fk10]))))).symm,S1.nil⟩
  refine J.head (.bool false) (congrArg Value.bool fk10)<|J.run 6 K58_24 [(39,.bool (s.toList==(⟨#[116,111]⟩:ByteArray).toList)),(38,.string s)] w1 kr ?_
  rcases Bool.eq_false_or_eq_true (s.toList==(⟨#[116,111]⟩:ByteArray).toList) with fk11 | fk11
  exact J.head (.bool true) (congrArg Value.bool fk11)<|J.run 7 K58_25 [(2,.bool false)] w1 kr<|J.ret Tryz.f58 [.bool false] func58 ⟨kr,trivial⟩<|hR _ _<|⟨congrArg Value.bool (bC (.inr (.inr (.inr (by simp only[keyB,bZ,eqT,List.any_cons,List.any_nil,Bool.or_false,Bool.or_true,Bool.true_or,Bool.false_or,fk1,fk2,fk3,fk4,fk5,fk6,fk8,fk9,fk10,fk11]))))).symm,S1.nil⟩
  refine J.head (.bool false) (congrArg Value.bool fk11)<|J.run 6 K58_26 [(39,.bool (s.toList==(⟨#[105,102]⟩:ByteArray).toList)),(38,.string s)] w1 kr ?_
  rcases Bool.eq_false_or_eq_true (s.toList==(⟨#[105,102]⟩:ByteArray).toList) with fk12 | fk12
  exact J.head (.bool true) (congrArg Value.bool fk12)<|J.run 7 K58_27 [(2,.bool false)] w1 kr<|J.ret Tryz.f58 [.bool false] func58 ⟨kr,trivial⟩<|hR _ _<|⟨congrArg Value.bool (bC (.inr (.inr (.inr (by simp only[keyB,bZ,eqT,List.any_cons,List.any_nil,Bool.or_false,Bool.or_true,Bool.true_or,Bool.false_or,fk1,fk2,fk3,fk4,fk5,fk6,fk8,fk9,fk10,fk11,fk12]))))).symm,S1.nil⟩
  refine J.head (.bool false) (congrArg Value.bool fk12)<|J.run 6 K58_28 [(39,.bool (s.toList==(⟨#[110,111,116]⟩:ByteArray).toList)),(38,.string s)] w1 kr ?_
  rcases Bool.eq_false_or_eq_true (s.toList==(⟨#[110,111,116]⟩:ByteArray).toList) with fk13 | fk13
  exact J.head (.bool true) (congrArg Value.bool fk13)<|J.run 7 K58_29 [(2,.bool false)] w1 kr<|J.ret Tryz.f58 [.bool false] func58 ⟨kr,trivial⟩<|hR _ _<|⟨congrArg Value.bool (bC (.inr (.inr (.inr (by simp only[keyB,bZ,eqT,List.any_cons,List.any_nil,Bool.or_false,Bool.or_true,Bool.true_or,Bool.false_or,fk1,fk2,fk3,fk4,fk5,fk6,fk8,fk9,fk10,fk11,fk12,fk13]))))).symm,S1.nil⟩
  refine J.head (.bool false) (congrArg Value.bool fk13)<|J.run 5 K58_30 [(39,.bool (s.toList==(⟨#[97,102,116,101,114]⟩:ByteArray).toList))] w1 kr ?_
  rcases Bool.eq_false_or_eq_true (s.toList==(⟨#[97,102,116,101,114]⟩:ByteArray).toList) with fk14 | fk14
  exact J.head (.bool true) (congrArg Value.bool fk14)<|J.run 5 K58_31 [(2,.bool false)] w1 kr<|J.ret Tryz.f58 [.bool false] func58 ⟨kr,trivial⟩<|hR _ _<|⟨congrArg Value.bool (bC (.inr (.inr (.inr (by simp only[keyB,bZ,eqT,List.any_cons,List.any_nil,Bool.or_false,Bool.or_true,Bool.true_or,Bool.false_or,fk1,fk2,fk3,fk4,fk5,fk6,fk8,fk9,fk10,fk11,fk12,fk13,fk14]))))).symm,S1.nil⟩
  exact J.head (.bool false) (congrArg Value.bool fk14)<|J.run 7 K58_32 [(2,.bool true)] w1 kr<|J.ret Tryz.f58 [.bool true] func58 ⟨kr,trivial⟩<|hR _ _<|⟨congrArg Value.bool (name_yes om om hlet (fun j hj=>hq j om) (by simp only[keyB,bZ,eqT,List.any_cons,List.any_nil,Bool.or_false,Bool.or_true,Bool.true_or,Bool.false_or,fk1,fk2,fk3,fk4,fk5,fk6,fk8,fk9,fk10,fk11,fk12,fk13,fk14])).symm,S1.nil⟩
 exact L58_1 _ 0 w om om (by intro j hj;simp at hj) S0 rfl
 refine J.head (.bool false) (congrArg Value.bool (decide_eq_false fk3))<|J.run 7 K58_33 [(23,.string s),(22,.bool false),(0,.string s)] w kr ?_
 have:=aS s 0
 refine J.ok (OK.byte 24 9 s (0:Int) (aA s 0) kr kr om om (rfl))<|J.run 3 K58_34 [(26,.bool ((aA s 0)==95)),(0,.string s)] w kr ?_
 by_cases fk15:(aA s 0)=95
 exact J.head (.bool true) (congrArg Value.bool (beq_iff_eq.2 fk15))<|J.run 5 K58_35 [(2,.bool false)] w kr<|J.ret Tryz.f58 [.bool false] func58 ⟨kr,trivial⟩<|hR _ _<|⟨congrArg Value.bool (bC (by first | omega | (right;right;left;first | assumption | (simp[aL];omega)))).symm,S0.nil⟩
 refine J.head (.bool false) (congrArg Value.bool (beq_eq_false_iff_ne.2 fk15))<|J.run 11 K58_36 [(29,.int .i64 0),(28,.int .i64 (s.size:Int)),(0,.string s)] w kr ?_
 have L58_2:∀ (mm_:Nat) (i:Int) (w3:World),(0≤i)→(i≤(s.size:Int))→(∀ j,j<(i).toNat→aG (aA s j)=true)→Sep w [] w3→((s.size:Int)-i).toNat=mm_→J prog 58 47 R K58_36 [(29,.int .i64 i),(28,.int .i64 (s.size:Int)),(0,.string s)] w3:=by
  intro mm2
  induction mm2 using Nat.strongRecOn with
  | _ mm2 ih2 =>
  intro i w3 h0 h1 hq S3 hm2
  refine J.run 5 K58_37 [(30,.bool (decide (i<(s.size:Int)))),(29,.int .i64 i),(28,.int .i64 (s.size:Int)),(0,.string s)] w3 kr ?_
  by_cases fk16:i<(s.size:Int)
  refine J.head (.bool true) (congrArg Value.bool (decide_eq_true fk16))<|J.run 13 K58_38 [(33,.int .i64 i),(32,.string s),(29,.int .i64 i),(28,.int .i64 (s.size:Int)),(0,.string s)] w3 kr ?_
  have:=aS s (i).toNat
  refine J.ok (OK.byte 34 9 s i (aA s (i).toNat) kr kr om om (rfl))<|J.callF 35 52 #[.int .u8 (aA s (i).toNat)] hb52 kr (plain_any (aA s (i).toNat) _) ?_
  rintro _ w4 ⟨rfl,T2⟩
  have S4:Sep w [] w4:=S3.trans T2
  clear T2 S3
  refine J.run 2 K58_39 [(36,.bool (!(aG (aA s (i).toNat)))),(29,.int .i64 i),(28,.int .i64 (s.size:Int)),(0,.string s)] w4 kr ?_
  rcases Bool.eq_false_or_eq_true (aG (aA s (i).toNat)) with fk17 | fk17
  exact J.head (.bool false) (congrArg Value.bool (by rw[fk17];rfl))<|J.run 5 K58_40 [(37,.int .i64 (IntKind.wrap .i64 (i+1))),(28,.int .i64 (s.size:Int)),(0,.string s)] w4 kr<|J.head (.int .i64 (i+1)) (congrArg (Value.int .i64) (IntWalk.i64_in _ om))<|J.run 3 K58_36 [(29,.int .i64 (i+1)),(28,.int .i64 (s.size:Int)),(0,.string s)] w4 kr<|J.run 0 K58_36 [(29,.int .i64 (i+1)),(28,.int .i64 (s.size:Int)),(0,.string s)] w4 kr<|ih2 _ (show((s.size:Int)-(i+1)).toNat<mm2 from by omega) (i+1) w4 om om (name_step hq h0 fk17) S4 rfl
  exact J.head (.bool true) (congrArg Value.bool (by rw[fk17];rfl))<|J.run 5 K58_41 [(2,.bool false)] w4 kr<|J.ret Tryz.f58 [.bool false] func58 ⟨kr,trivial⟩<|hR _ _<|⟨congrArg Value.bool (name_bad h0 om fk17).symm,S4.nil⟩
  refine J.head (.bool false) (congrArg Value.bool (decide_eq_false fk16)) ?_
  have hlet:aL (aA s 0)=true:=letter0 om aS0 (hq 0 om)
  refine J.run 14 K58_42 [(39,.bool (s.toList==(⟨#[115,116,97,116,101,115]⟩:ByteArray).toList)),(38,.string s)] w3 kr ?_
  rcases Bool.eq_false_or_eq_true (s.toList==(⟨#[115,116,97,116,101,115]⟩:ByteArray).toList) with fk18 | fk18
  exact J.head (.bool true) (congrArg Value.bool fk18)<|J.run 7 K58_43 [(2,.bool false)] w3 kr<|J.ret Tryz.f58 [.bool false] func58 ⟨kr,trivial⟩<|hR _ _<|⟨congrArg Value.bool (bC (.inr (.inr (.inr (by simp only[keyB,bZ,eqT,List.any_cons,List.any_nil,Bool.or_false,Bool.or_true,Bool.true_or,Bool.false_or,fk1,fk2,fk3,fk15,fk16,fk18]))))).symm,S3.nil⟩
  refine J.head (.bool false) (congrArg Value.bool fk18)<|J.run 6 K58_44 [(39,.bool (s.toList==(⟨#[105,110,112,117,116,115]⟩:ByteArray).toList)),(38,.string s)] w3 kr ?_
  rcases Bool.eq_false_or_eq_true (s.toList==(⟨#[105,110,112,117,116,115]⟩:ByteArray).toList) with fk19 | fk19
  exact J.head (.bool true) (congrArg Value.bool fk19)<|J.run 7 K58_45 [(2,.bool false)] w3 kr<|J.ret Tryz.f58 [.bool false] func58 ⟨kr,trivial⟩<|hR _ _<|⟨congrArg Value.bool (bC (.inr (.inr (.inr (by simp only[keyB,bZ,eqT,List.any_cons,List.any_nil,Bool.or_false,Bool.or_true,Bool.true_or,Bool.false_or,fk1,fk2,fk3,fk15,fk16,fk18,fk19]))))).symm,S3.nil⟩
  refine J.head (.bool false) (congrArg Value.bool fk19)<|J.run 6 K58_46 [(39,.bool (s.toList==(⟨#[115,116,97,114,116]⟩:ByteArray).toList)),(38,.string s)] w3 kr ?_
  rcases Bool.eq_false_or_eq_true (s.toList==(⟨#[115,116,97,114,116]⟩:ByteArray).toList) with fk20 | fk20
  exact J.head (.bool true) (congrArg Value.bool fk20)<|J.run 7 K58_47 [(2,.bool false)] w3 kr<|J.ret Tryz.f58 [.bool false] func58 ⟨kr,trivial⟩<|hR _ _<|⟨congrArg Value.bool (bC (.inr (.inr (.inr (by simp only[keyB,bZ,eqT,List.any_cons,List.any_nil,Bool.or_false,Bool.or_true,Bool.true_or,Bool.false_or,fk1,fk2,fk3,fk15,fk16,fk18,fk19,fk20]))))).symm,S3.nil⟩
  refine J.head (.bool false) (congrArg Value.bool fk20)<|J.run 6 K58_48 [(39,.bool (s.toList==(⟨#[116,111]⟩:ByteArray).toList)),(38,.string s)] w3 kr ?_
  rcases Bool.eq_false_or_eq_true (s.toList==(⟨#[116,111]⟩:ByteArray).toList) with fk21 | fk21
  exact J.head (.bool true) (congrArg Value.bool fk21)<|J.run 7 K58_49 [(2,.bool false)] w3 kr<|J.ret Tryz.f58 [.bool false] func58 ⟨kr,trivial⟩<|hR _ _<|⟨congrArg Value.bool (bC (.inr (.inr (.inr (by simp only[keyB,bZ,eqT,List.any_cons,List.any_nil,Bool.or_false,Bool.or_true,Bool.true_or,Bool.false_or,fk1,fk2,fk3,fk15,fk16,fk18,fk19,fk20,fk21]))))).symm,S3.nil⟩
  refine J.head (.bool false) (congrArg Value.bool fk21)<|J.run 6 K58_50 [(39,.bool (s.toList==(⟨#[105,102]⟩:ByteArray).toList)),(38,.string s)] w3 kr ?_
  rcases Bool.eq_false_or_eq_true (s.toList==(⟨#[105,102]⟩:ByteArray).toList) with fk22 | fk22
  exact J.head (.bool true) (congrArg Value.bool fk22)<|J.run 7 K58_51 [(2,.bool false)] w3 kr<|J.ret Tryz.f58 [.bool false] func58 ⟨kr,trivial⟩<|hR _ _<|⟨congrArg Value.bool (bC (.inr (.inr (.inr (by simp only[keyB,bZ,eqT,List.any_cons,List.any_nil,Bool.or_false,Bool.or_true,Bool.true_or,Bool.false_or,fk1,fk2,fk3,fk15,fk16,fk18,fk19,fk20,fk21,fk22]))))).symm,S3.nil⟩
  refine J.head (.bool false) (congrArg Value.bool fk22)<|J.run 6 K58_52 [(39,.bool (s.toList==(⟨#[110,111,116]⟩:ByteArray).toList)),(38,.string s)] w3 kr ?_
  rcases Bool.eq_false_or_eq_true (s.toList==(⟨#[110,111,116]⟩:ByteArray).toList) with fk23 | fk23
  exact J.head (.bool true) (congrArg Value.bool fk23)<|J.run 7 K58_53 [(2,.bool false)] w3 kr<|J.ret Tryz.f58 [.bool false] func58 ⟨kr,trivial⟩<|hR _ _<|⟨congrArg Value.bool (bC (.inr (.inr (.inr (by simp only[keyB,bZ,eqT,List.any_cons,List.any_nil,Bool.or_false,Bool.or_true,Bool.true_or,Bool.false_or,fk1,fk2,fk3,fk15,fk16,fk18,fk19,fk20,fk21,fk22,fk23]))))).symm,S3.nil⟩
  refine J.head (.bool false) (congrArg Value.bool fk23)<|J.run 5 K58_54 [(39,.bool (s.toList==(⟨#[97,102,116,101,114]⟩:ByteArray).toList))] w3 kr ?_
  rcases Bool.eq_false_or_eq_true (s.toList==(⟨#[97,102,116,101,114]⟩:ByteArray).toList) with fk24 | fk24
  exact J.head (.bool true) (congrArg Value.bool fk24)<|J.run 5 K58_55 [(2,.bool false)] w3 kr<|J.ret Tryz.f58 [.bool false] func58 ⟨kr,trivial⟩<|hR _ _<|⟨congrArg Value.bool (bC (.inr (.inr (.inr (by simp only[keyB,bZ,eqT,List.any_cons,List.any_nil,Bool.or_false,Bool.or_true,Bool.true_or,Bool.false_or,fk1,fk2,fk3,fk15,fk16,fk18,fk19,fk20,fk21,fk22,fk23,fk24]))))).symm,S3.nil⟩
  exact J.head (.bool false) (congrArg Value.bool fk24)<|J.run 7 K58_56 [(2,.bool true)] w3 kr<|J.ret Tryz.f58 [.bool true] func58 ⟨kr,trivial⟩<|hR _ _<|⟨congrArg Value.bool (name_yes om om hlet (fun j hj=>hq j om) (by simp only[keyB,bZ,eqT,List.any_cons,List.any_nil,Bool.or_false,Bool.or_true,Bool.true_or,Bool.false_or,fk1,fk2,fk3,fk15,fk16,fk18,fk19,fk20,fk21,fk22,fk23,fk24])).symm,S3.nil⟩
 exact L58_2 _ 0 w om om (by intro j hj;simp at hj) S0 rfl

theorem hb64:aJ prog 64:=fun _ _=>by kernel_rfl
def K64_0:=adv 11 [] (aY Tryz.f64)
def K64_1:=adv 16 [true] K64_0
def K64_2:=adv 5 [] K64_0
def K64_3:=adv 11 [true] K64_2
def K64_4:=adv 1 [] K64_2
def K64_5:=adv 3 [] (aK (aK K64_4))
def K64_6:=adv 9 [false] K64_5
def K64_7:=adv 8 [] K64_6
def K64_8:=adv 8 [true] K64_7
def K64_9:=adv 2 [] (aK (aK K64_8))
def K64_10:=adv 6 [false] K64_9
def K64_11:=adv 5 [true] K64_9
def K64_12:=adv 4 [false] K64_7
def K64_13:=adv 1 [] (aK K64_12)
def K64_14:=adv 3 [] (aK K64_13)
def K64_15:=adv 5 [true] K64_5
set_option maxRecDepth 20000 in
set_option maxHeartbeats 20000000 in
theorem rname_any (s:ByteArray) (w:World) (hs:s.size≤9223372036854775807):Ret prog 64 #[.string s] w (fun v w'=>v=.bool (aV s)∧Sep w [] w'):=by
 have S0:=Sep.refl w
 refine Ret.named fun R hR=>Ret.of_J (N:=33) [(0,.string s)] func64 rfl rfl (Nat.le_of_ble_eq_true kr) kr<|J.run 11 K64_0 [(7,.bool (decide ((s.size:Int)<1))),(0,.string s)] w kr ?_
 by_cases fk1:(s.size:Int)<1
 exact J.head (.bool true) (congrArg Value.bool (decide_eq_true fk1))<|J.run 16 K64_1 [(2,.bool false)] w kr<|J.ret Tryz.f64 [.bool false] func64 ⟨kr,trivial⟩<|hR _ _<|⟨congrArg Value.bool (bC (by first | omega | (right;right;left;first | assumption | (simp[aL];omega)))).symm,S0.nil⟩
 refine J.head (.bool false) (congrArg Value.bool (decide_eq_false fk1))<|J.run 5 K64_2 [(12,.bool (decide ((s.size:Int)>24))),(0,.string s)] w kr ?_
 by_cases fk2:(s.size:Int)>24
 exact J.head (.bool true) (congrArg Value.bool (decide_eq_true fk2))<|J.run 11 K64_3 [(2,.bool false)] w kr<|J.ret Tryz.f64 [.bool false] func64 ⟨kr,trivial⟩<|hR _ _<|⟨congrArg Value.bool (bC (by first | omega | (right;right;left;first | assumption | (simp[aL];omega)))).symm,S0.nil⟩
 refine J.head (.bool false) (congrArg Value.bool (decide_eq_false fk2))<|J.run 1 K64_4 [(13,.string s),(12,.bool false),(0,.string s)] w kr ?_
 have:=aS s 0
 refine J.ok (OK.byte 14 9 s (0:Int) (aA s 0) kr kr om om (rfl))<|J.callF 15 73 #[.int .u8 (aA s 0)] hb73 kr (letter_any (aA s 0) _) ?_
 rintro _ w1 ⟨rfl,T1⟩
 have S1:Sep w [] w1:=S0.trans T1
 clear T1
 refine J.run 3 K64_5 [(17,.bool (!(aL (aA s 0)))),(0,.string s)] w1 kr ?_
 rcases Bool.eq_false_or_eq_true (aL (aA s 0)) with fk3 | fk3
 refine J.head (.bool false) (congrArg Value.bool (by rw[fk3];rfl))<|J.run 9 K64_6 [(3,.int .i64 0),(0,.string s)] w1 kr ?_
 have L64_1:∀ (mm_:Nat) (i:Int) (w2:World),(0≤i)→(i≤(s.size:Int))→(∀ j,j<(i).toNat→aG (aA s j)=true)→Sep w [] w2→((s.size:Int)-i).toNat=mm_→J prog 64 33 R K64_6 [(3,.int .i64 i),(0,.string s)] w2:=by
  intro mm1
  induction mm1 using Nat.strongRecOn with
  | _ mm1 ih1 =>
  intro i w2 h0 h1 hq S2 hm1
  have hlet:aL (aA s 0)=true:=fk3
  refine J.run 8 K64_7 [(21,.bool (decide (i<(s.size:Int)))),(3,.int .i64 i),(0,.string s)] w2 kr ?_
  by_cases fk4:i<(s.size:Int)
  refine J.head (.bool true) (congrArg Value.bool (decide_eq_true fk4))<|J.run 8 K64_8 [(25,.int .i64 i),(24,.string s),(3,.int .i64 i),(0,.string s)] w2 kr ?_
  have:=aS s (i).toNat
  refine J.ok (OK.byte 26 9 s i (aA s (i).toNat) kr kr om om (rfl))<|J.callF 27 60 #[.int .u8 (aA s (i).toNat)] hb60 kr (part_any (aA s (i).toNat) _) ?_
  rintro _ w3 ⟨rfl,T2⟩
  have S3:Sep w [] w3:=S2.trans T2
  clear T2 S2
  refine J.run 2 K64_9 [(28,.bool (!(aG (aA s (i).toNat)))),(3,.int .i64 i),(0,.string s)] w3 kr ?_
  rcases Bool.eq_false_or_eq_true (aG (aA s (i).toNat)) with fk5 | fk5
  exact J.head (.bool false) (congrArg Value.bool (by rw[fk5];rfl))<|J.run 6 K64_10 [(23,.int .i64 (IntKind.wrap .i64 (i+1))),(0,.string s)] w3 kr<|J.head (.int .i64 (i+1)) (congrArg (Value.int .i64) (IntWalk.i64_in _ om))<|J.run 3 K64_6 [(3,.int .i64 (i+1)),(0,.string s)] w3 kr<|J.run 0 K64_6 [(3,.int .i64 (i+1)),(0,.string s)] w3 kr<|ih1 _ (show((s.size:Int)-(i+1)).toNat<mm1 from by omega) (i+1) w3 om om (name_step hq h0 fk5) S3 rfl
  exact J.head (.bool true) (congrArg Value.bool (by rw[fk5];rfl))<|J.run 5 K64_11 [(2,.bool false)] w3 kr<|J.ret Tryz.f64 [.bool false] func64 ⟨kr,trivial⟩<|hR _ _<|⟨congrArg Value.bool (name_bad h0 om fk5).symm,S3.nil⟩
  refine J.head (.bool false) (congrArg Value.bool (decide_eq_false fk4))<|J.run 4 K64_12 [(0,.string s)] w2 kr<|J.newSlice S2 29 7 [.string ⟨#[115,116,97,116,101,115]⟩,.string ⟨#[105,110,112,117,116,115]⟩,.string ⟨#[115,116,97,114,116]⟩,.string ⟨#[116,111]⟩,.string ⟨#[105,102]⟩,.string ⟨#[110,111,116]⟩,.string ⟨#[97,102,116,101,114]⟩] 9 kr ?_
  intro b1 w4 S4
  refine J.run 1 K64_13 [(30,.string s),(29,.slice (some ⟨b1,0,none⟩) 7 7)] w4 kr ?_
  have hkw:Ones Value.string w4 (some ⟨b1,0,none⟩) 7 bZ:=⟨rfl,aU (S4.nth 0 rfl)⟩
  refine J.callF 31 63 #[.slice (some ⟨b1,0,none⟩) 7 7,.string s] hb63 kr (br (some ⟨b1,0,none⟩) 7 7 bZ s _ hkw om) ?_
  rintro _ w5 ⟨rfl,T3⟩
  have S5:Sep w [box b1 [.string ⟨#[115,116,97,116,101,115]⟩,.string ⟨#[105,110,112,117,116,115]⟩,.string ⟨#[115,116,97,114,116]⟩,.string ⟨#[116,111]⟩,.string ⟨#[105,102]⟩,.string ⟨#[110,111,116]⟩,.string ⟨#[97,102,116,101,114]⟩] 9] w5:=S4.trans T3
  clear T3 S4
  refine J.run 3 K64_14 [(2,.bool (decide ((ap (eqT s) bZ)<0)))] w5 kr<|J.ret Tryz.f64 [.bool (decide ((ap (eqT s) bZ)<0))] func64 ⟨kr,trivial⟩<|hR _ _ ?_
  have hk:decide (ap (eqT s) bZ<0)=aV s:=name_last om om hlet (fun j hj=>hq j om)
  exact⟨congrArg Value.bool hk,S5.nil⟩
 exact L64_1 _ 0 w1 om om (by intro j hj;simp at hj) S1 rfl
 exact J.head (.bool true) (congrArg Value.bool (by rw[fk3];rfl))<|J.run 5 K64_15 [(2,.bool false)] w1 kr<|J.ret Tryz.f64 [.bool false] func64 ⟨kr,trivial⟩<|hR _ _<|⟨congrArg Value.bool (bC (by first | omega | (right;right;left;first | assumption | (simp[aL];omega)))).symm,S1.nil⟩

theorem any_of_index {α:Type} {q:α→Bool} {l:List α} (h:ap q l≥0):l.any q=true:=by rw[← bQ];exact decide_eq_true h
theorem cw {α:Type} {q:α→Bool} {l:List α} (h:¬ ap q l≥0):l.any q=false:=by rw[← bQ];exact decide_eq_false h
theorem hb45:aJ prog 45:=fun _ _=>by kernel_rfl
def K45_0:=adv 13 [] (aY Tryz.f45)
def K45_1:=adv 5 [] K45_0
def K45_2:=adv 7 [true] K45_1
def K45_3:=adv 6 [] (aK (aK K45_2))
def K45_4:=adv 2 [] (aK K45_3)
def K45_5:=adv 2 [] K45_4
def K45_6:=adv 1 [] (aK K45_5)
def K45_7:=adv 2 [] (aK K45_6)
def K45_8:=adv 5 [true] K45_7
def K45_9:=adv 5 [false] K45_7
def K45_10:=adv 12 [true] K45_4
def K45_11:=adv 6 [false] K45_1
set_option maxRecDepth 20000 in
set_option maxHeartbeats 20000000 in
theorem names_any (la:Option Addr) (len cap:Nat) (l:List ByteArray) (w:World) (hI:Ones Value.string w la len l) (hlen:len≤9223372036854775807) (hcp:len≤cap∧cap≤9223372036854775807) (hsz:∀ b ∈ l,b.size≤9223372036854775807):Ret prog 45 #[.slice la len cap] w (fun v w'=>v=.bool (bM l)∧Sep w [] w'):=by
 have S0:=Sep.refl w
 refine Ret.named fun R hR=>Ret.of_J (N:=23) [(0,.slice la len cap)] func45 rfl rfl (Nat.le_of_ble_eq_true kr) kr<|J.run 13 K45_0 [(7,.int .i64 0),(6,.int .i64 (len:Int)),(5,.slice la len cap),(0,.slice la len cap)] w kr ?_
 have L45_1:∀ (mm_:Nat) (i:Int) (w1:World),(0≤i)→(i≤(len:Int))→(∀ j,j<(i).toNat→aV (l.getD j ByteArray.empty)=true∧(l.take j).any (eqT (l.getD j ByteArray.empty))=false)→Sep w [] w1→((len:Int)-i).toNat=mm_→J prog 45 23 R K45_0 [(7,.int .i64 i),(6,.int .i64 (len:Int)),(5,.slice la len cap),(0,.slice la len cap)] w1:=by
  intro mm1
  induction mm1 using Nat.strongRecOn with
  | _ mm1 ih1 =>
  intro i w1 h0 h1 hq S1 hm1
  refine J.run 5 K45_1 [(8,.bool (decide (i<(len:Int)))),(7,.int .i64 i),(6,.int .i64 (len:Int)),(5,.slice la len cap),(0,.slice la len cap)] w1 kr ?_
  by_cases fk1:i<(len:Int)
  refine J.head (.bool true) (congrArg Value.bool (decide_eq_true fk1))<|J.run 7 K45_2 [(9,.int .i64 i),(7,.int .i64 i),(6,.int .i64 (len:Int)),(5,.slice la len cap),(0,.slice la len cap)] w1 kr ?_
  obtain ⟨p1,hp1,hc1⟩:=hI.at ByteArray.empty (i).toNat om
  have hel1:=bu hsz ByteArray.empty (n:=(i).toNat) (by have:=hI.len_eq;omega)
  refine J.ok (OK.index 10 22 1 la p1 len (i).toNat i (p1.add (i).toNat) kr kr hp1 om om nO)<|J.ok (OK.ldCell 11 9 (p1.add (i).toNat) (.string (l.getD (i).toNat ByteArray.empty)) kr kr (S1.cell hc1))<|J.run 6 K45_3 [(12,.string (l.getD (i).toNat ByteArray.empty)),(4,.string (l.getD (i).toNat ByteArray.empty)),(3,.int .i64 i),(7,.int .i64 i),(6,.int .i64 (len:Int)),(5,.slice la len cap),(0,.slice la len cap)] w1 kr<|J.callF 13 58 #[.string (l.getD (i).toNat ByteArray.empty)] hb58 kr (name_any (l.getD (i).toNat ByteArray.empty) _ (by first | omega | decide)) ?_
  rintro _ w2 ⟨rfl,T1⟩
  have S2:Sep w [] w2:=S1.trans T1
  clear T1 S1
  refine J.run 2 K45_4 [(15,.bool (!(aV (l.getD (i).toNat ByteArray.empty)))),(4,.string (l.getD (i).toNat ByteArray.empty)),(3,.int .i64 i),(7,.int .i64 i),(6,.int .i64 (len:Int)),(5,.slice la len cap),(0,.slice la len cap)] w2 kr ?_
  rcases Bool.eq_false_or_eq_true (aV (l.getD (i).toNat ByteArray.empty)) with fk2 | fk2
  refine J.head (.bool false) (congrArg Value.bool (by rw[fk2];rfl))<|J.run 2 K45_5 [(17,.int .i64 i),(16,.slice la len cap),(15,.bool false),(4,.string (l.getD (i).toNat ByteArray.empty)),(7,.int .i64 i),(6,.int .i64 (len:Int)),(5,.slice la len cap),(0,.slice la len cap)] w2 kr<|J.ok (OK.slice 18 22 1 la len cap none (some (.int .i64 i)) 0 ((i).toNat) kr kr (.inl ⟨rfl,rfl⟩) (.inr ⟨_,_,rfl,om⟩) oz oz)<|J.head (.slice la ((i).toNat) cap) (by rw[subA_zero];try rfl)<|J.run 1 K45_6 [(19,.string (l.getD (i).toNat ByteArray.empty)),(18,.slice la ((i).toNat) cap),(15,.bool false),(7,.int .i64 i),(6,.int .i64 (len:Int)),(5,.slice la len cap),(0,.slice la len cap)] w2 kr<|J.callF 20 56 #[.slice la ((i).toNat) cap,.string (l.getD (i).toNat ByteArray.empty)] hb56 kr (containsS la ((i).toNat) cap (l.take ((i).toNat)) (l.getD (i).toNat ByteArray.empty) _ ((hI.sep S2).take ((i).toNat) oz) oz) ?_
  rintro _ w3 ⟨rfl,T2⟩
  have S3:Sep w [] w3:=S2.trans T2
  clear T2 S2
  refine J.run 2 K45_7 [(21,.bool (List.any (l.take ((i).toNat)) (eqT (l.getD (i).toNat ByteArray.empty)))),(7,.int .i64 i),(6,.int .i64 (len:Int)),(5,.slice la len cap),(0,.slice la len cap)] w3 kr ?_
  rcases Bool.eq_false_or_eq_true (List.any (l.take ((i).toNat)) (eqT (l.getD (i).toNat ByteArray.empty))) with fk3 | fk3
  exact J.head (.bool true) (congrArg Value.bool fk3)<|J.run 5 K45_8 [(2,.bool false)] w3 kr<|J.ret Tryz.f45 [.bool false] func45 ⟨kr,trivial⟩<|hR _ _<|⟨congrArg Value.bool (names_bad h0 (by have:=hI.len_eq;omega) (.inr fk3)).symm,S3.nil⟩
  exact J.head (.bool false) (congrArg Value.bool fk3)<|J.run 5 K45_9 [(22,.int .i64 (IntKind.wrap .i64 (i+1))),(6,.int .i64 (len:Int)),(5,.slice la len cap),(0,.slice la len cap)] w3 kr<|J.head (.int .i64 (i+1)) (congrArg (Value.int .i64) (IntWalk.i64_in _ om))<|J.run 3 K45_0 [(7,.int .i64 (i+1)),(6,.int .i64 (len:Int)),(5,.slice la len cap),(0,.slice la len cap)] w3 kr<|J.run 0 K45_0 [(7,.int .i64 (i+1)),(6,.int .i64 (len:Int)),(5,.slice la len cap),(0,.slice la len cap)] w3 kr<|ih1 _ (show((len:Int)-(i+1)).toNat<mm1 from by omega) (i+1) w3 om om (names_step hq h0 fk2 fk3) S3 rfl
  exact J.head (.bool true) (congrArg Value.bool (by rw[fk2];rfl))<|J.run 12 K45_10 [(2,.bool false)] w2 kr<|J.ret Tryz.f45 [.bool false] func45 ⟨kr,trivial⟩<|hR _ _<|⟨congrArg Value.bool (names_bad h0 (by have:=hI.len_eq;omega) (.inl fk2)).symm,S2.nil⟩
  exact J.head (.bool false) (congrArg Value.bool (decide_eq_false fk1))<|J.run 6 K45_11 [(2,.bool true)] w1 kr<|J.ret Tryz.f45 [.bool true] func45 ⟨kr,trivial⟩<|hR _ _<|⟨congrArg Value.bool (names_yes fun j hj=>hq j (by have:=hI.len_eq;omega)).symm,S1.nil⟩
 exact L45_1 _ 0 w om om (by intro j hj;simp at hj) S0 rfl

theorem hb37:aJ prog 37:=fun _ _=>by kernel_rfl
def K37_0:=adv 11 [] (aY Tryz.f37)
def K37_1:=adv 8 [] K37_0
def K37_2:=adv 5 [true] K37_1
def K37_3:=adv 5 [true] (ci K37_2)
def K37_4:=adv 6 [false] (ci K37_2)
def K37_5:=adv 5 [true] (ci K37_2)
def K37_6:=adv 6 [false] K37_1
set_option maxRecDepth 20000 in
set_option maxHeartbeats 20000000 in
theorem rnames_any (la:Option Addr) (len cap:Nat) (l:List ByteArray) (w:World) (hI:Ones Value.string w la len l) (hlen:len≤9223372036854775807) (hcp:len≤cap∧cap≤9223372036854775807) (hsz:∀ b ∈ l,b.size≤9223372036854775807):Ret prog 37 #[.slice la len cap] w (fun v w'=>v=.bool (bM l)∧Sep w [] w'):=by
 have S0:=Sep.refl w
 refine Ret.named fun R hR=>Ret.of_J (N:=27) [(0,.slice la len cap)] func37 rfl rfl (Nat.le_of_ble_eq_true kr) kr<|J.run 11 K37_0 [(3,.int .i64 0),(0,.slice la len cap)] w kr ?_
 have L37_1:∀ (mm_:Nat) (i:Int) (w1:World),(0≤i)→(i≤(len:Int))→(∀ j,j<(i).toNat→aV (l.getD j ByteArray.empty)=true∧(l.take j).any (eqT (l.getD j ByteArray.empty))=false)→Sep w [] w1→((len:Int)-i).toNat=mm_→J prog 37 27 R K37_0 [(3,.int .i64 i),(0,.slice la len cap)] w1:=by
  intro mm1
  induction mm1 using Nat.strongRecOn with
  | _ mm1 ih1 =>
  intro i w1 h0 h1 hq S1 hm1
  refine J.run 8 K37_1 [(7,.bool (decide (i<(len:Int)))),(3,.int .i64 i),(0,.slice la len cap)] w1 kr ?_
  by_cases fk1:i<(len:Int)
  refine J.head (.bool true) (congrArg Value.bool (decide_eq_true fk1))<|J.run 5 K37_2 [(3,.int .i64 i),(0,.slice la len cap)] w1 kr ?_
  rcases Bool.eq_false_or_eq_true (aV (l.getD (i).toNat ByteArray.empty)) with fk2 | fk2
  obtain ⟨p1,hp1,hc1⟩:=hI.at ByteArray.empty (i).toNat om
  have hel1:=bu hsz ByteArray.empty (n:=(i).toNat) (by have:=hI.len_eq;omega)
  refine J.drawPlan (fun w_=>Sep w [] w_) [(0,true),(1,true),(2,true),(3,true),(4,false),(5,true),(6,true),(7,true),(8,true),(9,true),(10,true),(11,true),(12,true),(13,true),(14,false),(15,true),(16,true)] S1 Tryz.mixed kr (bj (T:=[(0,some 10,1),(0,some 11,8),(3,some 12,3072),(4,some 13,4096),(8,some 14,8192),(16,some 15,16384),(48,some 16,32768),(64,some 17,65537),(64,some 18,65544),(448,some 19,458752),(64,some 20,65537),(64,some 21,65544),(3136,some 22,3211264),(4160,some 23,4259840),(8768,some 24,8978432),(16448,some 25,16842752),(32832,some 26,33619968)]) kr kr) ?_
  intro w2 S2
  refine PB.mk S2<|PL.take 0 10 (.slice la len cap) (fun _ _=>kr)<|PL.take 1 11 (.int .i64 i) (fun _ _=>kr)<|PL.takeOK 2 (fun w_ S_=>OK.index 12 22 1 la p1 len (i).toNat i (p1.add (i).toNat) kr kr hp1 om om nO) rfl<|PL.takeOK 3 (fun w_ S_=>OK.ldCell 13 9 (p1.add (i).toNat) (.string (l.getD (i).toNat ByteArray.empty)) kr kr (S_.cell hc1)) rfl<|PL.callF 14 64 #[.string (l.getD (i).toNat ByteArray.empty)] hb64 kr (rname_any (l.getD (i).toNat ByteArray.empty) _ (by first | omega | decide)) ?_
  rintro _ w3 ⟨rfl,T1⟩
  have S3:Sep w [] w3:=S2.trans T1
  clear T1 S2
  refine PB.head (.bool true) (congrArg Value.bool fk2)<|PB.mk S3<|PL.take 5 15 (.bool false) (fun _ _=>kr)<|PL.take 6 16 (.bool false) (fun _ _=>kr)<|PL.take 7 17 (.slice la len cap) (fun _ _=>kr)<|PL.take 8 18 (.int .i64 i) (fun _ _=>kr)<|PL.takeOK 9 (fun w_ S_=>OK.slice 19 22 1 la len cap none (some (.int .i64 i)) 0 ((i).toNat) kr kr (.inl ⟨rfl,rfl⟩) (.inr ⟨_,_,rfl,om⟩) oz oz) rfl<|PL.head (.slice la ((i).toNat) cap) (by rw[subA_zero];try rfl)<|PL.take 10 20 (.slice la len cap) (fun _ _=>kr)<|PL.take 11 21 (.int .i64 i) (fun _ _=>kr)<|PL.takeOK 12 (fun w_ S_=>OK.index 22 22 1 la p1 len (i).toNat i (p1.add (i).toNat) kr kr hp1 om om nO) rfl ?_
  refine PL.takeOK 13 (fun w_ S_=>OK.ldCell 23 9 (p1.add (i).toNat) (.string (l.getD (i).toNat ByteArray.empty)) kr kr (S_.cell hc1)) rfl<|PL.callF 24 63 #[.slice la ((i).toNat) cap,.string (l.getD (i).toNat ByteArray.empty)] hb63 kr (br la ((i).toNat) cap (l.take ((i).toNat)) (l.getD (i).toNat ByteArray.empty) _ ((hI.sep S3).take ((i).toNat) oz) oz) ?_
  rintro _ w4 ⟨rfl,T2⟩
  have S4:Sep w [] w4:=S3.trans T2
  clear T2 S3
  refine PB.mk S4<|PL.take 15 25 (.bool (decide ((ap (eqT (l.getD (i).toNat ByteArray.empty)) (l.take ((i).toNat)))≥0))) (fun _ _=>kr)<|PL.take 16 26 (.bool (decide ((ap (eqT (l.getD (i).toNat ByteArray.empty)) (l.take ((i).toNat)))≥0))) (fun _ _=>kr)<|PL.done<|J.run 0 (ci K37_2) [(26,.bool (decide ((ap (eqT (l.getD (i).toNat ByteArray.empty)) (l.take ((i).toNat)))≥0))),(3,.int .i64 i),(0,.slice la len cap)] w4 kr ?_
  by_cases fk3:(ap (eqT (l.getD (i).toNat ByteArray.empty)) (l.take ((i).toNat)))≥0
  exact J.head (.bool true) (congrArg Value.bool (decide_eq_true fk3))<|J.run 5 K37_3 [(2,.bool false)] w4 kr<|J.ret Tryz.f37 [.bool false] func37 ⟨kr,trivial⟩<|hR _ _<|⟨congrArg Value.bool (names_bad h0 (by have:=hI.len_eq;omega) (.inr (any_of_index fk3))).symm,S4.nil⟩
  exact J.head (.bool false) (congrArg Value.bool (decide_eq_false fk3))<|J.run 6 K37_4 [(9,.int .i64 (IntKind.wrap .i64 (i+1))),(0,.slice la len cap)] w4 kr<|J.head (.int .i64 (i+1)) (congrArg (Value.int .i64) (IntWalk.i64_in _ om))<|J.run 3 K37_0 [(3,.int .i64 (i+1)),(0,.slice la len cap)] w4 kr<|J.run 0 K37_0 [(3,.int .i64 (i+1)),(0,.slice la len cap)] w4 kr<|ih1 _ (show((len:Int)-(i+1)).toNat<mm1 from by omega) (i+1) w4 om om (names_step hq h0 fk2 (cw fk3)) S4 rfl
  obtain ⟨p2,hp2,hc2⟩:=hI.at ByteArray.empty (i).toNat om
  have hel2:=bu hsz ByteArray.empty (n:=(i).toNat) (by have:=hI.len_eq;omega)
  refine J.drawPlan (fun w_=>Sep w [] w_) [(0,true),(1,true),(2,true),(3,true),(4,false),(5,true),(6,true),(7,true),(8,true),(9,true),(10,true),(11,true),(12,true),(13,true),(14,true),(15,true),(16,true)] S1 Tryz.mixed kr (bj (T:=[(0,some 10,1),(0,some 11,8),(3,some 12,3072),(4,some 13,4096),(8,some 14,8192),(16,some 15,16384),(48,some 16,32768),(64,some 17,65537),(64,some 18,65544),(448,some 19,458752),(64,some 20,65537),(64,some 21,65544),(3136,some 22,3211264),(4160,some 23,4259840),(8768,some 24,8978432),(16448,some 25,16842752),(32832,some 26,33619968)]) kr kr) ?_
  intro w5 S5
  refine PB.mk S5<|PL.take 0 10 (.slice la len cap) (fun _ _=>kr)<|PL.take 1 11 (.int .i64 i) (fun _ _=>kr)<|PL.takeOK 2 (fun w_ S_=>OK.index 12 22 1 la p2 len (i).toNat i (p2.add (i).toNat) kr kr hp2 om om nO) rfl<|PL.takeOK 3 (fun w_ S_=>OK.ldCell 13 9 (p2.add (i).toNat) (.string (l.getD (i).toNat ByteArray.empty)) kr kr (S_.cell hc2)) rfl<|PL.callF 14 64 #[.string (l.getD (i).toNat ByteArray.empty)] hb64 kr (rname_any (l.getD (i).toNat ByteArray.empty) _ (by first | omega | decide)) ?_
  rintro _ w6 ⟨rfl,T3⟩
  have S6:Sep w [] w6:=S5.trans T3
  clear T3 S5
  refine PB.head (.bool false) (congrArg Value.bool fk2)<|PB.mk S6<|PL.take 5 15 (.bool true) (fun _ _=>kr)<|PL.take 6 16 (.bool true) (fun _ _=>kr)<|PL.takePass 7 (some 17) kr<|PL.takePass 8 (some 18) kr<|PL.takePass 9 (some 19) kr<|PL.takePass 10 (some 20) kr<|PL.takePass 11 (some 21) kr<|PL.takePass 12 (some 22) kr<|PL.takePass 13 (some 23) kr ?_
  exact PL.takePass 14 (some 24) kr<|PL.takePass 15 (some 25) kr<|PL.take 16 26 (.bool true) (fun _ _=>kr)<|PL.done<|J.run 0 (ci K37_2) [(26,.bool true),(3,.int .i64 i),(0,.slice la len cap)] w6 kr<|J.run 5 K37_5 [(2,.bool false)] w6 kr<|J.ret Tryz.f37 [.bool false] func37 ⟨kr,trivial⟩<|hR _ _<|⟨congrArg Value.bool (names_bad h0 (by have:=hI.len_eq;omega) (.inl fk2)).symm,S6.nil⟩
  exact J.head (.bool false) (congrArg Value.bool (decide_eq_false fk1))<|J.run 6 K37_6 [(2,.bool true)] w1 kr<|J.ret Tryz.f37 [.bool true] func37 ⟨kr,trivial⟩<|hR _ _<|⟨congrArg Value.bool (names_yes fun j hj=>hq j (by have:=hI.len_eq;omega)).symm,S1.nil⟩
 exact L37_1 _ 0 w om om (by intro j hj;simp at hj) S0 rfl

theorem hb67:aJ prog 67:=fun _ _=>by kernel_rfl
def K67_0:=adv 13 [] (aY Tryz.f67)
def K67_1:=adv 5 [] K67_0
def K67_2:=adv 14 [true] K67_1
def K67_3:=adv 1 [] (aK (aK (aK K67_2)))
def K67_4:=adv 6 [true] K67_3
def K67_5:=adv 5 [false] K67_3
def K67_6:=adv 6 [false] K67_1
set_option maxRecDepth 20000 in
set_option maxHeartbeats 20000000 in
theorem indexMv (la:Option Addr) (len cap:Nat) (l:List Mv) (g:FuncId) (c1:Value) (c2:Value) (q:Mv→Bool) (w:World) (hI:Recs mvE 5 w la len l) (hlen:len≤9223372036854775807) (hbg:aJ prog g) (hcall:∀ (i:Nat) (w2:World),i<l.length→Sep w [] w2→Ret prog g #[.agg #[.int .i64 ((l.getD i (⟨0,0,0,0,0⟩:Mv)).aC),.int .i64 ((l.getD i (⟨0,0,0,0,0⟩:Mv)).gTo),.int .i64 ((l.getD i (⟨0,0,0,0,0⟩:Mv)).gOn),.int .i64 ((l.getD i (⟨0,0,0,0,0⟩:Mv)).aN),.int .i64 ((l.getD i (⟨0,0,0,0,0⟩:Mv)).ax)],c1,c2] w2 (fun v w3=>v=.bool (q (l.getD i (⟨0,0,0,0,0⟩:Mv)))∧Sep w2 [] w3)):Ret prog 67 #[.slice la len cap,.func (.func g) #[] #[c1,c2]] w (fun v w'=>v=.int .i64 (ap q l)∧Sep w [] w'):=by
 have S0:=Sep.refl w
 refine Ret.named fun R hR=>Ret.of_J (N:=19) [(0,.slice la len cap),(1,.func (.func g) #[] #[c1,c2])] func67 rfl rfl (Nat.le_of_ble_eq_true kr) kr<|J.run 13 K67_0 [(8,.int .i64 0),(7,.int .i64 (len:Int)),(0,.slice la len cap),(1,.func (.func g) #[] #[c1,c2])] w kr ?_
 have L67_1:∀ (mm_:Nat) (i:Int) (w1:World),(0≤i)→(i≤(len:Int))→(∀ j,j<(i).toNat→q (l.getD j (⟨0,0,0,0,0⟩:Mv))=false)→Sep w [] w1→((len:Int)-i).toNat=mm_→J prog 67 19 R K67_0 [(8,.int .i64 i),(7,.int .i64 (len:Int)),(0,.slice la len cap),(1,.func (.func g) #[] #[c1,c2])] w1:=by
  intro mm1
  induction mm1 using Nat.strongRecOn with
  | _ mm1 ih1 =>
  intro i w1 h0 h1 hq S1 hm1
  refine J.run 5 K67_1 [(9,.bool (decide (i<(len:Int)))),(8,.int .i64 i),(7,.int .i64 (len:Int)),(0,.slice la len cap),(1,.func (.func g) #[] #[c1,c2])] w1 kr ?_
  by_cases fk1:i<(len:Int)
  refine J.head (.bool true) (congrArg Value.bool (decide_eq_true fk1))<|J.run 14 K67_2 [(13,.int .i64 i),(12,.slice la len cap),(11,.func (.func g) #[] #[c1,c2]),(5,.int .i64 i),(8,.int .i64 i),(7,.int .i64 (len:Int)),(0,.slice la len cap),(1,.func (.func g) #[] #[c1,c2])] w1 kr ?_
  obtain ⟨p1,hp1,hc1⟩:=hI.at (⟨0,0,0,0,0⟩:Mv) (i).toNat om
  refine J.ok (OK.index 14 23 5 la p1 len (i).toNat i (p1.add ((i).toNat*5)) kr kr hp1 om om rfl)<|J.ok (OK.ldCells 15 57 (p1.add ((i).toNat*5)) [.int .i64 ((l.getD (i).toNat (⟨0,0,0,0,0⟩:Mv)).aC),.int .i64 ((l.getD (i).toNat (⟨0,0,0,0,0⟩:Mv)).gTo),.int .i64 ((l.getD (i).toNat (⟨0,0,0,0,0⟩:Mv)).gOn),.int .i64 ((l.getD (i).toNat (⟨0,0,0,0,0⟩:Mv)).aN),.int .i64 ((l.getD (i).toNat (⟨0,0,0,0,0⟩:Mv)).ax)] kr kr kr (fun j_ v_ hj_=>S1.cell (hc1 j_ v_ hj_)))<|J.callF 16 g #[.agg #[.int .i64 ((l.getD (i).toNat (⟨0,0,0,0,0⟩:Mv)).aC),.int .i64 ((l.getD (i).toNat (⟨0,0,0,0,0⟩:Mv)).gTo),.int .i64 ((l.getD (i).toNat (⟨0,0,0,0,0⟩:Mv)).gOn),.int .i64 ((l.getD (i).toNat (⟨0,0,0,0,0⟩:Mv)).aN),.int .i64 ((l.getD (i).toNat (⟨0,0,0,0,0⟩:Mv)).ax)],c1,c2] hbg kr (hcall (i).toNat w1 (by have:=hI.len_eq;omega) S1.nil) ?_
  rintro _ w2 ⟨rfl,T1⟩
  have S2:Sep w [] w2:=S1.trans T1
  clear T1 S1
  refine J.run 1 K67_3 [(16,.bool (q (l.getD (i).toNat (⟨0,0,0,0,0⟩:Mv)))),(5,.int .i64 i),(8,.int .i64 i),(7,.int .i64 (len:Int)),(0,.slice la len cap),(1,.func (.func g) #[] #[c1,c2])] w2 kr ?_
  rcases Bool.eq_false_or_eq_true (q (l.getD (i).toNat (⟨0,0,0,0,0⟩:Mv))) with fk2 | fk2
  exact J.head (.bool true) (congrArg Value.bool fk2)<|J.run 6 K67_4 [(4,.int .i64 i)] w2 kr<|J.ret Tryz.f67 [.int .i64 i] func67 ⟨kr,trivial⟩<|hR _ _<|⟨by rw[cz,cG (⟨0,0,0,0,0⟩:Mv) i.toNat (by have:=hI.len_eq;omega) hq fk2,Int.toNat_of_nonneg h0],S2.nil⟩
  exact J.head (.bool false) (congrArg Value.bool fk2)<|J.run 5 K67_5 [(18,.int .i64 (IntKind.wrap .i64 (i+1))),(7,.int .i64 (len:Int)),(0,.slice la len cap),(1,.func (.func g) #[] #[c1,c2])] w2 kr<|J.head (.int .i64 (i+1)) (congrArg (Value.int .i64) (IntWalk.i64_in _ om))<|J.run 3 K67_0 [(8,.int .i64 (i+1)),(7,.int .i64 (len:Int)),(0,.slice la len cap),(1,.func (.func g) #[] #[c1,c2])] w2 kr<|J.run 0 K67_0 [(8,.int .i64 (i+1)),(7,.int .i64 (len:Int)),(0,.slice la len cap),(1,.func (.func g) #[] #[c1,c2])] w2 kr<|ih1 _ (show((len:Int)-(i+1)).toNat<mm1 from by omega) (i+1) w2 om om (by intro j hj;by_cases e:j=i.toNat;(subst e;exact fk2);exact hq j om) S2 rfl
  exact J.head (.bool false) (congrArg Value.bool (decide_eq_false fk1))<|J.run 6 K67_6 [(4,.int .i64 (-1))] w1 kr<|J.ret Tryz.f67 [.int .i64 (-1)] func67 ⟨kr,trivial⟩<|hR _ _<|⟨by rw[cz,cH (⟨0,0,0,0,0⟩:Mv) fun j hj=>hq j (by have:=hI.len_eq;omega)],S1.nil⟩
 exact L67_1 _ 0 w om om (by intro j hj;simp at hj) S0 rfl

theorem hb46:aJ prog 46:=fun _ _=>by kernel_rfl
def K46_0:=adv 8 [] (aY Tryz.f46)
def K46_1:=adv 3 [] (aK K46_0)
set_option maxRecDepth 20000 in
set_option maxHeartbeats 20000000 in
theorem containsMv (la:Option Addr) (len cap:Nat) (l:List Mv) (g:FuncId) (c1:Value) (c2:Value) (q:Mv→Bool) (w:World) (hI:Recs mvE 5 w la len l) (hlen:len≤9223372036854775807) (hbg:aJ prog g) (hcall:∀ (i:Nat) (w2:World),i<l.length→Sep w [] w2→Ret prog g #[.agg #[.int .i64 ((l.getD i (⟨0,0,0,0,0⟩:Mv)).aC),.int .i64 ((l.getD i (⟨0,0,0,0,0⟩:Mv)).gTo),.int .i64 ((l.getD i (⟨0,0,0,0,0⟩:Mv)).gOn),.int .i64 ((l.getD i (⟨0,0,0,0,0⟩:Mv)).aN),.int .i64 ((l.getD i (⟨0,0,0,0,0⟩:Mv)).ax)],c1,c2] w2 (fun v w3=>v=.bool (q (l.getD i (⟨0,0,0,0,0⟩:Mv)))∧Sep w2 [] w3)):Ret prog 46 #[.slice la len cap,.func (.func g) #[] #[c1,c2]] w (fun v w'=>v=.bool (l.any q)∧Sep w [] w'):=by
 have S0:=Sep.refl w
 refine Ret.named fun R hR=>Ret.of_J (N:=9) [(0,.slice la len cap),(1,.func (.func g) #[] #[c1,c2])] func46 rfl rfl (Nat.le_of_ble_eq_true kr) kr<|J.run 8 K46_0 [(6,.func (.func g) #[] #[c1,c2]),(5,.slice la len cap)] w kr<|J.callF 7 67 #[.slice la len cap,.func (.func g) #[] #[c1,c2]] hb67 kr (indexMv la len cap l g c1 c2 q _ (hI.sep S0) oz hbg (hcall)) ?_
 rintro _ w1 ⟨rfl,T1⟩
 have S1:Sep w [] w1:=S0.trans T1
 clear T1
 exact J.run 3 K46_1 [(4,.bool (decide ((ap q l)≥0)))] w1 kr<|J.ret Tryz.f46 [.bool (decide ((ap q l)≥0))] func46 ⟨kr,trivial⟩<|hR _ _<|⟨congrArg Value.bool (by first | exact bQ),S1.nil⟩

theorem hb47:aJ prog 47:=fun _ _=>by kernel_rfl
def K47_0:=adv 2 [] (aY Tryz.f47)
def K47_1:=adv 5 [] (aK K47_0)
def K47_2:=adv 2 [] (aK K47_1)
def K47_3:=adv 58 [] K47_2
def K47_4:=adv 1 [] K47_2
def K47_5:=adv 3 [] (aK (aK K47_4))
def K47_6:=adv 52 [] K47_5
def K47_7:=adv 1 [] K47_5
def K47_8:=adv 3 [] (aK K47_7)
def K47_9:=adv 47 [] K47_8
def K47_10:=adv 1 [] K47_8
def K47_11:=adv 3 [] (aK (aK K47_10))
def K47_12:=adv 41 [] K47_11
def K47_13:=adv 1 [] K47_11
def K47_14:=adv 3 [] (aK K47_13)
def K47_15:=adv 36 [] K47_14
def K47_16:=adv 1 [] K47_14
def K47_17:=adv 3 [] (aK (aK K47_16))
def K47_18:=adv 30 [] K47_17
def K47_19:=adv 1 [] K47_17
def K47_20:=adv 3 [] (aK K47_19)
def K47_21:=adv 25 [] K47_20
def K47_22:=adv 1 [] K47_20
def K47_23:=adv 3 [] (aK (aK K47_22))
def K47_24:=adv 19 [] K47_23
def K47_25:=adv 1 [] K47_23
def K47_26:=adv 1 [] (aK K47_25)
def K47_27:=adv 1 [] (aK K47_26)
def K47_28:=adv 3 [] K47_27
def K47_29:=adv 1 [] K47_28
def K47_30:=adv 3 [] (aK K47_29)
def K47_31:=adv 6 [] K47_30
def K47_32:=adv 1 [] K47_30
def K47_33:=adv 4 [] (aK K47_32)
def K47_34:=adv 11 [] K47_28
set_option maxRecDepth 20000 in
set_option maxHeartbeats 20000000 in
theorem valid1_any (n all:Int) (bx1 bx2:Nat) (m:Mv) (w:World) (hb1:(box bx1 [.int .i64 n] 3).holds w) (hb2:(box bx2 [.int .i64 all] 3).holds w):Ret prog 47 #[.agg #[.int .i64 m.aC,.int .i64 m.gTo,.int .i64 m.gOn,.int .i64 m.aN,.int .i64 m.ax],.pointer (some ⟨bx1,0,none⟩),.pointer (some ⟨bx2,0,none⟩)] w (fun v w'=>v=.bool (!mvB n all m)∧Sep w [] w'):=by
 have S0:=Sep.refl w
 refine Ret.named fun R hR=>Ret.of_J (N:=65) [(0,.agg #[.int .i64 m.aC,.int .i64 m.gTo,.int .i64 m.gOn,.int .i64 m.aN,.int .i64 m.ax]),(1,.pointer (some ⟨bx1,0,none⟩)),(2,.pointer (some ⟨bx2,0,none⟩))] func47 rfl rfl (Nat.le_of_ble_eq_true kr) kr<|J.run 2 K47_0 [(0,.agg #[.int .i64 m.aC,.int .i64 m.gTo,.int .i64 m.gOn,.int .i64 m.aN,.int .i64 m.ax]),(1,.pointer (some ⟨bx1,0,none⟩)),(2,.pointer (some ⟨bx2,0,none⟩))] w kr<|J.new S0 3 [.int .i64 m.aC,.int .i64 m.gTo,.int .i64 m.gOn,.int .i64 m.aN,.int .i64 m.ax] 57 kr ?_
 intro b1 w1 S1
 refine J.run 5 K47_1 [(5,.pointer (some ⟨b1,0,none⟩)),(3,.pointer (some ⟨b1,0,none⟩)),(1,.pointer (some ⟨bx1,0,none⟩)),(2,.pointer (some ⟨bx2,0,none⟩))] w1 kr<|J.ok (OK.ldBox S1 0 6 3 0 (.int .i64 m.aC) kr rfl kr)<|J.run 2 K47_2 [(8,.bool (decide (m.aC<0))),(3,.pointer (some ⟨b1,0,none⟩)),(1,.pointer (some ⟨bx1,0,none⟩)),(2,.pointer (some ⟨bx2,0,none⟩))] w1 kr ?_
 by_cases fk1:m.aC<0
 exact J.head (.bool true) (congrArg Value.bool (decide_eq_true fk1))<|J.run 58 K47_3 [(4,.bool true)] w1 kr<|J.ret Tryz.f47 [.bool true] func47 ⟨kr,trivial⟩<|hR _ _<|⟨congrArg Value.bool (by rw[Bool.eq_iff_iff];simp[mvB];omega),S1.nil⟩
 refine J.head (.bool false) (congrArg Value.bool (decide_eq_false fk1))<|J.run 1 K47_4 [(9,.pointer (some ⟨b1,0,none⟩)),(8,.bool false),(3,.pointer (some ⟨b1,0,none⟩)),(1,.pointer (some ⟨bx1,0,none⟩)),(2,.pointer (some ⟨bx2,0,none⟩))] w1 kr<|J.ok (OK.ldBox S1 0 10 3 0 (.int .i64 m.aC) kr rfl kr)<|J.ok (OK.ldRo S1 hb1 11 3 0 (.int .i64 n) kr kr)<|J.run 3 K47_5 [(14,.bool (decide (m.aC≥n))),(3,.pointer (some ⟨b1,0,none⟩)),(1,.pointer (some ⟨bx1,0,none⟩)),(2,.pointer (some ⟨bx2,0,none⟩))] w1 kr ?_
 by_cases fk2:m.aC≥n
 exact J.head (.bool true) (congrArg Value.bool (decide_eq_true fk2))<|J.run 52 K47_6 [(4,.bool true)] w1 kr<|J.ret Tryz.f47 [.bool true] func47 ⟨kr,trivial⟩<|hR _ _<|⟨congrArg Value.bool (by rw[Bool.eq_iff_iff];simp[mvB];omega),S1.nil⟩
 refine J.head (.bool false) (congrArg Value.bool (decide_eq_false fk2))<|J.run 1 K47_7 [(15,.pointer (some ⟨b1,1,none⟩)),(14,.bool false),(3,.pointer (some ⟨b1,0,none⟩)),(1,.pointer (some ⟨bx1,0,none⟩)),(2,.pointer (some ⟨bx2,0,none⟩))] w1 kr<|J.ok (OK.ldBox S1 0 16 3 1 (.int .i64 m.gTo) kr rfl kr)<|J.run 3 K47_8 [(19,.bool (decide (m.gTo<0))),(3,.pointer (some ⟨b1,0,none⟩)),(1,.pointer (some ⟨bx1,0,none⟩)),(2,.pointer (some ⟨bx2,0,none⟩))] w1 kr ?_
 by_cases fk3:m.gTo<0
 exact J.head (.bool true) (congrArg Value.bool (decide_eq_true fk3))<|J.run 47 K47_9 [(4,.bool true)] w1 kr<|J.ret Tryz.f47 [.bool true] func47 ⟨kr,trivial⟩<|hR _ _<|⟨congrArg Value.bool (by rw[Bool.eq_iff_iff];simp[mvB];omega),S1.nil⟩
 refine J.head (.bool false) (congrArg Value.bool (decide_eq_false fk3))<|J.run 1 K47_10 [(20,.pointer (some ⟨b1,1,none⟩)),(19,.bool false),(3,.pointer (some ⟨b1,0,none⟩)),(1,.pointer (some ⟨bx1,0,none⟩)),(2,.pointer (some ⟨bx2,0,none⟩))] w1 kr<|J.ok (OK.ldBox S1 0 21 3 1 (.int .i64 m.gTo) kr rfl kr)<|J.ok (OK.ldRo S1 hb1 22 3 0 (.int .i64 n) kr kr)<|J.run 3 K47_11 [(25,.bool (decide (m.gTo≥n))),(3,.pointer (some ⟨b1,0,none⟩)),(2,.pointer (some ⟨bx2,0,none⟩))] w1 kr ?_
 by_cases fk4:m.gTo≥n
 exact J.head (.bool true) (congrArg Value.bool (decide_eq_true fk4))<|J.run 41 K47_12 [(4,.bool true)] w1 kr<|J.ret Tryz.f47 [.bool true] func47 ⟨kr,trivial⟩<|hR _ _<|⟨congrArg Value.bool (by rw[Bool.eq_iff_iff];simp[mvB];omega),S1.nil⟩
 refine J.head (.bool false) (congrArg Value.bool (decide_eq_false fk4))<|J.run 1 K47_13 [(26,.pointer (some ⟨b1,2,none⟩)),(25,.bool false),(3,.pointer (some ⟨b1,0,none⟩)),(2,.pointer (some ⟨bx2,0,none⟩))] w1 kr<|J.ok (OK.ldBox S1 0 27 3 2 (.int .i64 m.gOn) kr rfl kr)<|J.run 3 K47_14 [(30,.bool (decide (m.gOn<0))),(3,.pointer (some ⟨b1,0,none⟩)),(2,.pointer (some ⟨bx2,0,none⟩))] w1 kr ?_
 by_cases fk5:m.gOn<0
 exact J.head (.bool true) (congrArg Value.bool (decide_eq_true fk5))<|J.run 36 K47_15 [(4,.bool true)] w1 kr<|J.ret Tryz.f47 [.bool true] func47 ⟨kr,trivial⟩<|hR _ _<|⟨congrArg Value.bool (by rw[Bool.eq_iff_iff];simp[mvB];omega),S1.nil⟩
 refine J.head (.bool false) (congrArg Value.bool (decide_eq_false fk5))<|J.run 1 K47_16 [(31,.pointer (some ⟨b1,2,none⟩)),(30,.bool false),(3,.pointer (some ⟨b1,0,none⟩)),(2,.pointer (some ⟨bx2,0,none⟩))] w1 kr<|J.ok (OK.ldBox S1 0 32 3 2 (.int .i64 m.gOn) kr rfl kr)<|J.ok (OK.ldRo S1 hb2 33 3 0 (.int .i64 all) kr kr)<|J.run 3 K47_17 [(36,.bool (decide (m.gOn>all))),(3,.pointer (some ⟨b1,0,none⟩)),(2,.pointer (some ⟨bx2,0,none⟩))] w1 kr ?_
 by_cases fk6:m.gOn>all
 exact J.head (.bool true) (congrArg Value.bool (decide_eq_true fk6))<|J.run 30 K47_18 [(4,.bool true)] w1 kr<|J.ret Tryz.f47 [.bool true] func47 ⟨kr,trivial⟩<|hR _ _<|⟨congrArg Value.bool (by rw[Bool.eq_iff_iff];simp[mvB];omega),S1.nil⟩
 refine J.head (.bool false) (congrArg Value.bool (decide_eq_false fk6))<|J.run 1 K47_19 [(37,.pointer (some ⟨b1,3,none⟩)),(36,.bool false),(3,.pointer (some ⟨b1,0,none⟩)),(2,.pointer (some ⟨bx2,0,none⟩))] w1 kr<|J.ok (OK.ldBox S1 0 38 3 3 (.int .i64 m.aN) kr rfl kr)<|J.run 3 K47_20 [(41,.bool (decide (m.aN<0))),(3,.pointer (some ⟨b1,0,none⟩)),(2,.pointer (some ⟨bx2,0,none⟩))] w1 kr ?_
 by_cases fk7:m.aN<0
 exact J.head (.bool true) (congrArg Value.bool (decide_eq_true fk7))<|J.run 25 K47_21 [(4,.bool true)] w1 kr<|J.ret Tryz.f47 [.bool true] func47 ⟨kr,trivial⟩<|hR _ _<|⟨congrArg Value.bool (by rw[Bool.eq_iff_iff];simp[mvB];omega),S1.nil⟩
 refine J.head (.bool false) (congrArg Value.bool (decide_eq_false fk7))<|J.run 1 K47_22 [(42,.pointer (some ⟨b1,3,none⟩)),(41,.bool false),(3,.pointer (some ⟨b1,0,none⟩)),(2,.pointer (some ⟨bx2,0,none⟩))] w1 kr<|J.ok (OK.ldBox S1 0 43 3 3 (.int .i64 m.aN) kr rfl kr)<|J.ok (OK.ldRo S1 hb2 44 3 0 (.int .i64 all) kr kr)<|J.run 3 K47_23 [(47,.bool (decide (m.aN>all))),(3,.pointer (some ⟨b1,0,none⟩))] w1 kr ?_
 by_cases fk8:m.aN>all
 exact J.head (.bool true) (congrArg Value.bool (decide_eq_true fk8))<|J.run 19 K47_24 [(4,.bool true)] w1 kr<|J.ret Tryz.f47 [.bool true] func47 ⟨kr,trivial⟩<|hR _ _<|⟨congrArg Value.bool (by rw[Bool.eq_iff_iff];simp[mvB];omega),S1.nil⟩
 refine J.head (.bool false) (congrArg Value.bool (decide_eq_false fk8))<|J.run 1 K47_25 [(48,.pointer (some ⟨b1,2,none⟩)),(47,.bool false),(3,.pointer (some ⟨b1,0,none⟩))] w1 kr<|J.ok (OK.ldBox S1 0 49 3 2 (.int .i64 m.gOn) kr rfl kr)<|J.run 1 K47_26 [(50,.pointer (some ⟨b1,3,none⟩)),(49,.int .i64 m.gOn),(47,.bool false),(3,.pointer (some ⟨b1,0,none⟩))] w1 kr<|J.ok (OK.ldBox S1 0 51 3 3 (.int .i64 m.aN) kr rfl kr)<|J.run 1 K47_27 [(52,.int .i64 (IntKind.wrap .i64 ((BitVec.ofInt 64 m.gOn &&& (BitVec.ofInt 64 m.aN)).toNat:Int))),(47,.bool false),(3,.pointer (some ⟨b1,0,none⟩))] w1 kr<|J.head (.int .i64 (andF m.gOn m.aN)) (congrArg (Value.int .i64) rfl)<|J.run 3 K47_28 [(55,.bool ((andF m.gOn m.aN) != 0)),(3,.pointer (some ⟨b1,0,none⟩))] w1 kr ?_
 by_cases fk9:(andF m.gOn m.aN)=0
 refine J.head (.bool false) (congrArg Value.bool (bne_eq_false_iff_eq.2 fk9))<|J.run 1 K47_29 [(56,.pointer (some ⟨b1,4,none⟩)),(55,.bool false),(3,.pointer (some ⟨b1,0,none⟩))] w1 kr<|J.ok (OK.ldBox S1 0 57 3 4 (.int .i64 m.ax) kr rfl kr)<|J.run 3 K47_30 [(60,.bool (decide (m.ax<0))),(3,.pointer (some ⟨b1,0,none⟩))] w1 kr ?_
 by_cases fk10:m.ax<0
 exact J.head (.bool true) (congrArg Value.bool (decide_eq_true fk10))<|J.run 6 K47_31 [(4,.bool true)] w1 kr<|J.ret Tryz.f47 [.bool true] func47 ⟨kr,trivial⟩<|hR _ _<|⟨congrArg Value.bool (by rw[Bool.eq_iff_iff];simp[mvB];omega),S1.nil⟩
 exact J.head (.bool false) (congrArg Value.bool (decide_eq_false fk10))<|J.run 1 K47_32 [(61,.pointer (some ⟨b1,4,none⟩)),(60,.bool false)] w1 kr<|J.ok (OK.ldBox S1 0 62 3 4 (.int .i64 m.ax) kr rfl kr)<|J.run 4 K47_33 [(4,.bool (decide (m.ax>1000)))] w1 kr<|J.ret Tryz.f47 [.bool (decide (m.ax>1000))] func47 ⟨kr,trivial⟩<|hR _ _<|⟨congrArg Value.bool (by rw[Bool.eq_iff_iff];simp[mvB];omega),S1.nil⟩
 exact J.head (.bool true) (congrArg Value.bool (bne_iff_ne.2 fk9))<|J.run 11 K47_34 [(4,.bool true)] w1 kr<|J.ret Tryz.f47 [.bool true] func47 ⟨kr,trivial⟩<|hR _ _<|⟨congrArg Value.bool (by rw[Bool.eq_iff_iff];simp[mvB];omega),S1.nil⟩

theorem hb17:aJ prog 17:=fun _ _=>by kernel_rfl
def K17_0:=adv 2 [] (aY Tryz.f17)
def K17_1:=adv 5 [] (aK K17_0)
def K17_2:=adv 1 [] (aK K17_1)
def K17_3:=adv 4 [] (aK (aK K17_2))
def K17_4:=adv 2 [] (aK K17_3)
def K17_5:=adv 44 [true] K17_4
def K17_6:=adv 3 [] (aK K17_4)
def K17_7:=adv 40 [true] K17_6
def K17_8:=adv 1 [] K17_6
def K17_9:=adv 4 [] (aK K17_8)
def K17_10:=adv 34 [true] K17_9
def K17_11:=adv 1 [] K17_9
def K17_12:=adv 3 [] (aK (aK K17_11))
def K17_13:=adv 1 [] K17_12
def K17_14:=adv 3 [] (aK (aK K17_13))
def K17_15:=adv 1 [] K17_14
def K17_16:=adv 3 [] (aK K17_15)
def K17_17:=adv 17 [true] K17_16
def K17_18:=adv 1 [] K17_16
def K17_19:=adv 3 [] (aK (aK K17_18))
def K17_20:=adv 11 [true] K17_19
def K17_21:=adv 1 [] K17_19
def K17_22:=adv 4 [] (aK K17_21)
def K17_23:=adv 5 [true] K17_22
def K17_24:=adv 5 [false] K17_22
def K17_25:=adv 1 [] (aK K17_24)
def K17_26:=adv 1 [] (aK K17_25)
def K17_27:=adv 4 [] (aK (aK K17_26))
def K17_28:=adv 1 [] (aK K17_27)
def K17_29:=adv 3 [] (aK K17_28)
def K17_30:=adv 22 [true] K17_14
def K17_31:=adv 28 [true] K17_12
set_option maxRecDepth 20000 in
set_option maxHeartbeats 20000000 in
theorem valid_any (c:Cht) (w:World) (hc:chtQ w c):Ret prog 17 #[.agg #[.slice c.al c.aj c.ao,.slice c.ak c.af c.am,.int .i64 c.av,.slice c.aq c.ai c.au]] w (fun v w'=>v=.bool (aM c)∧Sep w [] w'):=by
 have S0:=Sep.refl w
 refine Ret.named fun R hR=>Ret.of_J (N:=59) [(0,.agg #[.slice c.al c.aj c.ao,.slice c.ak c.af c.am,.int .i64 c.av,.slice c.aq c.ai c.au])] func17 rfl rfl (Nat.le_of_ble_eq_true kr) kr ?_
 obtain ⟨q1,q2,q3,q4,q5,q6,q7,q8,q9,q10,_⟩:=id hc
 have ql1:=q2.len_eq
 have ql2:=q5.len_eq
 have ql3:=q9.len_eq
 refine J.run 2 K17_0 [(0,.agg #[.slice c.al c.aj c.ao,.slice c.ak c.af c.am,.int .i64 c.av,.slice c.aq c.ai c.au])] w kr<|J.new S0 1 [.slice c.al c.aj c.ao,.slice c.ak c.af c.am,.int .i64 c.av,.slice c.aq c.ai c.au] 25 kr ?_
 intro b1 w1 S1
 refine J.run 5 K17_1 [(5,.pointer (some ⟨b1,0,none⟩)),(1,.pointer (some ⟨b1,0,none⟩))] w1 kr<|J.ok (OK.ldBox S1 0 6 22 0 (.slice c.al c.aj c.ao) kr rfl kr)<|J.run 1 K17_2 [(7,.int .i64 (c.aj:Int)),(1,.pointer (some ⟨b1,0,none⟩))] w1 kr<|J.new S1 3 [.int .i64 0] 3 kr ?_
 intro b2 w2 S2
 refine J.stBox S2 0 3 0 (.int .i64 (c.aj:Int)) [.int .i64 (c.aj:Int)] [box b2 [.int .i64 (c.aj:Int)] 3,box b1 [.slice c.al c.aj c.ao,.slice c.ak c.af c.am,.int .i64 c.av,.slice c.aq c.ai c.au] 25] kr rfl kr kr rfl ?_
 intro w3 S3
 refine J.run 4 K17_3 [(3,.pointer (some ⟨b2,0,none⟩)),(1,.pointer (some ⟨b1,0,none⟩))] w3 kr<|J.ok (OK.ldBox S3 0 8 3 0 (.int .i64 (c.aj:Int)) kr rfl kr)<|J.run 2 K17_4 [(10,.bool (decide ((c.aj:Int)<1))),(3,.pointer (some ⟨b2,0,none⟩)),(1,.pointer (some ⟨b1,0,none⟩))] w3 kr ?_
 by_cases fk1:(c.aj:Int)<1
 exact J.head (.bool true) (congrArg Value.bool (decide_eq_true fk1))<|J.run 44 K17_5 [(2,.bool false)] w3 kr<|J.ret Tryz.f17 [.bool false] func17 ⟨kr,trivial⟩<|hR _ _<|⟨congrArg Value.bool (by rw[Bool.eq_iff_iff];first | (simp[aM,bc,aO,fk1];done) | (simp[aM,bc,aO,fk1];omega) | (simp[aM,bc,fk1];intros;omega)),S3.nil⟩
 refine J.head (.bool false) (congrArg Value.bool (decide_eq_false fk1))<|J.ok (OK.ldBox S3 0 11 3 0 (.int .i64 (c.aj:Int)) kr rfl kr)<|J.run 3 K17_6 [(14,.bool (decide ((c.aj:Int)>20))),(3,.pointer (some ⟨b2,0,none⟩)),(1,.pointer (some ⟨b1,0,none⟩))] w3 kr ?_
 by_cases fk2:(c.aj:Int)>20
 exact J.head (.bool true) (congrArg Value.bool (decide_eq_true fk2))<|J.run 40 K17_7 [(2,.bool false)] w3 kr<|J.ret Tryz.f17 [.bool false] func17 ⟨kr,trivial⟩<|hR _ _<|⟨congrArg Value.bool (by rw[Bool.eq_iff_iff];first | (simp[aM,bc,aO,fk1,fk2];done) | (simp[aM,bc,aO,fk1,fk2];omega) | (simp[aM,bc,fk1,fk2];intros;omega)),S3.nil⟩
 refine J.head (.bool false) (congrArg Value.bool (decide_eq_false fk2))<|J.run 1 K17_8 [(15,.pointer (some ⟨b1,1,none⟩)),(14,.bool false),(3,.pointer (some ⟨b2,0,none⟩)),(1,.pointer (some ⟨b1,0,none⟩))] w3 kr<|J.ok (OK.ldBox S3 1 16 22 1 (.slice c.ak c.af c.am) kr rfl kr)<|J.run 4 K17_9 [(20,.bool (decide ((c.af:Int)>10))),(3,.pointer (some ⟨b2,0,none⟩)),(1,.pointer (some ⟨b1,0,none⟩))] w3 kr ?_
 by_cases fk3:(c.af:Int)>10
 exact J.head (.bool true) (congrArg Value.bool (decide_eq_true fk3))<|J.run 34 K17_10 [(2,.bool false)] w3 kr<|J.ret Tryz.f17 [.bool false] func17 ⟨kr,trivial⟩<|hR _ _<|⟨congrArg Value.bool (by rw[Bool.eq_iff_iff];first | (simp[aM,bc,aO,fk1,fk2,fk3];done) | (simp[aM,bc,aO,fk1,fk2,fk3];omega) | (simp[aM,bc,fk1,fk2,fk3];intros;omega)),S3.nil⟩
 refine J.head (.bool false) (congrArg Value.bool (decide_eq_false fk3))<|J.run 1 K17_11 [(21,.pointer (some ⟨b1,0,none⟩)),(20,.bool false),(3,.pointer (some ⟨b2,0,none⟩)),(1,.pointer (some ⟨b1,0,none⟩))] w3 kr<|J.ok (OK.ldBox S3 1 22 22 0 (.slice c.al c.aj c.ao) kr rfl kr)<|J.callF 23 45 #[.slice c.al c.aj c.ao] hb45 kr (names_any c.al c.aj c.ao c.aB _ (q2.sep S3) om om q3) ?_
 rintro _ w4 ⟨rfl,T1⟩
 have S4:Sep w [box b2 [.int .i64 (c.aj:Int)] 3,box b1 [.slice c.al c.aj c.ao,.slice c.ak c.af c.am,.int .i64 c.av,.slice c.aq c.ai c.au] 25] w4:=S3.trans T1
 clear T1 S3
 refine J.run 3 K17_12 [(26,.bool (!(bM c.aB))),(3,.pointer (some ⟨b2,0,none⟩)),(1,.pointer (some ⟨b1,0,none⟩))] w4 kr ?_
 rcases Bool.eq_false_or_eq_true (bM c.aB) with fk4 | fk4
 refine J.head (.bool false) (congrArg Value.bool (by rw[fk4];rfl))<|J.run 1 K17_13 [(27,.pointer (some ⟨b1,1,none⟩)),(26,.bool false),(3,.pointer (some ⟨b2,0,none⟩)),(1,.pointer (some ⟨b1,0,none⟩))] w4 kr<|J.ok (OK.ldBox S4 1 28 22 1 (.slice c.ak c.af c.am) kr rfl kr)<|J.callF 29 45 #[.slice c.ak c.af c.am] hb45 kr (names_any c.ak c.af c.am c.ay _ (q5.sep S4) om om q6) ?_
 rintro _ w5 ⟨rfl,T2⟩
 have S5:Sep w [box b2 [.int .i64 (c.aj:Int)] 3,box b1 [.slice c.al c.aj c.ao,.slice c.ak c.af c.am,.int .i64 c.av,.slice c.aq c.ai c.au] 25] w5:=S4.trans T2
 clear T2 S4
 refine J.run 3 K17_14 [(32,.bool (!(bM c.ay))),(3,.pointer (some ⟨b2,0,none⟩)),(1,.pointer (some ⟨b1,0,none⟩))] w5 kr ?_
 rcases Bool.eq_false_or_eq_true (bM c.ay) with fk5 | fk5
 refine J.head (.bool false) (congrArg Value.bool (by rw[fk5];rfl))<|J.run 1 K17_15 [(33,.pointer (some ⟨b1,2,none⟩)),(32,.bool false),(3,.pointer (some ⟨b2,0,none⟩)),(1,.pointer (some ⟨b1,0,none⟩))] w5 kr<|J.ok (OK.ldBox S5 1 34 3 2 (.int .i64 c.av) kr rfl kr)<|J.run 3 K17_16 [(37,.bool (decide (c.av<0))),(3,.pointer (some ⟨b2,0,none⟩)),(1,.pointer (some ⟨b1,0,none⟩))] w5 kr ?_
 by_cases fk6:c.av<0
 exact J.head (.bool true) (congrArg Value.bool (decide_eq_true fk6))<|J.run 17 K17_17 [(2,.bool false)] w5 kr<|J.ret Tryz.f17 [.bool false] func17 ⟨kr,trivial⟩<|hR _ _<|⟨congrArg Value.bool (by rw[Bool.eq_iff_iff];first | (simp[aM,bc,aO,fk1,fk2,fk3,fk4,fk5,fk6];done) | (simp[aM,bc,aO,fk1,fk2,fk3,fk4,fk5,fk6];omega) | (simp[aM,bc,fk1,fk2,fk3,fk4,fk5,fk6];intros;omega)),S5.nil⟩
 refine J.head (.bool false) (congrArg Value.bool (decide_eq_false fk6))<|J.run 1 K17_18 [(38,.pointer (some ⟨b1,2,none⟩)),(37,.bool false),(3,.pointer (some ⟨b2,0,none⟩)),(1,.pointer (some ⟨b1,0,none⟩))] w5 kr<|J.ok (OK.ldBox S5 1 39 3 2 (.int .i64 c.av) kr rfl kr)<|J.ok (OK.ldBox S5 0 40 3 0 (.int .i64 (c.aj:Int)) kr rfl kr)<|J.run 3 K17_19 [(43,.bool (decide (c.av≥(c.aj:Int)))),(3,.pointer (some ⟨b2,0,none⟩)),(1,.pointer (some ⟨b1,0,none⟩))] w5 kr ?_
 by_cases fk7:c.av≥(c.aj:Int)
 exact J.head (.bool true) (congrArg Value.bool (decide_eq_true fk7))<|J.run 11 K17_20 [(2,.bool false)] w5 kr<|J.ret Tryz.f17 [.bool false] func17 ⟨kr,trivial⟩<|hR _ _<|⟨congrArg Value.bool (by rw[Bool.eq_iff_iff];first | (simp[aM,bc,aO,fk1,fk2,fk3,fk4,fk5,fk6,fk7];done) | (simp[aM,bc,aO,fk1,fk2,fk3,fk4,fk5,fk6,fk7];omega) | (simp[aM,bc,fk1,fk2,fk3,fk4,fk5,fk6,fk7];intros;omega)),S5.nil⟩
 refine J.head (.bool false) (congrArg Value.bool (decide_eq_false fk7))<|J.run 1 K17_21 [(44,.pointer (some ⟨b1,3,none⟩)),(43,.bool false),(3,.pointer (some ⟨b2,0,none⟩)),(1,.pointer (some ⟨b1,0,none⟩))] w5 kr<|J.ok (OK.ldBox S5 1 45 23 3 (.slice c.aq c.ai c.au) kr rfl kr)<|J.run 4 K17_22 [(48,.bool (decide ((c.ai:Int)>100))),(3,.pointer (some ⟨b2,0,none⟩)),(1,.pointer (some ⟨b1,0,none⟩))] w5 kr ?_
 by_cases fk8:(c.ai:Int)>100
 exact J.head (.bool true) (congrArg Value.bool (decide_eq_true fk8))<|J.run 5 K17_23 [(2,.bool false)] w5 kr<|J.ret Tryz.f17 [.bool false] func17 ⟨kr,trivial⟩<|hR _ _<|⟨congrArg Value.bool (by rw[Bool.eq_iff_iff];first | (simp[aM,bc,aO,fk1,fk2,fk3,fk4,fk5,fk6,fk7,fk8];done) | (simp[aM,bc,aO,fk1,fk2,fk3,fk4,fk5,fk6,fk7,fk8];omega) | (simp[aM,bc,fk1,fk2,fk3,fk4,fk5,fk6,fk7,fk8];intros;omega)),S5.nil⟩
 refine J.head (.bool false) (congrArg Value.bool (decide_eq_false fk8))<|J.run 5 K17_24 [(49,.pointer (some ⟨b1,1,none⟩)),(3,.pointer (some ⟨b2,0,none⟩)),(1,.pointer (some ⟨b1,0,none⟩))] w5 kr<|J.ok (OK.ldBox S5 1 50 22 1 (.slice c.ak c.af c.am) kr rfl kr)<|J.run 1 K17_25 [(51,.int .i64 (c.af:Int)),(3,.pointer (some ⟨b2,0,none⟩)),(1,.pointer (some ⟨b1,0,none⟩))] w5 kr ?_
 have:=pow10 (n:=c.af) om
 refine J.ok (OK.shl 52 .i64 1 (c.af:Int) (2^c.af) kr om (shl_one rfl om))<|J.run 1 K17_26 [(53,.int .i64 (IntKind.wrap .i64 ((2^c.af)-1))),(3,.pointer (some ⟨b2,0,none⟩)),(1,.pointer (some ⟨b1,0,none⟩))] w5 kr<|J.head (.int .i64 ((2^c.af)-1)) (congrArg (Value.int .i64) (IntWalk.i64_in _ om))<|J.new S5 4 [.int .i64 0] 3 kr ?_
 intro b3 w6 S6
 refine J.stBox S6 0 3 0 (.int .i64 ((2^c.af)-1)) [.int .i64 ((2^c.af)-1)] [box b3 [.int .i64 ((2^c.af)-1)] 3,box b2 [.int .i64 (c.aj:Int)] 3,box b1 [.slice c.al c.aj c.ao,.slice c.ak c.af c.am,.int .i64 c.av,.slice c.aq c.ai c.au] 25] kr rfl kr kr rfl ?_
 intro w7 S7
 refine J.run 4 K17_27 [(54,.pointer (some ⟨b1,3,none⟩)),(4,.pointer (some ⟨b3,0,none⟩)),(3,.pointer (some ⟨b2,0,none⟩))] w7 kr<|J.ok (OK.ldBox S7 2 55 23 3 (.slice c.aq c.ai c.au) kr rfl kr)<|J.run 1 K17_28 [(56,.func (.func 47) #[] #[.pointer (some ⟨b2,0,none⟩),.pointer (some ⟨b3,0,none⟩)]),(55,.slice c.aq c.ai c.au)] w7 kr<|J.callF 57 46 #[.slice c.aq c.ai c.au,.func (.func 47) #[] #[.pointer (some ⟨b2,0,none⟩),.pointer (some ⟨b3,0,none⟩)]] hb46 kr (containsMv c.aq c.ai c.au c.ab 47 (.pointer (some ⟨b2,0,none⟩)) (.pointer (some ⟨b3,0,none⟩)) (fun m=> !mvB (c.aj:Int) ((2^c.af)-1) m) _ (q9.sep S7) oz hb47 (fun i_ w_ hi_ S_=>valid1_any (c.aj:Int) ((2^c.af)-1) b2 b3 _ w_ (box_keep (S7.nth 1 rfl) S_) (box_keep (S7.nth 0 rfl) S_))) ?_
 rintro _ w8 ⟨rfl,T3⟩
 have S8:Sep w [box b3 [.int .i64 ((2^c.af)-1)] 3,box b2 [.int .i64 (c.aj:Int)] 3,box b1 [.slice c.al c.aj c.ao,.slice c.ak c.af c.am,.int .i64 c.av,.slice c.aq c.ai c.au] 25] w8:=S7.trans T3
 clear T3 S7
 exact J.run 3 K17_29 [(2,.bool (!(List.any c.ab (fun m=> !mvB (c.aj:Int) ((2^c.af)-1) m))))] w8 kr<|J.ret Tryz.f17 [.bool (!(List.any c.ab (fun m=> !mvB (c.aj:Int) ((2^c.af)-1) m)))] func17 ⟨kr,trivial⟩<|hR _ _<|⟨congrArg Value.bool (by rw[Bool.eq_iff_iff];first | (simp[aM,bc,aO,fk1,fk2,fk3,fk4,fk5,fk6,fk7,fk8];done) | (simp[aM,bc,aO,fk1,fk2,fk3,fk4,fk5,fk6,fk7,fk8];omega) | (simp[aM,bc,fk1,fk2,fk3,fk4,fk5,fk6,fk7,fk8];intros;omega)),S8.nil⟩
 exact J.head (.bool true) (congrArg Value.bool (by rw[fk5];rfl))<|J.run 22 K17_30 [(2,.bool false)] w5 kr<|J.ret Tryz.f17 [.bool false] func17 ⟨kr,trivial⟩<|hR _ _<|⟨congrArg Value.bool (by rw[Bool.eq_iff_iff];first | (simp[aM,bc,aO,fk1,fk2,fk3,fk4,fk5];done) | (simp[aM,bc,aO,fk1,fk2,fk3,fk4,fk5];omega) | (simp[aM,bc,fk1,fk2,fk3,fk4,fk5];intros;omega)),S5.nil⟩
 exact J.head (.bool true) (congrArg Value.bool (by rw[fk4];rfl))<|J.run 28 K17_31 [(2,.bool false)] w4 kr<|J.ret Tryz.f17 [.bool false] func17 ⟨kr,trivial⟩<|hR _ _<|⟨congrArg Value.bool (by rw[Bool.eq_iff_iff];first | (simp[aM,bc,aO,fk1,fk2,fk3,fk4];done) | (simp[aM,bc,aO,fk1,fk2,fk3,fk4];omega) | (simp[aM,bc,fk1,fk2,fk3,fk4];intros;omega)),S4.nil⟩

theorem bV {c:Cht} {i:Int} (h0:0≤i) (h:i<(c.ab.length:Int)) (hm:mvB c.aj (2^c.af-1) (c.ab.getD i.toNat (⟨0,0,0,0,0⟩:Mv))=false):aM c=false:=by
  have:c.ab.all (mvB c.aj (bc c))=false:=by
    rw[List.all_eq_false]
    refine⟨c.ab.getD i.toNat (⟨0,0,0,0,0⟩:Mv),?_,by unfold bc;rw[hm];simp⟩
    have hi:i.toNat<c.ab.length:=by omega
    rw[List.getD_eq_getElem?_getD,List.getElem?_eq_getElem hi];exact List.getElem_mem hi
  unfold aM;rw[this];simp
theorem all_moves {c:Cht} {q:Mv→Bool} (h:∀ j,j<c.ab.length→q (c.ab.getD j (⟨0,0,0,0,0⟩:Mv))=true):c.ab.all q=true:=by
  rw[List.all_eq_true]
  intro x hx
  obtain ⟨j,hj,rfl⟩:=List.mem_iff_getElem.1 hx
  have:=h j hj
  simpa [List.getD,hj] using this
theorem hb10:aJ prog 10:=fun _ _=>by kernel_rfl
def K10_0:=adv 2 [] (aY Tryz.f10)
def K10_1:=adv 6 [] (aK K10_0)
def K10_2:=adv 3 [] (aK K10_1)
def K10_3:=adv 48 [true] K10_2
def K10_4:=adv 1 [] K10_2
def K10_5:=adv 4 [] (aK K10_4)
def K10_6:=adv 42 [true] K10_5
def K10_7:=adv 1 [] K10_5
def K10_8:=adv 4 [] (aK K10_7)
def K10_9:=adv 36 [true] K10_8
def K10_10:=adv 1 [] K10_8
def K10_11:=adv 3 [] (aK (aK K10_10))
def K10_12:=adv 1 [] K10_11
def K10_13:=adv 3 [] (aK (aK K10_12))
def K10_14:=adv 1 [] K10_13
def K10_15:=adv 3 [] (aK K10_14)
def K10_16:=adv 19 [true] K10_15
def K10_17:=adv 1 [] K10_15
def K10_18:=adv 1 [] (aK K10_17)
def K10_19:=adv 4 [] (aK K10_18)
def K10_20:=adv 11 [true] K10_19
def K10_21:=adv 1 [] K10_19
def K10_22:=adv 4 [] (aK K10_21)
def K10_23:=adv 5 [true] K10_22
def K10_24:=adv 5 [false] K10_22
def K10_25:=adv 1 [] (aK K10_24)
def K10_26:=adv 1 [] (aK K10_25)
def K10_27:=adv 9 [] K10_26
def K10_28:=adv 5 [] K10_27
def K10_29:=adv 3 [] (aK K10_28)
def K10_30:=adv 7 [true] K10_29
def K10_31:=adv 1 [] (aK K10_30)
def K10_32:=adv 4 [] (aK (aK (aK (aK K10_31))))
def K10_33:=adv 2 [] (aK K10_32)
def K10_34:=adv 66 [true] K10_33
def K10_35:=adv 1 [] K10_33
def K10_36:=adv 1 [] (aK K10_35)
def K10_37:=adv 4 [] (aK K10_36)
def K10_38:=adv 58 [true] K10_37
def K10_39:=adv 1 [] K10_37
def K10_40:=adv 3 [] (aK K10_39)
def K10_41:=adv 53 [true] K10_40
def K10_42:=adv 1 [] K10_40
def K10_43:=adv 1 [] (aK K10_42)
def K10_44:=adv 4 [] (aK K10_43)
def K10_45:=adv 45 [true] K10_44
def K10_46:=adv 1 [] K10_44
def K10_47:=adv 3 [] (aK K10_46)
def K10_48:=adv 40 [true] K10_47
def K10_49:=adv 1 [] K10_47
def K10_50:=adv 4 [] (aK K10_49)
def K10_51:=adv 34 [true] K10_50
def K10_52:=adv 1 [] K10_50
def K10_53:=adv 3 [] (aK K10_52)
def K10_54:=adv 29 [true] K10_53
def K10_55:=adv 1 [] K10_53
def K10_56:=adv 4 [] (aK K10_55)
def K10_57:=adv 23 [true] K10_56
def K10_58:=adv 1 [] K10_56
def K10_59:=adv 1 [] (aK K10_58)
def K10_60:=adv 1 [] (aK K10_59)
def K10_61:=adv 3 [] K10_60
def K10_62:=adv 1 [] K10_61
def K10_63:=adv 3 [] (aK K10_62)
def K10_64:=adv 10 [true] K10_63
def K10_65:=adv 1 [] K10_63
def K10_66:=adv 3 [] (aK K10_65)
def K10_67:=adv 5 [true] K10_66
def K10_68:=adv 6 [false] K10_66
def K10_69:=adv 15 [true] K10_61
def K10_70:=adv 6 [false] K10_29
def K10_71:=adv 24 [true] K10_13
def K10_72:=adv 30 [true] K10_11
set_option maxRecDepth 20000 in
set_option maxHeartbeats 20000000 in
theorem rvalid_any (c:Cht) (w:World) (hc:chtQ w c):Ret prog 10 #[.agg #[.slice c.al c.aj c.ao,.slice c.ak c.af c.am,.int .i64 c.av,.slice c.aq c.ai c.au]] w (fun v w'=>v=.bool (aM c)∧Sep w [] w'):=by
 have S0:=Sep.refl w
 refine Ret.named fun R hR=>Ret.of_J (N:=134) [(0,.agg #[.slice c.al c.aj c.ao,.slice c.ak c.af c.am,.int .i64 c.av,.slice c.aq c.ai c.au])] func10 rfl rfl (Nat.le_of_ble_eq_true kr) kr ?_
 obtain ⟨q1,q2,q3,q4,q5,q6,q7,q8,q9,q10,_⟩:=id hc
 have ql1:=q2.len_eq
 have ql2:=q5.len_eq
 have ql3:=q9.len_eq
 refine J.run 2 K10_0 [(0,.agg #[.slice c.al c.aj c.ao,.slice c.ak c.af c.am,.int .i64 c.av,.slice c.aq c.ai c.au])] w kr<|J.new S0 1 [.slice c.al c.aj c.ao,.slice c.ak c.af c.am,.int .i64 c.av,.slice c.aq c.ai c.au] 25 kr ?_
 intro b1 w1 S1
 refine J.run 6 K10_1 [(6,.pointer (some ⟨b1,0,none⟩)),(1,.pointer (some ⟨b1,0,none⟩))] w1 kr<|J.ok (OK.ldBox S1 0 7 22 0 (.slice c.al c.aj c.ao) kr rfl kr)<|J.run 3 K10_2 [(10,.bool (decide ((c.aj:Int)<1))),(1,.pointer (some ⟨b1,0,none⟩))] w1 kr ?_
 by_cases fk1:(c.aj:Int)<1
 exact J.head (.bool true) (congrArg Value.bool (decide_eq_true fk1))<|J.run 48 K10_3 [(2,.bool false)] w1 kr<|J.ret Tryz.f10 [.bool false] func10 ⟨kr,trivial⟩<|hR _ _<|⟨congrArg Value.bool (by rw[Bool.eq_iff_iff];first | (simp[aM,bc,aO,fk1];done) | (simp[aM,bc,aO,fk1];omega) | (simp[aM,bc,fk1];intros;omega)),S1.nil⟩
 refine J.head (.bool false) (congrArg Value.bool (decide_eq_false fk1))<|J.run 1 K10_4 [(11,.pointer (some ⟨b1,0,none⟩)),(10,.bool false),(1,.pointer (some ⟨b1,0,none⟩))] w1 kr<|J.ok (OK.ldBox S1 0 12 22 0 (.slice c.al c.aj c.ao) kr rfl kr)<|J.run 4 K10_5 [(16,.bool (decide ((c.aj:Int)>20))),(1,.pointer (some ⟨b1,0,none⟩))] w1 kr ?_
 by_cases fk2:(c.aj:Int)>20
 exact J.head (.bool true) (congrArg Value.bool (decide_eq_true fk2))<|J.run 42 K10_6 [(2,.bool false)] w1 kr<|J.ret Tryz.f10 [.bool false] func10 ⟨kr,trivial⟩<|hR _ _<|⟨congrArg Value.bool (by rw[Bool.eq_iff_iff];first | (simp[aM,bc,aO,fk1,fk2];done) | (simp[aM,bc,aO,fk1,fk2];omega) | (simp[aM,bc,fk1,fk2];intros;omega)),S1.nil⟩
 refine J.head (.bool false) (congrArg Value.bool (decide_eq_false fk2))<|J.run 1 K10_7 [(17,.pointer (some ⟨b1,1,none⟩)),(16,.bool false),(1,.pointer (some ⟨b1,0,none⟩))] w1 kr<|J.ok (OK.ldBox S1 0 18 22 1 (.slice c.ak c.af c.am) kr rfl kr)<|J.run 4 K10_8 [(22,.bool (decide ((c.af:Int)>10))),(1,.pointer (some ⟨b1,0,none⟩))] w1 kr ?_
 by_cases fk3:(c.af:Int)>10
 exact J.head (.bool true) (congrArg Value.bool (decide_eq_true fk3))<|J.run 36 K10_9 [(2,.bool false)] w1 kr<|J.ret Tryz.f10 [.bool false] func10 ⟨kr,trivial⟩<|hR _ _<|⟨congrArg Value.bool (by rw[Bool.eq_iff_iff];first | (simp[aM,bc,aO,fk1,fk2,fk3];done) | (simp[aM,bc,aO,fk1,fk2,fk3];omega) | (simp[aM,bc,fk1,fk2,fk3];intros;omega)),S1.nil⟩
 refine J.head (.bool false) (congrArg Value.bool (decide_eq_false fk3))<|J.run 1 K10_10 [(23,.pointer (some ⟨b1,0,none⟩)),(22,.bool false),(1,.pointer (some ⟨b1,0,none⟩))] w1 kr<|J.ok (OK.ldBox S1 0 24 22 0 (.slice c.al c.aj c.ao) kr rfl kr)<|J.callF 25 37 #[.slice c.al c.aj c.ao] hb37 kr (rnames_any c.al c.aj c.ao c.aB _ (q2.sep S1) om om q3) ?_
 rintro _ w2 ⟨rfl,T1⟩
 have S2:Sep w [box b1 [.slice c.al c.aj c.ao,.slice c.ak c.af c.am,.int .i64 c.av,.slice c.aq c.ai c.au] 25] w2:=S1.trans T1
 clear T1 S1
 refine J.run 3 K10_11 [(28,.bool (!(bM c.aB))),(1,.pointer (some ⟨b1,0,none⟩))] w2 kr ?_
 rcases Bool.eq_false_or_eq_true (bM c.aB) with fk4 | fk4
 refine J.head (.bool false) (congrArg Value.bool (by rw[fk4];rfl))<|J.run 1 K10_12 [(29,.pointer (some ⟨b1,1,none⟩)),(28,.bool false),(1,.pointer (some ⟨b1,0,none⟩))] w2 kr<|J.ok (OK.ldBox S2 0 30 22 1 (.slice c.ak c.af c.am) kr rfl kr)<|J.callF 31 37 #[.slice c.ak c.af c.am] hb37 kr (rnames_any c.ak c.af c.am c.ay _ (q5.sep S2) om om q6) ?_
 rintro _ w3 ⟨rfl,T2⟩
 have S3:Sep w [box b1 [.slice c.al c.aj c.ao,.slice c.ak c.af c.am,.int .i64 c.av,.slice c.aq c.ai c.au] 25] w3:=S2.trans T2
 clear T2 S2
 refine J.run 3 K10_13 [(34,.bool (!(bM c.ay))),(1,.pointer (some ⟨b1,0,none⟩))] w3 kr ?_
 rcases Bool.eq_false_or_eq_true (bM c.ay) with fk5 | fk5
 refine J.head (.bool false) (congrArg Value.bool (by rw[fk5];rfl))<|J.run 1 K10_14 [(35,.pointer (some ⟨b1,2,none⟩)),(34,.bool false),(1,.pointer (some ⟨b1,0,none⟩))] w3 kr<|J.ok (OK.ldBox S3 0 36 3 2 (.int .i64 c.av) kr rfl kr)<|J.run 3 K10_15 [(39,.bool (decide (c.av<0))),(1,.pointer (some ⟨b1,0,none⟩))] w3 kr ?_
 by_cases fk6:c.av<0
 exact J.head (.bool true) (congrArg Value.bool (decide_eq_true fk6))<|J.run 19 K10_16 [(2,.bool false)] w3 kr<|J.ret Tryz.f10 [.bool false] func10 ⟨kr,trivial⟩<|hR _ _<|⟨congrArg Value.bool (by rw[Bool.eq_iff_iff];first | (simp[aM,bc,aO,fk1,fk2,fk3,fk4,fk5,fk6];done) | (simp[aM,bc,aO,fk1,fk2,fk3,fk4,fk5,fk6];omega) | (simp[aM,bc,fk1,fk2,fk3,fk4,fk5,fk6];intros;omega)),S3.nil⟩
 refine J.head (.bool false) (congrArg Value.bool (decide_eq_false fk6))<|J.run 1 K10_17 [(40,.pointer (some ⟨b1,2,none⟩)),(39,.bool false),(1,.pointer (some ⟨b1,0,none⟩))] w3 kr<|J.ok (OK.ldBox S3 0 41 3 2 (.int .i64 c.av) kr rfl kr)<|J.run 1 K10_18 [(42,.pointer (some ⟨b1,0,none⟩)),(41,.int .i64 c.av),(39,.bool false),(1,.pointer (some ⟨b1,0,none⟩))] w3 kr<|J.ok (OK.ldBox S3 0 43 22 0 (.slice c.al c.aj c.ao) kr rfl kr)<|J.run 4 K10_19 [(47,.bool (decide (c.av≥(c.aj:Int)))),(1,.pointer (some ⟨b1,0,none⟩))] w3 kr ?_
 by_cases fk7:c.av≥(c.aj:Int)
 exact J.head (.bool true) (congrArg Value.bool (decide_eq_true fk7))<|J.run 11 K10_20 [(2,.bool false)] w3 kr<|J.ret Tryz.f10 [.bool false] func10 ⟨kr,trivial⟩<|hR _ _<|⟨congrArg Value.bool (by rw[Bool.eq_iff_iff];first | (simp[aM,bc,aO,fk1,fk2,fk3,fk4,fk5,fk6,fk7];done) | (simp[aM,bc,aO,fk1,fk2,fk3,fk4,fk5,fk6,fk7];omega) | (simp[aM,bc,fk1,fk2,fk3,fk4,fk5,fk6,fk7];intros;omega)),S3.nil⟩
 refine J.head (.bool false) (congrArg Value.bool (decide_eq_false fk7))<|J.run 1 K10_21 [(48,.pointer (some ⟨b1,3,none⟩)),(47,.bool false),(1,.pointer (some ⟨b1,0,none⟩))] w3 kr<|J.ok (OK.ldBox S3 0 49 23 3 (.slice c.aq c.ai c.au) kr rfl kr)<|J.run 4 K10_22 [(52,.bool (decide ((c.ai:Int)>100))),(1,.pointer (some ⟨b1,0,none⟩))] w3 kr ?_
 by_cases fk8:(c.ai:Int)>100
 exact J.head (.bool true) (congrArg Value.bool (decide_eq_true fk8))<|J.run 5 K10_23 [(2,.bool false)] w3 kr<|J.ret Tryz.f10 [.bool false] func10 ⟨kr,trivial⟩<|hR _ _<|⟨congrArg Value.bool (by rw[Bool.eq_iff_iff];first | (simp[aM,bc,aO,fk1,fk2,fk3,fk4,fk5,fk6,fk7,fk8];done) | (simp[aM,bc,aO,fk1,fk2,fk3,fk4,fk5,fk6,fk7,fk8];omega) | (simp[aM,bc,fk1,fk2,fk3,fk4,fk5,fk6,fk7,fk8];intros;omega)),S3.nil⟩
 refine J.head (.bool false) (congrArg Value.bool (decide_eq_false fk8))<|J.run 5 K10_24 [(53,.pointer (some ⟨b1,1,none⟩)),(1,.pointer (some ⟨b1,0,none⟩))] w3 kr<|J.ok (OK.ldBox S3 0 54 22 1 (.slice c.ak c.af c.am) kr rfl kr)<|J.run 1 K10_25 [(55,.int .i64 (c.af:Int)),(1,.pointer (some ⟨b1,0,none⟩))] w3 kr ?_
 have:=pow10 (n:=c.af) om
 refine J.ok (OK.shl 56 .i64 1 (c.af:Int) (2^c.af) kr om (shl_one rfl om))<|J.run 1 K10_26 [(57,.int .i64 (IntKind.wrap .i64 ((2^c.af)-1))),(1,.pointer (some ⟨b1,0,none⟩))] w3 kr<|J.head (.int .i64 ((2^c.af)-1)) (congrArg (Value.int .i64) (IntWalk.i64_in _ om))<|J.run 9 K10_27 [(4,.int .i64 0),(3,.int .i64 ((2^c.af)-1)),(1,.pointer (some ⟨b1,0,none⟩))] w3 kr ?_
 have L10_1:∀ (mm_:Nat) (i:Int) (w4:World),(0≤i)→(i≤(c.ai:Int))→(∀ j,j<(i).toNat→mvB c.aj (2^c.af-1) (c.ab.getD j (⟨0,0,0,0,0⟩:Mv))=true)→Sep w [box b1 [.slice c.al c.aj c.ao,.slice c.ak c.af c.am,.int .i64 c.av,.slice c.aq c.ai c.au] 25] w4→((c.ai:Int)-i).toNat=mm_→J prog 10 134 R K10_27 [(4,.int .i64 i),(3,.int .i64 ((2^c.af)-1)),(1,.pointer (some ⟨b1,0,none⟩))] w4:=by
  intro mm1
  induction mm1 using Nat.strongRecOn with
  | _ mm1 ih1 =>
  intro i w4 h0 h1 hq S4 hm1
  refine J.run 5 K10_28 [(59,.pointer (some ⟨b1,3,none⟩)),(58,.int .i64 i),(4,.int .i64 i),(3,.int .i64 ((2^c.af)-1)),(1,.pointer (some ⟨b1,0,none⟩))] w4 kr<|J.ok (OK.ldBox S4 0 60 23 3 (.slice c.aq c.ai c.au) kr rfl kr)<|J.run 3 K10_29 [(62,.bool (decide (i<(c.ai:Int)))),(4,.int .i64 i),(3,.int .i64 ((2^c.af)-1)),(1,.pointer (some ⟨b1,0,none⟩))] w4 kr ?_
  by_cases fk9:i<(c.ai:Int)
  refine J.head (.bool true) (congrArg Value.bool (decide_eq_true fk9))<|J.run 7 K10_30 [(65,.pointer (some ⟨b1,3,none⟩)),(4,.int .i64 i),(3,.int .i64 ((2^c.af)-1)),(1,.pointer (some ⟨b1,0,none⟩))] w4 kr<|J.ok (OK.ldBox S4 0 66 23 3 (.slice c.aq c.ai c.au) kr rfl kr)<|J.run 1 K10_31 [(67,.int .i64 i),(66,.slice c.aq c.ai c.au),(4,.int .i64 i),(3,.int .i64 ((2^c.af)-1)),(1,.pointer (some ⟨b1,0,none⟩))] w4 kr ?_
  obtain ⟨p1,hp1,hc1⟩:=q9.at (⟨0,0,0,0,0⟩:Mv) (i).toNat om
  have hel1:=bu q10 (⟨0,0,0,0,0⟩:Mv) (n:=(i).toNat) (by have:=q9.len_eq;omega)
  obtain ⟨q11,q12,q13,q14,q15,_⟩:=id hel1
  refine J.ok (OK.index 68 23 5 c.aq p1 c.ai (i).toNat i (p1.add ((i).toNat*5)) kr kr hp1 om om rfl)<|J.ok (OK.ldCells 69 57 (p1.add ((i).toNat*5)) [.int .i64 ((c.ab.getD (i).toNat (⟨0,0,0,0,0⟩:Mv)).aC),.int .i64 ((c.ab.getD (i).toNat (⟨0,0,0,0,0⟩:Mv)).gTo),.int .i64 ((c.ab.getD (i).toNat (⟨0,0,0,0,0⟩:Mv)).gOn),.int .i64 ((c.ab.getD (i).toNat (⟨0,0,0,0,0⟩:Mv)).aN),.int .i64 ((c.ab.getD (i).toNat (⟨0,0,0,0,0⟩:Mv)).ax)] kr kr kr (fun j_ v_ hj_=>S4.cell (hc1 j_ v_ hj_)))<|J.new S4 5 [.int .i64 0,.int .i64 0,.int .i64 0,.int .i64 0,.int .i64 0] 57 kr ?_
  intro b2 w5 S5
  refine J.stBox S5 0 57 0 (.agg #[.int .i64 ((c.ab.getD (i).toNat (⟨0,0,0,0,0⟩:Mv)).aC),.int .i64 ((c.ab.getD (i).toNat (⟨0,0,0,0,0⟩:Mv)).gTo),.int .i64 ((c.ab.getD (i).toNat (⟨0,0,0,0,0⟩:Mv)).gOn),.int .i64 ((c.ab.getD (i).toNat (⟨0,0,0,0,0⟩:Mv)).aN),.int .i64 ((c.ab.getD (i).toNat (⟨0,0,0,0,0⟩:Mv)).ax)]) [.int .i64 ((c.ab.getD (i).toNat (⟨0,0,0,0,0⟩:Mv)).aC),.int .i64 ((c.ab.getD (i).toNat (⟨0,0,0,0,0⟩:Mv)).gTo),.int .i64 ((c.ab.getD (i).toNat (⟨0,0,0,0,0⟩:Mv)).gOn),.int .i64 ((c.ab.getD (i).toNat (⟨0,0,0,0,0⟩:Mv)).aN),.int .i64 ((c.ab.getD (i).toNat (⟨0,0,0,0,0⟩:Mv)).ax)] [box b2 [.int .i64 ((c.ab.getD (i).toNat (⟨0,0,0,0,0⟩:Mv)).aC),.int .i64 ((c.ab.getD (i).toNat (⟨0,0,0,0,0⟩:Mv)).gTo),.int .i64 ((c.ab.getD (i).toNat (⟨0,0,0,0,0⟩:Mv)).gOn),.int .i64 ((c.ab.getD (i).toNat (⟨0,0,0,0,0⟩:Mv)).aN),.int .i64 ((c.ab.getD (i).toNat (⟨0,0,0,0,0⟩:Mv)).ax)] 57,box b1 [.slice c.al c.aj c.ao,.slice c.ak c.af c.am,.int .i64 c.av,.slice c.aq c.ai c.au] 25] kr rfl kr kr rfl ?_
  intro w6 S6
  refine J.run 4 K10_32 [(70,.pointer (some ⟨b2,0,none⟩)),(5,.pointer (some ⟨b2,0,none⟩)),(4,.int .i64 i),(3,.int .i64 ((2^c.af)-1)),(1,.pointer (some ⟨b1,0,none⟩))] w6 kr<|J.ok (OK.ldBox S6 0 71 3 0 (.int .i64 ((c.ab.getD (i).toNat (⟨0,0,0,0,0⟩:Mv)).aC)) kr rfl kr)<|J.run 2 K10_33 [(73,.bool (decide (((c.ab.getD (i).toNat (⟨0,0,0,0,0⟩:Mv)).aC)<0))),(5,.pointer (some ⟨b2,0,none⟩)),(4,.int .i64 i),(3,.int .i64 ((2^c.af)-1)),(1,.pointer (some ⟨b1,0,none⟩))] w6 kr ?_
  by_cases fk10:((c.ab.getD (i).toNat (⟨0,0,0,0,0⟩:Mv)).aC)<0
  exact J.head (.bool true) (congrArg Value.bool (decide_eq_true fk10))<|J.run 66 K10_34 [(2,.bool false)] w6 kr<|J.ret Tryz.f10 [.bool false] func10 ⟨kr,trivial⟩<|hR _ _<|⟨congrArg Value.bool (bV h0 om (by rw[Bool.eq_iff_iff];simp only[mvB,Bool.and_eq_true,decide_eq_true_eq,beq_iff_eq,Bool.false_eq_true,iff_false];omega)).symm,S6.nil⟩
  refine J.head (.bool false) (congrArg Value.bool (decide_eq_false fk10))<|J.run 1 K10_35 [(74,.pointer (some ⟨b2,0,none⟩)),(73,.bool false),(5,.pointer (some ⟨b2,0,none⟩)),(4,.int .i64 i),(3,.int .i64 ((2^c.af)-1)),(1,.pointer (some ⟨b1,0,none⟩))] w6 kr<|J.ok (OK.ldBox S6 0 75 3 0 (.int .i64 ((c.ab.getD (i).toNat (⟨0,0,0,0,0⟩:Mv)).aC)) kr rfl kr)<|J.run 1 K10_36 [(76,.pointer (some ⟨b1,0,none⟩)),(75,.int .i64 ((c.ab.getD (i).toNat (⟨0,0,0,0,0⟩:Mv)).aC)),(73,.bool false),(5,.pointer (some ⟨b2,0,none⟩)),(4,.int .i64 i),(3,.int .i64 ((2^c.af)-1)),(1,.pointer (some ⟨b1,0,none⟩))] w6 kr<|J.ok (OK.ldBox S6 1 77 22 0 (.slice c.al c.aj c.ao) kr rfl kr)<|J.run 4 K10_37 [(81,.bool (decide (((c.ab.getD (i).toNat (⟨0,0,0,0,0⟩:Mv)).aC)≥(c.aj:Int)))),(5,.pointer (some ⟨b2,0,none⟩)),(4,.int .i64 i),(3,.int .i64 ((2^c.af)-1)),(1,.pointer (some ⟨b1,0,none⟩))] w6 kr ?_
  by_cases fk11:((c.ab.getD (i).toNat (⟨0,0,0,0,0⟩:Mv)).aC)≥(c.aj:Int)
  exact J.head (.bool true) (congrArg Value.bool (decide_eq_true fk11))<|J.run 58 K10_38 [(2,.bool false)] w6 kr<|J.ret Tryz.f10 [.bool false] func10 ⟨kr,trivial⟩<|hR _ _<|⟨congrArg Value.bool (bV h0 om (by rw[Bool.eq_iff_iff];simp only[mvB,Bool.and_eq_true,decide_eq_true_eq,beq_iff_eq,Bool.false_eq_true,iff_false];omega)).symm,S6.nil⟩
  refine J.head (.bool false) (congrArg Value.bool (decide_eq_false fk11))<|J.run 1 K10_39 [(82,.pointer (some ⟨b2,1,none⟩)),(81,.bool false),(5,.pointer (some ⟨b2,0,none⟩)),(4,.int .i64 i),(3,.int .i64 ((2^c.af)-1)),(1,.pointer (some ⟨b1,0,none⟩))] w6 kr<|J.ok (OK.ldBox S6 0 83 3 1 (.int .i64 ((c.ab.getD (i).toNat (⟨0,0,0,0,0⟩:Mv)).gTo)) kr rfl kr)<|J.run 3 K10_40 [(86,.bool (decide (((c.ab.getD (i).toNat (⟨0,0,0,0,0⟩:Mv)).gTo)<0))),(5,.pointer (some ⟨b2,0,none⟩)),(4,.int .i64 i),(3,.int .i64 ((2^c.af)-1)),(1,.pointer (some ⟨b1,0,none⟩))] w6 kr ?_
  by_cases fk12:((c.ab.getD (i).toNat (⟨0,0,0,0,0⟩:Mv)).gTo)<0
  exact J.head (.bool true) (congrArg Value.bool (decide_eq_true fk12))<|J.run 53 K10_41 [(2,.bool false)] w6 kr<|J.ret Tryz.f10 [.bool false] func10 ⟨kr,trivial⟩<|hR _ _<|⟨congrArg Value.bool (bV h0 om (by rw[Bool.eq_iff_iff];simp only[mvB,Bool.and_eq_true,decide_eq_true_eq,beq_iff_eq,Bool.false_eq_true,iff_false];omega)).symm,S6.nil⟩
  refine J.head (.bool false) (congrArg Value.bool (decide_eq_false fk12))<|J.run 1 K10_42 [(87,.pointer (some ⟨b2,1,none⟩)),(86,.bool false),(5,.pointer (some ⟨b2,0,none⟩)),(4,.int .i64 i),(3,.int .i64 ((2^c.af)-1)),(1,.pointer (some ⟨b1,0,none⟩))] w6 kr<|J.ok (OK.ldBox S6 0 88 3 1 (.int .i64 ((c.ab.getD (i).toNat (⟨0,0,0,0,0⟩:Mv)).gTo)) kr rfl kr)<|J.run 1 K10_43 [(89,.pointer (some ⟨b1,0,none⟩)),(88,.int .i64 ((c.ab.getD (i).toNat (⟨0,0,0,0,0⟩:Mv)).gTo)),(86,.bool false),(5,.pointer (some ⟨b2,0,none⟩)),(4,.int .i64 i),(3,.int .i64 ((2^c.af)-1)),(1,.pointer (some ⟨b1,0,none⟩))] w6 kr<|J.ok (OK.ldBox S6 1 90 22 0 (.slice c.al c.aj c.ao) kr rfl kr)<|J.run 4 K10_44 [(94,.bool (decide (((c.ab.getD (i).toNat (⟨0,0,0,0,0⟩:Mv)).gTo)≥(c.aj:Int)))),(5,.pointer (some ⟨b2,0,none⟩)),(4,.int .i64 i),(3,.int .i64 ((2^c.af)-1)),(1,.pointer (some ⟨b1,0,none⟩))] w6 kr ?_
  by_cases fk13:((c.ab.getD (i).toNat (⟨0,0,0,0,0⟩:Mv)).gTo)≥(c.aj:Int)
  exact J.head (.bool true) (congrArg Value.bool (decide_eq_true fk13))<|J.run 45 K10_45 [(2,.bool false)] w6 kr<|J.ret Tryz.f10 [.bool false] func10 ⟨kr,trivial⟩<|hR _ _<|⟨congrArg Value.bool (bV h0 om (by rw[Bool.eq_iff_iff];simp only[mvB,Bool.and_eq_true,decide_eq_true_eq,beq_iff_eq,Bool.false_eq_true,iff_false];omega)).symm,S6.nil⟩
  refine J.head (.bool false) (congrArg Value.bool (decide_eq_false fk13))<|J.run 1 K10_46 [(95,.pointer (some ⟨b2,2,none⟩)),(94,.bool false),(5,.pointer (some ⟨b2,0,none⟩)),(4,.int .i64 i),(3,.int .i64 ((2^c.af)-1)),(1,.pointer (some ⟨b1,0,none⟩))] w6 kr<|J.ok (OK.ldBox S6 0 96 3 2 (.int .i64 ((c.ab.getD (i).toNat (⟨0,0,0,0,0⟩:Mv)).gOn)) kr rfl kr)<|J.run 3 K10_47 [(99,.bool (decide (((c.ab.getD (i).toNat (⟨0,0,0,0,0⟩:Mv)).gOn)<0))),(5,.pointer (some ⟨b2,0,none⟩)),(4,.int .i64 i),(3,.int .i64 ((2^c.af)-1)),(1,.pointer (some ⟨b1,0,none⟩))] w6 kr ?_
  by_cases fk14:((c.ab.getD (i).toNat (⟨0,0,0,0,0⟩:Mv)).gOn)<0
  exact J.head (.bool true) (congrArg Value.bool (decide_eq_true fk14))<|J.run 40 K10_48 [(2,.bool false)] w6 kr<|J.ret Tryz.f10 [.bool false] func10 ⟨kr,trivial⟩<|hR _ _<|⟨congrArg Value.bool (bV h0 om (by rw[Bool.eq_iff_iff];simp only[mvB,Bool.and_eq_true,decide_eq_true_eq,beq_iff_eq,Bool.false_eq_true,iff_false];omega)).symm,S6.nil⟩
  refine J.head (.bool false) (congrArg Value.bool (decide_eq_false fk14))<|J.run 1 K10_49 [(100,.pointer (some ⟨b2,2,none⟩)),(99,.bool false),(5,.pointer (some ⟨b2,0,none⟩)),(4,.int .i64 i),(3,.int .i64 ((2^c.af)-1)),(1,.pointer (some ⟨b1,0,none⟩))] w6 kr<|J.ok (OK.ldBox S6 0 101 3 2 (.int .i64 ((c.ab.getD (i).toNat (⟨0,0,0,0,0⟩:Mv)).gOn)) kr rfl kr)<|J.run 4 K10_50 [(105,.bool (decide (((c.ab.getD (i).toNat (⟨0,0,0,0,0⟩:Mv)).gOn)>((2^c.af)-1)))),(5,.pointer (some ⟨b2,0,none⟩)),(4,.int .i64 i),(3,.int .i64 ((2^c.af)-1)),(1,.pointer (some ⟨b1,0,none⟩))] w6 kr ?_
  by_cases fk15:((c.ab.getD (i).toNat (⟨0,0,0,0,0⟩:Mv)).gOn)>((2^c.af)-1)
  exact J.head (.bool true) (congrArg Value.bool (decide_eq_true fk15))<|J.run 34 K10_51 [(2,.bool false)] w6 kr<|J.ret Tryz.f10 [.bool false] func10 ⟨kr,trivial⟩<|hR _ _<|⟨congrArg Value.bool (bV h0 om (by rw[Bool.eq_iff_iff];simp only[mvB,Bool.and_eq_true,decide_eq_true_eq,beq_iff_eq,Bool.false_eq_true,iff_false];omega)).symm,S6.nil⟩
  refine J.head (.bool false) (congrArg Value.bool (decide_eq_false fk15))<|J.run 1 K10_52 [(106,.pointer (some ⟨b2,3,none⟩)),(105,.bool false),(5,.pointer (some ⟨b2,0,none⟩)),(4,.int .i64 i),(3,.int .i64 ((2^c.af)-1)),(1,.pointer (some ⟨b1,0,none⟩))] w6 kr<|J.ok (OK.ldBox S6 0 107 3 3 (.int .i64 ((c.ab.getD (i).toNat (⟨0,0,0,0,0⟩:Mv)).aN)) kr rfl kr)<|J.run 3 K10_53 [(110,.bool (decide (((c.ab.getD (i).toNat (⟨0,0,0,0,0⟩:Mv)).aN)<0))),(5,.pointer (some ⟨b2,0,none⟩)),(4,.int .i64 i),(3,.int .i64 ((2^c.af)-1)),(1,.pointer (some ⟨b1,0,none⟩))] w6 kr ?_
  by_cases fk16:((c.ab.getD (i).toNat (⟨0,0,0,0,0⟩:Mv)).aN)<0
  exact J.head (.bool true) (congrArg Value.bool (decide_eq_true fk16))<|J.run 29 K10_54 [(2,.bool false)] w6 kr<|J.ret Tryz.f10 [.bool false] func10 ⟨kr,trivial⟩<|hR _ _<|⟨congrArg Value.bool (bV h0 om (by rw[Bool.eq_iff_iff];simp only[mvB,Bool.and_eq_true,decide_eq_true_eq,beq_iff_eq,Bool.false_eq_true,iff_false];omega)).symm,S6.nil⟩
  refine J.head (.bool false) (congrArg Value.bool (decide_eq_false fk16))<|J.run 1 K10_55 [(111,.pointer (some ⟨b2,3,none⟩)),(110,.bool false),(5,.pointer (some ⟨b2,0,none⟩)),(4,.int .i64 i),(3,.int .i64 ((2^c.af)-1)),(1,.pointer (some ⟨b1,0,none⟩))] w6 kr<|J.ok (OK.ldBox S6 0 112 3 3 (.int .i64 ((c.ab.getD (i).toNat (⟨0,0,0,0,0⟩:Mv)).aN)) kr rfl kr)<|J.run 4 K10_56 [(116,.bool (decide (((c.ab.getD (i).toNat (⟨0,0,0,0,0⟩:Mv)).aN)>((2^c.af)-1)))),(5,.pointer (some ⟨b2,0,none⟩)),(4,.int .i64 i),(3,.int .i64 ((2^c.af)-1)),(1,.pointer (some ⟨b1,0,none⟩))] w6 kr ?_
  by_cases fk17:((c.ab.getD (i).toNat (⟨0,0,0,0,0⟩:Mv)).aN)>((2^c.af)-1)
  exact J.head (.bool true) (congrArg Value.bool (decide_eq_true fk17))<|J.run 23 K10_57 [(2,.bool false)] w6 kr<|J.ret Tryz.f10 [.bool false] func10 ⟨kr,trivial⟩<|hR _ _<|⟨congrArg Value.bool (bV h0 om (by rw[Bool.eq_iff_iff];simp only[mvB,Bool.and_eq_true,decide_eq_true_eq,beq_iff_eq,Bool.false_eq_true,iff_false];omega)).symm,S6.nil⟩
  refine J.head (.bool false) (congrArg Value.bool (decide_eq_false fk17))<|J.run 1 K10_58 [(117,.pointer (some ⟨b2,2,none⟩)),(116,.bool false),(5,.pointer (some ⟨b2,0,none⟩)),(4,.int .i64 i),(3,.int .i64 ((2^c.af)-1)),(1,.pointer (some ⟨b1,0,none⟩))] w6 kr<|J.ok (OK.ldBox S6 0 118 3 2 (.int .i64 ((c.ab.getD (i).toNat (⟨0,0,0,0,0⟩:Mv)).gOn)) kr rfl kr)<|J.run 1 K10_59 [(119,.pointer (some ⟨b2,3,none⟩)),(118,.int .i64 ((c.ab.getD (i).toNat (⟨0,0,0,0,0⟩:Mv)).gOn)),(116,.bool false),(5,.pointer (some ⟨b2,0,none⟩)),(4,.int .i64 i),(3,.int .i64 ((2^c.af)-1)),(1,.pointer (some ⟨b1,0,none⟩))] w6 kr<|J.ok (OK.ldBox S6 0 120 3 3 (.int .i64 ((c.ab.getD (i).toNat (⟨0,0,0,0,0⟩:Mv)).aN)) kr rfl kr)<|J.run 1 K10_60 [(121,.int .i64 (IntKind.wrap .i64 ((BitVec.ofInt 64 ((c.ab.getD (i).toNat (⟨0,0,0,0,0⟩:Mv)).gOn) &&& (BitVec.ofInt 64 ((c.ab.getD (i).toNat (⟨0,0,0,0,0⟩:Mv)).aN))).toNat:Int))),(116,.bool false),(5,.pointer (some ⟨b2,0,none⟩)),(4,.int .i64 i),(3,.int .i64 ((2^c.af)-1)),(1,.pointer (some ⟨b1,0,none⟩))] w6 kr<|J.head (.int .i64 (andF ((c.ab.getD (i).toNat (⟨0,0,0,0,0⟩:Mv)).gOn) ((c.ab.getD (i).toNat (⟨0,0,0,0,0⟩:Mv)).aN))) (congrArg (Value.int .i64) rfl)<|J.run 3 K10_61 [(124,.bool ((andF ((c.ab.getD (i).toNat (⟨0,0,0,0,0⟩:Mv)).gOn) ((c.ab.getD (i).toNat (⟨0,0,0,0,0⟩:Mv)).aN)) != 0)),(5,.pointer (some ⟨b2,0,none⟩)),(4,.int .i64 i),(3,.int .i64 ((2^c.af)-1)),(1,.pointer (some ⟨b1,0,none⟩))] w6 kr ?_
  by_cases fk18:(andF ((c.ab.getD (i).toNat (⟨0,0,0,0,0⟩:Mv)).gOn) ((c.ab.getD (i).toNat (⟨0,0,0,0,0⟩:Mv)).aN))=0
  refine J.head (.bool false) (congrArg Value.bool (bne_eq_false_iff_eq.2 fk18))<|J.run 1 K10_62 [(125,.pointer (some ⟨b2,4,none⟩)),(124,.bool false),(5,.pointer (some ⟨b2,0,none⟩)),(4,.int .i64 i),(3,.int .i64 ((2^c.af)-1)),(1,.pointer (some ⟨b1,0,none⟩))] w6 kr<|J.ok (OK.ldBox S6 0 126 3 4 (.int .i64 ((c.ab.getD (i).toNat (⟨0,0,0,0,0⟩:Mv)).ax)) kr rfl kr)<|J.run 3 K10_63 [(129,.bool (decide (((c.ab.getD (i).toNat (⟨0,0,0,0,0⟩:Mv)).ax)<0))),(5,.pointer (some ⟨b2,0,none⟩)),(4,.int .i64 i),(3,.int .i64 ((2^c.af)-1)),(1,.pointer (some ⟨b1,0,none⟩))] w6 kr ?_
  by_cases fk19:((c.ab.getD (i).toNat (⟨0,0,0,0,0⟩:Mv)).ax)<0
  exact J.head (.bool true) (congrArg Value.bool (decide_eq_true fk19))<|J.run 10 K10_64 [(2,.bool false)] w6 kr<|J.ret Tryz.f10 [.bool false] func10 ⟨kr,trivial⟩<|hR _ _<|⟨congrArg Value.bool (bV h0 om (by rw[Bool.eq_iff_iff];simp only[mvB,Bool.and_eq_true,decide_eq_true_eq,beq_iff_eq,Bool.false_eq_true,iff_false];omega)).symm,S6.nil⟩
  refine J.head (.bool false) (congrArg Value.bool (decide_eq_false fk19))<|J.run 1 K10_65 [(130,.pointer (some ⟨b2,4,none⟩)),(129,.bool false),(4,.int .i64 i),(3,.int .i64 ((2^c.af)-1)),(1,.pointer (some ⟨b1,0,none⟩))] w6 kr<|J.ok (OK.ldBox S6 0 131 3 4 (.int .i64 ((c.ab.getD (i).toNat (⟨0,0,0,0,0⟩:Mv)).ax)) kr rfl kr)<|J.run 3 K10_66 [(133,.bool (decide (((c.ab.getD (i).toNat (⟨0,0,0,0,0⟩:Mv)).ax)>1000))),(4,.int .i64 i),(3,.int .i64 ((2^c.af)-1)),(1,.pointer (some ⟨b1,0,none⟩))] w6 kr ?_
  by_cases fk20:((c.ab.getD (i).toNat (⟨0,0,0,0,0⟩:Mv)).ax)>1000
  exact J.head (.bool true) (congrArg Value.bool (decide_eq_true fk20))<|J.run 5 K10_67 [(2,.bool false)] w6 kr<|J.ret Tryz.f10 [.bool false] func10 ⟨kr,trivial⟩<|hR _ _<|⟨congrArg Value.bool (bV h0 om (by rw[Bool.eq_iff_iff];simp only[mvB,Bool.and_eq_true,decide_eq_true_eq,beq_iff_eq,Bool.false_eq_true,iff_false];omega)).symm,S6.nil⟩
  refine J.head (.bool false) (congrArg Value.bool (decide_eq_false fk20))<|J.run 6 K10_68 [(64,.int .i64 (IntKind.wrap .i64 (i+1))),(3,.int .i64 ((2^c.af)-1)),(1,.pointer (some ⟨b1,0,none⟩))] w6 kr<|J.head (.int .i64 (i+1)) (congrArg (Value.int .i64) (IntWalk.i64_in _ om))<|J.run 3 K10_27 [(4,.int .i64 (i+1)),(3,.int .i64 ((2^c.af)-1)),(1,.pointer (some ⟨b1,0,none⟩))] w6 kr ?_
  have S7:Sep w [box b1 [.slice c.al c.aj c.ao,.slice c.ak c.af c.am,.int .i64 c.av,.slice c.aq c.ai c.au] 25] w6:=S6.erase 0
  clear S6
  exact J.run 0 K10_27 [(4,.int .i64 (i+1)),(3,.int .i64 ((2^c.af)-1)),(1,.pointer (some ⟨b1,0,none⟩))] w6 kr<|ih1 _ (show((c.ai:Int)-(i+1)).toNat<mm1 from by omega) (i+1) w6 om om (by intro j hj;by_cases e:j=i.toNat;(subst e;simp only[mvB,Bool.and_eq_true,decide_eq_true_eq,beq_iff_eq];omega);exact hq j om) S7 rfl
  exact J.head (.bool true) (congrArg Value.bool (bne_iff_ne.2 fk18))<|J.run 15 K10_69 [(2,.bool false)] w6 kr<|J.ret Tryz.f10 [.bool false] func10 ⟨kr,trivial⟩<|hR _ _<|⟨congrArg Value.bool (bV h0 om (by rw[Bool.eq_iff_iff];simp only[mvB,Bool.and_eq_true,decide_eq_true_eq,beq_iff_eq,Bool.false_eq_true,iff_false];omega)).symm,S6.nil⟩
  refine J.head (.bool false) (congrArg Value.bool (decide_eq_false fk9))<|J.run 6 K10_70 [(2,.bool true)] w4 kr<|J.ret Tryz.f10 [.bool true] func10 ⟨kr,trivial⟩<|hR _ _ ?_
  have hall:c.ab.all (mvB c.aj (2^c.af-1))=true:=all_moves fun j hj=>hq j om
  exact⟨congrArg Value.bool (by rw[Bool.eq_iff_iff];simp[aM,bc,hall,fk1,fk2,fk3,fk4,fk5,fk6,fk7,fk8,fk9];omega),S4.nil⟩
 exact L10_1 _ 0 w3 om om (by intro j hj;simp at hj) S3 rfl
 exact J.head (.bool true) (congrArg Value.bool (by rw[fk5];rfl))<|J.run 24 K10_71 [(2,.bool false)] w3 kr<|J.ret Tryz.f10 [.bool false] func10 ⟨kr,trivial⟩<|hR _ _<|⟨congrArg Value.bool (by rw[Bool.eq_iff_iff];first | (simp[aM,bc,aO,fk1,fk2,fk3,fk4,fk5];done) | (simp[aM,bc,aO,fk1,fk2,fk3,fk4,fk5];omega) | (simp[aM,bc,fk1,fk2,fk3,fk4,fk5];intros;omega)),S3.nil⟩
 exact J.head (.bool true) (congrArg Value.bool (by rw[fk4];rfl))<|J.run 30 K10_72 [(2,.bool false)] w2 kr<|J.ret Tryz.f10 [.bool false] func10 ⟨kr,trivial⟩<|hR _ _<|⟨congrArg Value.bool (by rw[Bool.eq_iff_iff];first | (simp[aM,bc,aO,fk1,fk2,fk3,fk4];done) | (simp[aM,bc,aO,fk1,fk2,fk3,fk4];omega) | (simp[aM,bc,fk1,fk2,fk3,fk4];intros;omega)),S2.nil⟩

end
end Go.Proofs.YtdneanhkcnfgdaaGreatDoor

