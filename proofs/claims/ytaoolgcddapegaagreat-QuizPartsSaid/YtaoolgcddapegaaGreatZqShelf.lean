/-
  DERIVED: THE SHELF's CONTRACTS AT THIS DUMP, IN PLAIN WORDS (tools/lay-plain.mjs out of 'YtaoolgcddapegaaGreatShelf.lean', which tools/lay-shelf.mjs wrote): THE SAME DECLARATIONS UNDER THE SAME NAMES: 'import', 'namespace', 'open', 'def', 'theorem' AND NOTHING ELSE: no command of the shelf's: FOR A HAND-IN. Each laying: the table of numbers ('.._ren') and one theorem, a field a fact of the dump's own or the kernel's comparison; each contract: ONE APPLICATION.
-/
import Derived.Shelf.Small.Bits
import Derived.Shelf.Small.Strs
import Derived.Shelf.Strconv.Itoa0
import Derived.Shelf.Strings.Search1
import Derived.Shelf.Strings.Prefix
import Derived.Shelf.Bits.Mul64
import Derived.Ground.Names2Prog
import Derived.Shelf.Slices.Clone
import Derived.Ground.SlgnProg
import Derived.Shelf.SlicesE.Clone
import Derived.Test.YtaoolgcddapegaaGreatProg
import Derived.Test.YtaoolgcddapegaaGreatZqA1
import Derived.Test.YtaoolgcddapegaaGreatZqEng10
import Derived.Test.YtaoolgcddapegaaGreatZqEng9
set_option linter.unusedSimpArgs false
set_option linter.unusedVariables false
namespace Go.Proofs
open Go.Shelf
def Tryz.lays137_ren:Go.Shelf.Ren:=⟨fun | 137=>124 | 217=>152 | 266=>170 | n=>n,fun | 9=>9 | 5=>5 | 3=>3 | n=>n,fun | n=>n⟩
theorem Tryz.lays137:Go.Proofs.Lays.n137 Tryz.prog Tryz.lays137_ren:={
  mixed:=by kernel_rfl
  f137:=Tryz.func124.trans (congrArg some (by kernel_rfl))
  f217:=Tryz.func152.trans (congrArg some (by kernel_rfl))
  f266:=Tryz.func170.trans (congrArg some (by kernel_rfl))
  t3:=Tryz.underlying3
  a3:=Tryz.isAgg3
  z3:=Tryz.sizeOf3
  v3:=Tryz.zeroValue3
  t5:=Tryz.underlying5
  a5:=Tryz.isAgg5
  z5:=Tryz.sizeOf5
  v5:=Tryz.zeroValue5
  t9:=Tryz.underlying9
  a9:=Tryz.isAgg9
  z9:=Tryz.sizeOf9
  v9:=Tryz.zeroValue9 }
open Go.RowKit in
theorem Tryz.strings_IndexByte (s:ByteArray) (c:Int) (w:World) :
    Calls Tryz.prog 124 #[.string s,.int .u8 c] w fun e w'=>e=.returned (.int .i64 (Lib.indexByte s.data.toList c.toNat.toUInt8))∧w'=w:=Any.strings_IndexByte Tryz.lays137 s c w
def Tryz.lays100_ren:Go.Shelf.Ren:=⟨fun | 100=>125 | 207=>153 | n=>n,fun | 9=>9 | 4=>4 | 3=>3 | n=>n,fun | n=>n⟩
theorem Tryz.lays100:Go.Proofs.Lays.n100 Tryz.prog Tryz.lays100_ren:={
  mixed:=by kernel_rfl
  f100:=Tryz.func125.trans (congrArg some (by kernel_rfl))
  f207:=Tryz.func153.trans (congrArg some (by kernel_rfl))
  t3:=Tryz.underlying3
  a3:=Tryz.isAgg3
  z3:=Tryz.sizeOf3
  v3:=Tryz.zeroValue3
  t4:=Tryz.underlying4
  a4:=Tryz.isAgg4
  z4:=Tryz.sizeOf4
  v4:=Tryz.zeroValue4
  t9:=Tryz.underlying9
  a9:=Tryz.isAgg9
  z9:=Tryz.sizeOf9
  v9:=Tryz.zeroValue9 }
open Go.RowKit Go.Lib in
theorem Tryz.strings_HasSuffix (s p:ByteArray) (w:World) (hs:s.size≤9223372036854775807) :
    Calls Tryz.prog 125 #[.string s,.string p] w fun e w'=>e=.returned (.bool (Lib.hasSuffix s.data.toList p.data.toList))∧w'=w:=Any.strings_HasSuffix Tryz.lays100 s p w hs
end Go.Proofs

namespace Go.Proofs.YtaoolgcddapegaaGreat
open Go.Eng Go.RowKit
set_option maxRecDepth 20000
set_option maxHeartbeats 20000000
abbrev iv (n:Int):Value:=Value.int IntKind.i64 n
abbrev pv (b:Nat):Value:=Value.pointer (some (Addr.mk b 0 none))
theorem dg_step {q:Nat→Prop} {i:Int} (h0:0≤i) (hq:∀ k,k<i.toNat→q k) (h:q i.toNat):∀ k,k<(i+1).toNat→q k:=by
  intro k hk
  by_cases e:k=i.toNat
  · subst e;exact h
  · exact hq k om
end Go.Proofs.YtaoolgcddapegaaGreat
namespace Go.Proofs.YtaoolgcddapegaaGreat
noncomputable section
open Go.Eng Go.RowKit Go.Proofs.Tryz
set_option maxRecDepth 20000
set_option maxHeartbeats 20000000
structure Rw where
  gS_a:Option Addr
  gS_n:Nat
  gS_c:Nat
  cd:List Int
def rwE (x:Rw):List Value:=[.slice x.gS_a x.gS_n x.gS_c]
def rwQ (w:World) (x:Rw):Prop:=(x.gS_n≤x.gS_c∧x.gS_c≤9223372036854775807)∧Ones (Value.int .i64) w x.gS_a x.gS_n x.cd∧(∀ y ∈ x.cd,(fun n=>(-9223372036854775808)≤n∧n≤9223372036854775807) y)∧True
theorem rwQ_sep {w0 w:World} {L:List Eng.Claim} {x:Rw} (h:rwQ w0 x) (S:Sep w0 L w):rwQ w x:=by
  obtain ⟨hgS1,hgS2,hgS3,_⟩:=h
  exact⟨hgS1,hgS2.sep S,hgS3,trivial⟩
structure Mp where
  cF:Option Addr
  aQ:Nat
  dm:Nat
  aG:List Int
  cM:Option Addr
  bB:Nat
  dw:Nat
  aV:List Int
  gZ_a:Option Addr
  dJ:Nat
  gZ_c:Nat
  bh:List Rw
def mpE (x:Mp):List Value:=[.slice x.cF x.aQ x.dm,.slice x.cM x.bB x.dw,.slice x.gZ_a x.dJ x.gZ_c]
def mpQ (w:World) (x:Mp):Prop:=(x.aQ≤x.dm∧x.dm≤9223372036854775807)∧Ones (Value.int .i64) w x.cF x.aQ x.aG∧(∀ y ∈ x.aG,(fun n=>(-9223372036854775808)≤n∧n≤9223372036854775807) y)∧(x.bB≤x.dw∧x.dw≤9223372036854775807)∧Ones (Value.int .i64) w x.cM x.bB x.aV∧(∀ y ∈ x.aV,(fun n=>(-9223372036854775808)≤n∧n≤9223372036854775807) y)∧(x.dJ≤x.gZ_c∧x.gZ_c≤9223372036854775807)∧Recs rwE 1 w x.gZ_a x.dJ x.bh∧(∀ y ∈ x.bh,(rwQ w) y)∧True
theorem dZ {w0 w:World} {L:List Eng.Claim} {x:Mp} (h:mpQ w0 x) (S:Sep w0 L w):mpQ w x:=by
  obtain ⟨hgX1,hgX2,hgX3,hgY1,hgY2,hgY3,hgZ1,hgZ2,hgZ3,_⟩:=h
  exact⟨hgX1,hgX2.sep S,hgX3,hgY1,hgY2.sep S,hgY3,hgZ1,hgZ2.sep S,fun y hy=>rwQ_sep (hgZ3 y hy) S,trivial⟩
abbrev mpC (x:Mp):List Value:=[.slice x.cF x.aQ x.dm,.slice x.cM x.bB x.dw,.slice x.gZ_a x.dJ x.gZ_c]
abbrev mpA (x:Mp):Array Value:=#[.slice x.cF x.aQ x.dm,.slice x.cM x.bB x.dw,.slice x.gZ_a x.dJ x.gZ_c]

def elB (n:Int):Bool:=decide (-1073741824≤n)&&decide (n≤1073741824)
theorem elB_iff {n:Int}:elB n=true↔ -1073741824≤n∧n≤1073741824:=by simp[elB]
def nodeB (l:List Int) (i:Nat):Bool:=elB (l.getD i 0)&&(i==0||decide (l.getD (i-1) 0<l.getD i 0))
def bW (l:List Int):Bool:=decide (2≤l.length)&&decide (l.length≤32)&&(List.range l.length).all (nodeB l)
theorem all_range_false {n j:Nat} {p:Nat→Bool} (h:j<n) (hp:p j=false):(List.range n).all p=false:=by
  rw[List.all_eq_false];exact⟨j,by simpa using h,by simp[hp]⟩
theorem all_range_true {n:Nat} {p:Nat→Bool} (h:∀ j,j<n→p j=true):(List.range n).all p=true:=by
  rw[List.all_eq_true];intro j hj;exact h j (by simpa using hj)
theorem cW {q:Nat→Prop} {i:Int} (h0:0≤i) (hq:∀ k,k<i.toNat→q k) (h:q i.toNat):∀ k,k<(i+1).toNat→q k:=by
  intro k hk
  by_cases e:k=i.toNat
  · subst e;exact h
  · exact hq k om
theorem node_yes {l:List Int} {i:Int} (h0:0≤i) (h:elB (l.getD i.toNat 0)=true) (h2:i=0∨l.getD (i-1).toNat 0<l.getD i.toNat 0):nodeB l i.toNat=true:=by
  unfold nodeB
  rw[h,Bool.true_and,Bool.or_eq_true]
  rcases h2 with h2 | h2
  · left;subst h2;rfl
  · right;rw[show i.toNat-1=(i-1).toNat by omega];exact decide_eq_true h2
theorem node_no {l:List Int} {i:Int} (h0:0≤i) (h:elB (l.getD i.toNat 0)=false∨(0<i∧l.getD i.toNat 0≤l.getD (i-1).toNat 0)):nodeB l i.toNat=false:=by
  unfold nodeB
  rcases h with h | ⟨h1,h2⟩
  · rw[h];rfl
  · rw[beq_eq_false_iff_ne.2 (show i.toNat≠0 by omega),Bool.false_or,show i.toNat-1=(i-1).toNat by omega,decide_eq_false om,Bool.and_false]
theorem axis_no {l:List Int} (h:l.length<2∨32<l.length):bW l=false:=by
  unfold bW
  rcases h with h | h
  · rw[decide_eq_false om];rfl
  · rw[decide_eq_false (show ¬ l.length≤32 by omega)];simp
theorem axis_bad {l:List Int} {i:Int} (h0:0≤i) (hi:i<(l.length:Int)) (h:nodeB l i.toNat=false):bW l=false:=by
  unfold bW;rw[all_range_false (j:=i.toNat) om h];simp
theorem axis_yes {l:List Int} (h1:2≤l.length) (h2:l.length≤32) (h:∀ j,j<l.length→nodeB l j=true):bW l=true:=by
  unfold bW;rw[decide_eq_true h1,decide_eq_true h2,all_range_true h];rfl
theorem bV {l:List Int} (h:bW l=true):(2≤l.length∧l.length≤32)∧(∀ j,j<l.length→ -1073741824≤l.getD j 0∧l.getD j 0≤1073741824)∧∀ j,j+1<l.length→l.getD j 0<l.getD (j+1) 0:=by
  simp only[bW,Bool.and_eq_true,decide_eq_true_eq,List.all_eq_true,List.mem_range] at h
  obtain ⟨⟨h1,h2⟩,h3⟩:=h
  refine⟨⟨h1,h2⟩,fun j hj=>?_,fun j hj=>?_⟩
  · have:=h3 j hj
    simp only[nodeB,Bool.and_eq_true] at this
    exact elB_iff.1 this.1
  · have:=h3 (j+1) hj
    simp only[nodeB,Bool.and_eq_true,Bool.or_eq_true,beq_iff_eq,decide_eq_true_eq,Nat.add_sub_cancel] at this
    rcases this.2 with h4 | h4
    · omega
    · exact h4
theorem cv {l:List Int} (h:bW l=true) {i j:Nat} (hij:i<j) (hj:j<l.length):l.getD i 0<l.getD j 0:=by
  obtain ⟨_,_,h3⟩:=bV h
  induction j with
  | zero=>omega
  | succ j ih =>
    have:=h3 j hj
    by_cases e:i=j
    · subst e;exact this
    · have:=ih om om;omega
def rowB (n:Nat) (r:Rw):Bool:=r.gS_n==n&&r.cd.all elB
def ch (m:Mp):Bool:=bW m.aG&&bW m.aV&&m.dJ==m.aQ&&m.bh.all (rowB m.bB)
def rw0:Rw:=⟨none,0,0,[]⟩
theorem row_no {n:Nat} {r:Rw} (h:r.gS_n≠n∨r.cd.all elB=false):rowB n r=false:=by
  unfold rowB
  rcases h with h | h
  · rw[beq_eq_false_iff_ne.2 h];rfl
  · rw[h,Bool.and_false]
theorem row_yes {n:Nat} {r:Rw} (h:r.gS_n=n) (h2:r.cd.all elB=true):rowB n r=true:=by unfold rowB;rw[h,h2];simp
theorem getD_mem {α:Type} {l:List α} {n:Nat} (d:α) (h:n<l.length):l.getD n d ∈ l:=by
  rw[List.getD_eq_getElem?_getD,List.getElem?_eq_getElem h];exact List.getElem_mem h
theorem cI {α:Type} {l:List α} {q:α→Bool} (d:α):l.all q=true↔∀ j,j<l.length→q (l.getD j d)=true:=by
  rw[List.all_eq_true]
  constructor
  · intro h j hj;exact h _ (getD_mem d hj)
  · intro h x hx
    obtain ⟨j,hj,rfl⟩:=List.mem_iff_getElem.1 hx
    have:=h j hj
    simpa [List.getD,hj] using this
theorem all_no {α:Type} {l:List α} {q:α→Bool} (d:α) {j:Nat} (hj:j<l.length) (h:q (l.getD j d)=false):l.all q=false:=by
  rw[List.all_eq_false];exact⟨_,getD_mem d hj,by rw[h];simp⟩
theorem dA {α:Type} (q:α→Bool) (l:List α):(l.any fun x=> !q x)= !l.all q:=by rw[← List.not_all_eq_any_not]
theorem valid_no {m:Mp} (h:bW m.aG=false∨bW m.aV=false∨m.dJ≠m.aQ):ch m=false:=by
  unfold ch
  rcases h with h | h | h
  · rw[h];rfl
  · rw[h];simp
  · rw[beq_eq_false_iff_ne.2 h];simp
theorem valid_bad {m:Mp} {i:Int} (h0:0≤i) (hi:i<(m.bh.length:Int)) (h:rowB m.bB (m.bh.getD i.toNat rw0)=false):ch m=false:=by
  unfold ch;rw[all_no rw0 om h];simp
theorem valid_yes {m:Mp} (h1:bW m.aG=true) (h2:bW m.aV=true) (h3:m.dJ=m.aQ) (h:∀ j,j<m.bh.length→rowB m.bB (m.bh.getD j rw0)=true):ch m=true:=by
  unfold ch;rw[h1,h2,h3,(cI rw0).2 h];simp
theorem valid_facts {m:Mp} (h:ch m=true):bW m.aG=true∧bW m.aV=true∧m.dJ=m.aQ∧∀ j,j<m.bh.length→(m.bh.getD j rw0).gS_n=m.bB∧∀ k,k<(m.bh.getD j rw0).cd.length→ -1073741824≤(m.bh.getD j rw0).cd.getD k 0∧(m.bh.getD j rw0).cd.getD k 0≤1073741824:=by
  simp only[ch,Bool.and_eq_true,beq_iff_eq] at h
  obtain ⟨⟨⟨h1,h2⟩,h3⟩,h4⟩:=h
  refine⟨h1,h2,h3,fun j hj=>?_⟩
  have h5:=(cI rw0).1 h4 j hj
  simp only[rowB,Bool.and_eq_true,beq_iff_eq] at h5
  exact⟨h5.1,fun k hk=>elB_iff.1 ((cI 0).1 h5.2 k hk)⟩
def zF (m:Mp) (i j:Nat):Int:=(m.bh.getD i rw0).cd.getD j 0

theorem hb89:af prog 89:=fun _ _=>by kernel_rfl

theorem element_any (n:Int) (w:World):Ret prog 89 #[iv n] w (fun v w'=>v=.bool (elB n)∧Sep w [] w'):=by
 refine Ret.st (N:=9) func89 fun R hR S0=>J.c 9 [] [] [] 5 (n≥(-1073741824)) (fun fk1=>?_) fun fk1=>?_
 refine J.e 5 [.bool (decide (n≤1073741824))] func89 (hR _ _ ?_)
 exact⟨congrArg Value.bool (by rw[Bool.eq_iff_iff];simp[elB];omega),S0.nil⟩
 refine J.e 5 [.bool false] func89 (hR _ _ ?_)
 exact⟨congrArg Value.bool (by rw[Bool.eq_iff_iff];simp[elB];omega),S0.nil⟩

theorem hb34:af prog 34:=fun _ _=>by kernel_rfl

theorem far_any (n:Int) (w:World):Ret prog 34 #[iv n] w (fun v w'=>v=.bool (!elB n)∧Sep w [] w'):=by
 refine Ret.st (N:=9) func34 fun R hR S0=>J.c 9 [] [] [] 5 (n<(-1073741824)) (fun fk1=>?_) fun fk1=>?_
 refine J.e 5 [.bool true] func34 (hR _ _ ?_)
 exact⟨congrArg Value.bool (by rw[Bool.eq_iff_iff];simp[elB];omega),S0.nil⟩
 refine J.e 5 [.bool (decide (n>1073741824))] func34 (hR _ _ ?_)
 exact⟨congrArg Value.bool (by rw[Bool.eq_iff_iff];simp[elB];omega),S0.nil⟩

theorem hb87:af prog 87:=fun _ _=>by kernel_rfl
def K87_0:=adv 27 [false] (bi Tryz.f87)
theorem axis_any (la:Option Addr) (len cap:Nat) (l:List Int) (w:World) (hI:dj w la len l) (hlen:len≤9223372036854775807):Ret prog 87 #[.slice la len cap] w (fun v w'=>v=.bool (bW l)∧Sep w [] w'):=by
 refine Ret.st (N:=37) func87 fun R hR S0=>?_
 have hll:=hI.len_eq
 refine J.c 11 [] [] [] 8 ((len:Int)<2) (fun fk1=>?_) fun fk1=>?_
 refine J.e 10 [.bool false] func87 (hR _ _ ?_)
 exact⟨congrArg Value.bool (axis_no om).symm,S0.nil⟩
 refine J.c 5 [] [] [] 12 ((len:Int)>32) (fun fk2=>?_) fun fk2=>?_
 refine J.e 5 [.bool false] func87 (hR _ _ ?_)
 exact⟨congrArg Value.bool (axis_no om).symm,S0.nil⟩
 have L87_1:∀ (mm_:Nat) (i:Int) (w1:World),(0≤i)→(i≤(len:Int))→(∀ j,j<(i).toNat→nodeB l j=true)→Sep w [] w1→((len:Int)-i).toNat=mm_→J prog 87 37 R K87_0 [(15,iv i),(14,iv (len:Int)),(13,.slice la len cap),(0,.slice la len cap)] w1:=by
  intro mm1
  induction mm1 using Nat.strongRecOn with
  | _ mm1 ih1 =>
  intro i w1 h0 h1 hq S1 hm1
  refine J.c 5 [] [] [] 16 (i<(len:Int)) (fun fk3=>?_) fun fk3=>?_
  refine J.r 7 [true] [(17,iv i)] [] ?_
  obtain ⟨p1,hp1,hc1⟩:=hI.at 0 (i).toNat om
  refine J.ok (OK.index 18 26 1 la p1 len (i).toNat i (p1.add (i).toNat) kr kr hp1 om om nO)<|J.ok (OK.ldCell 19 3 (p1.add (i).toNat) (iv (l.getD (i).toNat 0)) kr kr (S1.cell hc1))<|J.c0 6 [] [(4,iv (l.getD (i).toNat 0)),(3,iv i)] [] S1 21 hb89 (element_any (l.getD (i).toNat 0) _) fun w2 S2=>J.bn 2 [] [] [] 23 (elB (l.getD (i).toNat 0)) (fun fk4=>?_) fun fk4=>?_
  refine J.c 3 [] [] [] 26 (i>0) (fun fk5=>?_) fun fk5=>?_
  refine J.wi 4 [] [(28,.slice la len cap),(27,iv (l.getD (i).toNat 0))] [] 30 (i-1) ?_
  obtain ⟨p2,hp2,hc2⟩:=hI.at 0 (i-1).toNat om
  refine J.ok (OK.index 31 26 1 la p2 len (i-1).toNat (i-1) (p2.add (i-1).toNat) kr kr hp2 om om nO)<|J.ok (OK.ldCell 32 3 (p2.add (i-1).toNat) (iv (l.getD (i-1).toNat 0)) kr kr (S2.cell hc2))<|J.c 4 [] [] [] 35 ((l.getD (i).toNat 0)≤(l.getD (i-1).toNat 0)) (fun fk6=>?_) fun fk6=>?_
  refine J.e 5 [.bool false] func87 (hR _ _ ?_)
  exact⟨congrArg Value.bool (axis_bad h0 om (node_no h0 (by first | exact .inl fk4 | exact .inr ⟨om,om⟩))).symm,S2.nil⟩
  exact J.wi 5 [false] [] [] 36 (i+1)<|J.t 3 (ih1 _ (show((len:Int)-(i+1)).toNat<mm1 from by omega) (i+1) w2 om om (cW h0 hq (node_yes h0 fk4 om)) S2 rfl)
  exact J.wi 15 [false] [] [] 36 (i+1)<|J.t 3 (ih1 _ (show((len:Int)-(i+1)).toNat<mm1 from by omega) (i+1) w2 om om (cW h0 hq (node_yes h0 fk4 om)) S2 rfl)
  refine J.e 18 [.bool false] func87 (hR _ _ ?_)
  exact⟨congrArg Value.bool (axis_bad h0 om (node_no h0 (by first | exact .inl fk4 | exact .inr ⟨om,om⟩))).symm,S2.nil⟩
  refine J.e 6 [.bool true] func87 (hR _ _ ?_)
  exact⟨congrArg Value.bool (axis_yes om om fun j hj=>hq j om).symm,S1.nil⟩
 exact J.t 11 (L87_1 _ 0 w om om (by intro j hj;simp at hj) S0 rfl)

theorem hb33:af prog 33:=fun _ _=>by kernel_rfl
def K33_0:=adv 25 [false] (bi Tryz.f33)
theorem raxis_any (la:Option Addr) (len cap:Nat) (l:List Int) (w:World) (hI:dj w la len l) (hlen:len≤9223372036854775807):Ret prog 33 #[.slice la len cap] w (fun v w'=>v=.bool (bW l)∧Sep w [] w'):=by
 refine Ret.st (N:=39) func33 fun R hR S0=>?_
 have hll:=hI.len_eq
 refine J.c 11 [] [] [] 7 ((len:Int)<2) (fun fk1=>?_) fun fk1=>?_
 refine J.e 10 [.bool false] func33 (hR _ _ ?_)
 exact⟨congrArg Value.bool (axis_no om).symm,S0.nil⟩
 refine J.c 5 [] [] [] 11 ((len:Int)>32) (fun fk2=>?_) fun fk2=>?_
 refine J.e 5 [.bool false] func33 (hR _ _ ?_)
 exact⟨congrArg Value.bool (axis_no om).symm,S0.nil⟩
 have L33_1:∀ (mm_:Nat) (i:Int) (w1:World),(0≤i)→(i≤(len:Int))→(∀ j,j<(i).toNat→nodeB l j=true)→Sep w [] w1→((len:Int)-i).toNat=mm_→J prog 33 39 R K33_0 [(3,iv i),(0,.slice la len cap)] w1:=by
  intro mm1
  induction mm1 using Nat.strongRecOn with
  | _ mm1 ih1 =>
  intro i w1 h0 h1 hq S1 hm1
  refine J.c 8 [] [] [] 15 (i<(len:Int)) (fun fk3=>?_) fun fk3=>?_
  refine J.r 5 [true] [] [] ?_
  rcases Bool.eq_false_or_eq_true (elB (l.getD (i).toNat 0)) with fk4 | fk4
  by_cases fk5:i>0
  obtain ⟨p1,hp1,hc1⟩:=hI.at 0 (i).toNat om
  obtain ⟨p2,hp2,hc2⟩:=hI.at 0 (i-1).toNat om
  refine J.drawPlan (fun w_=>Sep w [] w_) [(0,true),(1,true),(2,true),(3,true),(4,false),(5,true),(6,true),(7,true),(8,true),(9,true),(10,true),(11,true),(12,true),(13,true),(14,true),(15,true),(16,true),(17,true),(18,true),(19,true),(20,true)] S1 Tryz.mixed kr (aE (T:=[(0,some 18,1),(0,some 19,8),(3,some 20,786432),(4,some 21,1048576),(8,some 22,2097152),(16,some 23,4194304),(32,some 24,8388616),(96,some 25,25165824),(160,some 26,41943040),(256,some 27,67108865),(256,some 28,67108872),(1792,some 29,469762048),(2304,some 30,603979776),(256,some 31,67108865),(256,some 32,67108872),(16640,some 33,4362076160),(41216,some 34,10804527104),(65792,some 35,17246978048),(135424,some 36,35500589056),(262432,some 37,68794974208),(524320,some 38,137447342080)]) kr kr) ?_
  intro w2 S2
  refine PB.mk S2<|PL.take 0 18 (.slice la len cap) (fun _ _=>kr)<|PL.take 1 19 (iv i) (fun _ _=>kr)<|PL.takeOK 2 (fun w_ S_=>OK.index 20 26 1 la p1 len (i).toNat i (p1.add (i).toNat) kr kr hp1 om om nO) rfl<|PL.takeOK 3 (fun w_ S_=>OK.ldCell 21 3 (p1.add (i).toNat) (iv (l.getD (i).toNat 0)) kr kr (S_.cell hc1)) rfl<|PL.callF 22 34 #[iv (l.getD (i).toNat 0)] hb34 kr (far_any (l.getD (i).toNat 0) _) ?_
  rintro _ w3 ⟨rfl,T1⟩
  have S3:Sep w [] w3:=S2.trans T1
  clear T1 S2
  refine PB.mk S3<|PL.take 5 23 (.bool (!(elB (l.getD (i).toNat 0)))) (fun _ _=>kr)<|PL.head (.bool false) (congrArg Value.bool (by rw[fk4];rfl))<|PL.take 6 24 (iv i) (fun _ _=>kr)<|PL.take 7 25 (.bool (decide (i>0))) (fun _ _=>kr)<|PL.head (.bool true) (congrArg Value.bool (decide_eq_true fk5))<|PL.take 8 26 (.bool true) (fun _ _=>kr)<|PL.take 9 27 (.slice la len cap) (fun _ _=>kr)<|PL.take 10 28 (iv i) (fun _ _=>kr)<|PL.takeOK 11 (fun w_ S_=>OK.index 29 26 1 la p1 len (i).toNat i (p1.add (i).toNat) kr kr hp1 om om nO) rfl<|PL.takeOK 12 (fun w_ S_=>OK.ldCell 30 3 (p1.add (i).toNat) (iv (l.getD (i).toNat 0)) kr kr (S_.cell hc1)) rfl ?_
  refine PL.take 13 31 (.slice la len cap) (fun _ _=>kr)<|PL.take 14 32 (iv i) (fun _ _=>kr)<|PL.take 15 33 (iv (IntKind.wrap .i64 (i-1))) (fun _ _=>kr)<|PL.head (iv (i-1)) (congrArg (Value.int .i64) (IntWalk.i64_in _ om))<|PL.takeOK 16 (fun w_ S_=>OK.index 34 26 1 la p2 len (i-1).toNat (i-1) (p2.add (i-1).toNat) kr kr hp2 om om nO) rfl<|PL.takeOK 17 (fun w_ S_=>OK.ldCell 35 3 (p2.add (i-1).toNat) (iv (l.getD (i-1).toNat 0)) kr kr (S_.cell hc2)) rfl<|PL.take 18 36 (.bool (decide ((l.getD (i).toNat 0)≤(l.getD (i-1).toNat 0)))) (fun _ _=>kr)<|PL.take 19 37 (.bool (decide ((l.getD (i).toNat 0)≤(l.getD (i-1).toNat 0)))) (fun _ _=>kr)<|PL.take 20 38 (.bool (decide ((l.getD (i).toNat 0)≤(l.getD (i-1).toNat 0)))) (fun _ _=>kr)<|PL.done<|J.c 0 [] [] [] 38 ((l.getD (i).toNat 0)≤(l.getD (i-1).toNat 0)) (fun fk6=>?_) fun fk6=>?_
  refine J.e 5 [.bool false] func33 (hR _ _ ?_)
  exact⟨congrArg Value.bool (axis_bad h0 om (node_no h0 (by first | exact .inl fk4 | exact .inr ⟨om,om⟩))).symm,S3.nil⟩
  exact J.wi 6 [false] [] [] 17 (i+1)<|J.t 3 (ih1 _ (show((len:Int)-(i+1)).toNat<mm1 from by omega) (i+1) w3 om om (cW h0 hq (node_yes h0 fk4 om)) S3 rfl)
  obtain ⟨p3,hp3,hc3⟩:=hI.at 0 (i).toNat om
  refine J.drawPlan (fun w_=>Sep w [] w_) [(0,true),(1,true),(2,true),(3,true),(4,false),(5,true),(6,true),(7,true),(8,true),(9,true),(10,true),(11,true),(12,true),(13,true),(14,true),(15,true),(16,true),(17,true),(18,true),(19,true),(20,true)] S1 Tryz.mixed kr (aE (T:=[(0,some 18,1),(0,some 19,8),(3,some 20,786432),(4,some 21,1048576),(8,some 22,2097152),(16,some 23,4194304),(32,some 24,8388616),(96,some 25,25165824),(160,some 26,41943040),(256,some 27,67108865),(256,some 28,67108872),(1792,some 29,469762048),(2304,some 30,603979776),(256,some 31,67108865),(256,some 32,67108872),(16640,some 33,4362076160),(41216,some 34,10804527104),(65792,some 35,17246978048),(135424,some 36,35500589056),(262432,some 37,68794974208),(524320,some 38,137447342080)]) kr kr) ?_
  intro w4 S4
  refine PB.mk S4<|PL.take 0 18 (.slice la len cap) (fun _ _=>kr)<|PL.take 1 19 (iv i) (fun _ _=>kr)<|PL.takeOK 2 (fun w_ S_=>OK.index 20 26 1 la p3 len (i).toNat i (p3.add (i).toNat) kr kr hp3 om om nO) rfl<|PL.takeOK 3 (fun w_ S_=>OK.ldCell 21 3 (p3.add (i).toNat) (iv (l.getD (i).toNat 0)) kr kr (S_.cell hc3)) rfl<|PL.callF 22 34 #[iv (l.getD (i).toNat 0)] hb34 kr (far_any (l.getD (i).toNat 0) _) ?_
  rintro _ w5 ⟨rfl,T2⟩
  have S5:Sep w [] w5:=S4.trans T2
  clear T2 S4
  refine PB.mk S5<|PL.take 5 23 (.bool (!(elB (l.getD (i).toNat 0)))) (fun _ _=>kr)<|PL.head (.bool false) (congrArg Value.bool (by rw[fk4];rfl))<|PL.take 6 24 (iv i) (fun _ _=>kr)<|PL.take 7 25 (.bool (decide (i>0))) (fun _ _=>kr)<|PL.head (.bool false) (congrArg Value.bool (decide_eq_false fk5))<|PL.take 8 26 (.bool false) (fun _ _=>kr)<|PL.takePass 9 (some 27) kr<|PL.takePass 10 (some 28) kr<|PL.takePass 11 (some 29) kr<|PL.takePass 12 (some 30) kr ?_
  exact PL.takePass 13 (some 31) kr<|PL.takePass 14 (some 32) kr<|PL.takePass 15 (some 33) kr<|PL.takePass 16 (some 34) kr<|PL.takePass 17 (some 35) kr<|PL.takePass 18 (some 36) kr<|PL.take 19 37 (.bool false) (fun _ _=>kr)<|PL.take 20 38 (.bool false) (fun _ _=>kr)<|PL.done<|J.wi 6 [false] [] [] 17 (i+1)<|J.t 3 (ih1 _ (show((len:Int)-(i+1)).toNat<mm1 from by omega) (i+1) w5 om om (cW h0 hq (node_yes h0 fk4 om)) S5 rfl)
  obtain ⟨p4,hp4,hc4⟩:=hI.at 0 (i).toNat om
  refine J.drawPlan (fun w_=>Sep w [] w_) [(0,true),(1,true),(2,true),(3,true),(4,false),(5,true),(6,true),(7,true),(8,true),(9,true),(10,true),(11,true),(12,true),(13,true),(14,true),(15,true),(16,true),(17,true),(18,true),(19,true),(20,true)] S1 Tryz.mixed kr (aE (T:=[(0,some 18,1),(0,some 19,8),(3,some 20,786432),(4,some 21,1048576),(8,some 22,2097152),(16,some 23,4194304),(32,some 24,8388616),(96,some 25,25165824),(160,some 26,41943040),(256,some 27,67108865),(256,some 28,67108872),(1792,some 29,469762048),(2304,some 30,603979776),(256,some 31,67108865),(256,some 32,67108872),(16640,some 33,4362076160),(41216,some 34,10804527104),(65792,some 35,17246978048),(135424,some 36,35500589056),(262432,some 37,68794974208),(524320,some 38,137447342080)]) kr kr) ?_
  intro w6 S6
  refine PB.mk S6<|PL.take 0 18 (.slice la len cap) (fun _ _=>kr)<|PL.take 1 19 (iv i) (fun _ _=>kr)<|PL.takeOK 2 (fun w_ S_=>OK.index 20 26 1 la p4 len (i).toNat i (p4.add (i).toNat) kr kr hp4 om om nO) rfl<|PL.takeOK 3 (fun w_ S_=>OK.ldCell 21 3 (p4.add (i).toNat) (iv (l.getD (i).toNat 0)) kr kr (S_.cell hc4)) rfl<|PL.callF 22 34 #[iv (l.getD (i).toNat 0)] hb34 kr (far_any (l.getD (i).toNat 0) _) ?_
  rintro _ w7 ⟨rfl,T3⟩
  have S7:Sep w [] w7:=S6.trans T3
  clear T3 S6
  refine PB.mk S7<|PL.take 5 23 (.bool (!(elB (l.getD (i).toNat 0)))) (fun _ _=>kr)<|PL.head (.bool true) (congrArg Value.bool (by rw[fk4];rfl))<|PL.takePass 6 (some 24) kr<|PL.takePass 7 (some 25) kr<|PL.takePass 8 (some 26) kr<|PL.takePass 9 (some 27) kr<|PL.takePass 10 (some 28) kr<|PL.takePass 11 (some 29) kr<|PL.takePass 12 (some 30) kr<|PL.takePass 13 (some 31) kr ?_
  refine PL.takePass 14 (some 32) kr<|PL.takePass 15 (some 33) kr<|PL.takePass 16 (some 34) kr<|PL.takePass 17 (some 35) kr<|PL.takePass 18 (some 36) kr<|PL.takePass 19 (some 37) kr<|PL.take 20 38 (.bool true) (fun _ _=>kr)<|PL.done<|J.e 5 [.bool false] func33 (hR _ _ ?_)
  exact⟨congrArg Value.bool (axis_bad h0 om (node_no h0 (by first | exact .inl fk4 | exact .inr ⟨om,om⟩))).symm,S7.nil⟩
  refine J.e 6 [.bool true] func33 (hR _ _ ?_)
  exact⟨congrArg Value.bool (axis_yes om om fun j hj=>hq j om).symm,S1.nil⟩
 exact J.t 9 (L33_1 _ 0 w om om (by intro j hj;simp at hj) S0 rfl)

theorem hb88:af prog 88:=fun _ _=>by kernel_rfl

theorem farz_any (n:Int) (w:World):Ret prog 88 #[iv n] w (fun v w'=>v=.bool (!elB n)∧Sep w [] w'):=by
 refine Ret.st (N:=6) func88 fun R hR S0=>J.c0 7 [] [] [] S0 4 hb89 (element_any n _) fun w1 S1=>J.e 3 [.bool (!(elB n))] func88 (hR _ _ ?_)
 exact⟨rfl,S1.nil⟩

theorem hb80:af prog 80:=fun _ _=>by kernel_rfl
def K80_0:=adv 13 [] (bi Tryz.f80)
theorem indexI0 (la:Option Addr) (len cap:Nat) (l:List Int) (g:FuncId) (q:Int→Bool) (w:World) (hI:Ones (Value.int .i64) w la len l) (hlen:len≤9223372036854775807) (hbg:af prog g) (hcall:∀ (i:Nat) (w2:World),i<l.length→Sep w [] w2→Ret prog g #[iv (l.getD i 0)] w2 (fun v w3=>v=.bool (q (l.getD i 0))∧Sep w2 [] w3)):Ret prog 80 #[.slice la len cap,.func (.func g) #[] #[]] w (fun v w'=>v=iv (cG q l)∧Sep w [] w'):=by
 refine Ret.st (N:=19) func80 fun R hR S0=>?_
 have L80_1:∀ (mm_:Nat) (i:Int) (w1:World),(0≤i)→(i≤(len:Int))→(∀ j,j<(i).toNat→q (l.getD j 0)=false)→Sep w [] w1→((len:Int)-i).toNat=mm_→J prog 80 19 R K80_0 [(8,iv i),(7,iv (len:Int)),(0,.slice la len cap),(1,.func (.func g) #[] #[])] w1:=by
  intro mm1
  induction mm1 using Nat.strongRecOn with
  | _ mm1 ih1 =>
  intro i w1 h0 h1 hq S1 hm1
  refine J.c 5 [] [] [] 9 (i<(len:Int)) (fun fk1=>?_) fun fk1=>?_
  refine J.r 14 [true] [(13,iv i),(12,.slice la len cap),(11,.func (.func g) #[] #[]),(5,iv i)] [] ?_
  obtain ⟨p1,hp1,hc1⟩:=hI.at 0 (i).toNat om
  refine J.ok (OK.index 14 26 1 la p1 len (i).toNat i (p1.add (i).toNat) kr kr hp1 om om nO)<|J.ok (OK.ldCell 15 3 (p1.add (i).toNat) (iv (l.getD (i).toNat 0)) kr kr (S1.cell hc1))<|J.callF 16 g #[iv (l.getD (i).toNat 0)] hbg kr (hcall (i).toNat w1 (by have:=hI.len_eq;omega) S1.nil) ?_
  rintro _ w2 ⟨rfl,T1⟩
  have S2:Sep w [] w2:=S1.trans T1
  refine J.b 1 [] [] [] 16 (q (l.getD (i).toNat 0)) (fun fk2=>?_) fun fk2=>?_
  refine J.e 6 [iv i] func80 (hR _ _ ?_)
  exact⟨by rw[cw,dv 0 i.toNat (by have:=hI.len_eq;omega) hq fk2,Int.toNat_of_nonneg h0],S2.nil⟩
  exact J.wi 5 [false] [] [] 18 (i+1)<|J.t 3 (ih1 _ (show((len:Int)-(i+1)).toNat<mm1 from by omega) (i+1) w2 om om (by intro j hj;by_cases e:j=i.toNat;(subst e;exact fk2);exact hq j om) S2 rfl)
  refine J.e 6 [iv (-1)] func80 (hR _ _ ?_)
  exact⟨by rw[cw,dK 0 fun j hj=>hq j (by have:=hI.len_eq;omega)],S1.nil⟩
 exact J.t 13 (L80_1 _ 0 w om om (by intro j hj;simp at hj) S0 rfl)

theorem hb41:af prog 41:=fun _ _=>by kernel_rfl

theorem containsI0 (la:Option Addr) (len cap:Nat) (l:List Int) (g:FuncId) (q:Int→Bool) (w:World) (hI:Ones (Value.int .i64) w la len l) (hlen:len≤9223372036854775807) (hbg:af prog g) (hcall:∀ (i:Nat) (w2:World),i<l.length→Sep w [] w2→Ret prog g #[iv (l.getD i 0)] w2 (fun v w3=>v=.bool (q (l.getD i 0))∧Sep w2 [] w3)):Ret prog 41 #[.slice la len cap,.func (.func g) #[] #[]] w (fun v w'=>v=.bool (l.any q)∧Sep w [] w'):=by
 refine Ret.st (N:=9) func41 fun R hR S0=>J.r 8 [] [(6,.func (.func g) #[] #[]),(5,.slice la len cap)] []<|J.callF 7 80 #[.slice la len cap,.func (.func g) #[] #[]] hb80 kr (indexI0 la len cap l g  q _ (hI.sep S0) oz hbg (hcall)) ?_
 rintro _ w1 ⟨rfl,T1⟩
 have S1:Sep w [] w1:=S0.trans T1
 refine J.e 3 [.bool (decide ((cG q l)≥0))] func41 (hR _ _ ?_)
 exact⟨congrArg Value.bool (by first | exact dh),S1.nil⟩

theorem hb53:af prog 53:=fun _ _=>by kernel_rfl
def K53_0:=adv 40 [false] (bi Tryz.f53)
theorem valid_any (m:Mp) (w:World) (hm:mpQ w m):Ret prog 53 #[.agg (mpA m)] w (fun v w'=>v=.bool (ch m)∧Sep w [] w'):=by
 refine Ret.st (N:=42) func53 fun R hR S0=>?_
 obtain ⟨q1,q2,q3,q4,q5,q6,q7,q8,q9,_⟩:=id hm
 have ql1:=q2.len_eq
 have ql2:=q5.len_eq
 have ql3:=q8.len_eq
 refine J.nw 2 [] [] [] S0 1 (mpC m) 61 fun b1 w1 S1=>J.lb 6 [] [] [] S1 0 rfl 6 (.slice m.cF m.aQ m.dm)<|J.c0 0 [] [] [] S1 7 hb87 (axis_any m.cF m.aQ m.dm m.aG _ (q2.sep S1) oz) fun w2 S2=>J.bn 2 [] [] [] 9 (bW m.aG) (fun fk1=>?_) fun fk1=>?_
 refine J.lb 1 [] [] [] S2 0 rfl 11 (.slice m.cM m.bB m.dw)<|J.c0 0 [] [] [] S2 12 hb87 (axis_any m.cM m.bB m.dw m.aV _ (q5.sep S2) oz) fun w3 S3=>J.bn 3 [] [] [] 15 (bW m.aV) (fun fk2=>?_) fun fk2=>?_
 refine J.lb 1 [] [] [] S3 0 rfl 17 (.slice m.gZ_a m.dJ m.gZ_c)<|J.lb 2 [] [(18,iv (m.dJ:Int))] [] S3 0 rfl 20 (.slice m.cF m.aQ m.dm)<|J.cn 4 [] [] [] 23 ((m.dJ:Int)=(m.aQ:Int)) (fun fk3=>?_) fun fk3=>?_
 refine J.lb 6 [false] [] [] S3 0 rfl 25 (.slice m.gZ_a m.dJ m.gZ_c) ?_
 have L53_1:∀ (mm_:Nat) (i:Int) (w4:World),(0≤i)→(i≤(m.dJ:Int))→(∀ j,j<(i).toNat→rowB m.bB (m.bh.getD j rw0)=true)→Sep w [box b1 (mpC m) 61] w4→((m.dJ:Int)-i).toNat=mm_→J prog 53 42 R K53_0 [(27,iv i),(26,iv (m.dJ:Int)),(25,.slice m.gZ_a m.dJ m.gZ_c),(1,pv b1)] w4:=by
  intro mm1
  induction mm1 using Nat.strongRecOn with
  | _ mm1 ih1 =>
  intro i w4 h0 h1 hq S4 hm1
  refine J.c 5 [] [] [] 28 (i<(m.dJ:Int)) (fun fk4=>?_) fun fk4=>?_
  refine J.r 6 [true] [] [] ?_
  obtain ⟨p1,hp1,hc1⟩:=q8.at rw0 (i).toNat om
  have hel1:=aP q9 rw0 (n:=(i).toNat) (by have:=q8.len_eq;omega)
  obtain ⟨q10,q11,q12,_⟩:=id hel1
  have ql4:=q11.len_eq
  refine J.ok (OK.index 29 59 1 m.gZ_a p1 m.dJ (i).toNat i (p1.add ((i).toNat*1)) kr kr hp1 om om rfl)<|J.ok (OK.ldCell 30 26 (p1.add ((i).toNat*1)) (.slice ((m.bh.getD (i).toNat rw0).gS_a) ((m.bh.getD (i).toNat rw0).gS_n) ((m.bh.getD (i).toNat rw0).gS_c)) kr kr (S4.cell (cell_zero (hc1 0 _ rfl))))<|J.lb 7 [] [(32,iv ((m.bh.getD (i).toNat rw0).gS_n:Int)),(4,.slice ((m.bh.getD (i).toNat rw0).gS_a) ((m.bh.getD (i).toNat rw0).gS_n) ((m.bh.getD (i).toNat rw0).gS_c))] [] S4 0 rfl 34 (.slice m.cM m.bB m.dw)<|J.cn 3 [] [] [] 37 (((m.bh.getD (i).toNat rw0).gS_n:Int)=(m.bB:Int)) (fun fk5=>?_) fun fk5=>?_
  refine J.r 1 [] [(38,.slice ((m.bh.getD (i).toNat rw0).gS_a) ((m.bh.getD (i).toNat rw0).gS_n) ((m.bh.getD (i).toNat rw0).gS_c))] []<|J.callF 39 41 #[.slice ((m.bh.getD (i).toNat rw0).gS_a) ((m.bh.getD (i).toNat rw0).gS_n) ((m.bh.getD (i).toNat rw0).gS_c),.func (.func 88) #[] #[]] hb41 kr (containsI0 ((m.bh.getD (i).toNat rw0).gS_a) ((m.bh.getD (i).toNat rw0).gS_n) ((m.bh.getD (i).toNat rw0).gS_c) ((m.bh.getD (i).toNat rw0).cd) 88  (fun x=> !elB x) _ (q11.sep S4) oz hb88 (fun i_ w_ hi_ S_=>farz_any _ w_)) ?_
  rintro _ w5 ⟨rfl,T1⟩
  have S5:Sep w [box b1 (mpC m) 61] w5:=S4.trans T1
  refine J.b 2 [] [] [] 40 (List.any ((m.bh.getD (i).toNat rw0).cd) (fun x=> !elB x)) (fun fk6=>?_) fun fk6=>?_
  refine J.e 5 [.bool false] func53 (hR _ _ ?_)
  exact⟨congrArg Value.bool (valid_bad h0 om (row_no (.inr (by rw[dA] at fk6;simpa using fk6)))).symm,S5.nil⟩
  exact J.wi 5 [false] [] [] 41 (i+1)<|J.t 3 (ih1 _ (show((m.dJ:Int)-(i+1)).toNat<mm1 from by omega) (i+1) w5 om om (cW h0 hq (row_yes om (by have h_:=fk6;rw[dA] at h_;simpa using h_))) S5 rfl)
  refine J.e 9 [.bool false] func53 (hR _ _ ?_)
  exact⟨congrArg Value.bool (valid_bad h0 om (row_no (.inl om))).symm,S4.nil⟩
  refine J.e 6 [.bool true] func53 (hR _ _ ?_)
  exact⟨congrArg Value.bool (valid_yes fk1 fk2 om fun j hj=>hq j om).symm,S4.nil⟩
 exact J.t 5 (L53_1 _ 0 w3 om om (by intro j hj;simp at hj) S3 rfl)
 refine J.e 5 [.bool false] func53 (hR _ _ ?_)
 exact⟨congrArg Value.bool (valid_no (by first | exact .inl fk2 | exact .inr (.inl fk2) | exact .inr (.inr om))).symm,S3.nil⟩
 refine J.e 14 [.bool false] func53 (hR _ _ ?_)
 exact⟨congrArg Value.bool (valid_no (by first | exact .inl fk2 | exact .inr (.inl fk2) | exact .inr (.inr om))).symm,S3.nil⟩
 refine J.e 20 [.bool false] func53 (hR _ _ ?_)
 exact⟨congrArg Value.bool (valid_no (by first | exact .inl fk1 | exact .inr (.inl fk1) | exact .inr (.inr om))).symm,S2.nil⟩

theorem hb18:af prog 18:=fun _ _=>by kernel_rfl
def K18_0:=adv 37 [false] (bi Tryz.f18)
def K18_1:=adv 8 [false] (cR (adv 15 [true] K18_0))
theorem rvalid_any (m:Mp) (w:World) (hm:mpQ w m):Ret prog 18 #[.agg (mpA m)] w (fun v w'=>v=.bool (ch m)∧Sep w [] w'):=by
 refine Ret.st (N:=57) func18 fun R hR S0=>?_
 obtain ⟨q1,q2,q3,q4,q5,q6,q7,q8,q9,_⟩:=id hm
 have ql1:=q2.len_eq
 have ql2:=q5.len_eq
 have ql3:=q8.len_eq
 refine J.nw 2 [] [] [] S0 1 (mpC m) 61 fun b1 w1 S1=>J.lb 6 [] [] [] S1 0 rfl 6 (.slice m.cF m.aQ m.dm)<|J.c0 0 [] [] [] S1 7 hb33 (raxis_any m.cF m.aQ m.dm m.aG _ (q2.sep S1) oz) fun w2 S2=>J.bn 2 [] [] [] 9 (bW m.aG) (fun fk1=>?_) fun fk1=>?_
 refine J.lb 1 [] [] [] S2 0 rfl 11 (.slice m.cM m.bB m.dw)<|J.c0 0 [] [] [] S2 12 hb33 (raxis_any m.cM m.bB m.dw m.aV _ (q5.sep S2) oz) fun w3 S3=>J.bn 3 [] [] [] 15 (bW m.aV) (fun fk2=>?_) fun fk2=>?_
 refine J.lb 1 [] [] [] S3 0 rfl 17 (.slice m.gZ_a m.dJ m.gZ_c)<|J.lb 2 [] [(18,iv (m.dJ:Int))] [] S3 0 rfl 20 (.slice m.cF m.aQ m.dm)<|J.cn 4 [] [] [] 23 ((m.dJ:Int)=(m.aQ:Int)) (fun fk3=>?_) fun fk3=>?_
 have L18_1:∀ (mm_:Nat) (i:Int) (w4:World),(0≤i)→(i≤(m.dJ:Int))→(∀ j,j<(i).toNat→rowB m.bB (m.bh.getD j rw0)=true)→Sep w [box b1 (mpC m) 61] w4→((m.dJ:Int)-i).toNat=mm_→J prog 18 57 R K18_0 [(3,iv i),(1,pv b1)] w4:=by
  intro mm1
  induction mm1 using Nat.strongRecOn with
  | _ mm1 ih1 =>
  intro i w4 h0 h1 hq S4 hm1
  refine J.lb 5 [] [(24,iv i)] [] S4 0 rfl 26 (.slice m.gZ_a m.dJ m.gZ_c)<|J.c 3 [] [] [] 28 (i<(m.dJ:Int)) (fun fk4=>?_) fun fk4=>?_
  refine J.r 6 [true] [] [] ?_
  obtain ⟨p1,hp1,hc1⟩:=q8.at rw0 (i).toNat om
  have hel1:=aP q9 rw0 (n:=(i).toNat) (by have:=q8.len_eq;omega)
  obtain ⟨q10,q11,q12,_⟩:=id hel1
  have ql4:=q11.len_eq
  refine J.drawStill S4 10 Tryz.mixed kr kr kr ?_
  intro w5 S5
  refine SL.r 31 (.pointer (some ⟨b1,2,none⟩))<|SL.lb S5 0 rfl 32 (.slice m.gZ_a m.dJ m.gZ_c)<|SL.r 33 (iv i)<|SL.ok dE (OK.index 34 59 1 m.gZ_a p1 m.dJ (i).toNat i (p1.add ((i).toNat*1)) kr kr hp1 om om rfl)<|SL.ok dE (OK.ldCell 35 26 (p1.add ((i).toNat*1)) (.slice ((m.bh.getD (i).toNat rw0).gS_a) ((m.bh.getD (i).toNat rw0).gS_n) ((m.bh.getD (i).toNat rw0).gS_c)) kr kr (S5.cell (cell_zero (hc1 0 _ rfl))))<|SL.r 36 (iv ((m.bh.getD (i).toNat rw0).gS_n:Int))<|SL.r 37 (.pointer (some ⟨b1,1,none⟩))<|SL.lb S5 0 rfl 38 (.slice m.cM m.bB m.dw)<|SL.r 39 (iv (m.bB:Int))<|SL.r 40 (.bool (((m.bh.getD (i).toNat rw0).gS_n:Int) != (m.bB:Int)))<|SL.done ?_
  refine TL.done kr<|J.cn 0 [] [] [] 40 (((m.bh.getD (i).toNat rw0).gS_n:Int)=(m.bB:Int)) (fun fk5=>?_) fun fk5=>?_
  have L18_2:∀ (mm_:Nat) (j:Int) (w6:World),(0≤j)→(j≤(m.bB:Int))→(∀ k,k<(j).toNat→elB ((m.bh.getD (i).toNat rw0).cd.getD k 0)=true)→Sep w [box b1 (mpC m) 61] w6→((m.bB:Int)-j).toNat=mm_→J prog 18 57 R K18_1 [(4,iv j),(3,iv i),(1,pv b1)] w6:=by
   intro mm2
   induction mm2 using Nat.strongRecOn with
   | _ mm2 ih2 =>
   intro j w6 j0 j1 hq2 S6 hm2
   refine J.lb 5 [] [(41,iv j)] [] S6 0 rfl 43 (.slice m.cM m.bB m.dw)<|J.c 3 [] [] [] 45 (j<(m.bB:Int)) (fun fk6=>?_) fun fk6=>?_
   refine J.lb 7 [true] [] [] S6 0 rfl 49 (.slice m.gZ_a m.dJ m.gZ_c)<|J.r 1 [] [(50,iv i)] []<|J.ok (OK.index 51 59 1 m.gZ_a p1 m.dJ (i).toNat i (p1.add ((i).toNat*1)) kr kr hp1 om om rfl)<|J.ok (OK.ldCell 52 26 (p1.add ((i).toNat*1)) (.slice ((m.bh.getD (i).toNat rw0).gS_a) ((m.bh.getD (i).toNat rw0).gS_n) ((m.bh.getD (i).toNat rw0).gS_c)) kr kr (S6.cell (cell_zero (hc1 0 _ rfl))))<|J.r 1 [] [(53,iv j)] [] ?_
   obtain ⟨p2,hp2,hc2⟩:=q11.at 0 (j).toNat om
   have hel2:=aP q12 0 (n:=(j).toNat) (by have:=q11.len_eq;omega)
   refine J.ok (OK.index 54 26 1 ((m.bh.getD (i).toNat rw0).gS_a) p2 ((m.bh.getD (i).toNat rw0).gS_n) (j).toNat j (p2.add (j).toNat) kr kr hp2 om om nO)<|J.ok (OK.ldCell 55 3 (p2.add (j).toNat) (iv (((m.bh.getD (i).toNat rw0).cd).getD (j).toNat 0)) kr kr (S6.cell hc2))<|J.c0 0 [] [] [] S6 56 hb34 (far_any (((m.bh.getD (i).toNat rw0).cd).getD (j).toNat 0) _) fun w7 S7=>J.bn 1 [] [] [] 56 (elB (((m.bh.getD (i).toNat rw0).cd).getD (j).toNat 0)) (fun fk7=>?_) fun fk7=>?_
   exact J.wi 6 [false] [] [] 47 (j+1)<|J.t 3 (ih2 _ (show((m.bB:Int)-(j+1)).toNat<mm2 from by omega) (j+1) w7 om om (cW (q:=fun k=>elB ((m.bh.getD (i).toNat rw0).cd.getD k 0)=true) j0 hq2 fk7) S7 rfl)
   refine J.e 5 [.bool false] func18 (hR _ _ ?_)
   exact⟨congrArg Value.bool (valid_bad h0 om (row_no (.inr (all_no 0 (j:=j.toNat) om fk7)))).symm,S7.nil⟩
   exact J.wi 6 [false] [] [] 30 (i+1)<|J.t 3 (ih1 _ (show((m.dJ:Int)-(i+1)).toNat<mm1 from by omega) (i+1) w6 om om (cW h0 hq (row_yes om ((cI 0).2 fun k hk=>hq2 k om))) S6 rfl)
  exact J.t 8 (L18_2 _ 0 w5 om om (by intro k hk;simp at hk) S5 rfl)
  refine J.e 5 [.bool false] func18 (hR _ _ ?_)
  exact⟨congrArg Value.bool (valid_bad h0 om (row_no (.inl om))).symm,S5.nil⟩
  refine J.e 6 [.bool true] func18 (hR _ _ ?_)
  exact⟨congrArg Value.bool (valid_yes fk1 fk2 om fun j hj=>hq j om).symm,S4.nil⟩
 exact J.t 9 (L18_1 _ 0 w3 om om (by intro j hj;simp at hj) S3 rfl)
 refine J.e 5 [.bool false] func18 (hR _ _ ?_)
 exact⟨congrArg Value.bool (valid_no (by first | exact .inl fk2 | exact .inr (.inl fk2) | exact .inr (.inr om))).symm,S3.nil⟩
 refine J.e 14 [.bool false] func18 (hR _ _ ?_)
 exact⟨congrArg Value.bool (valid_no (by first | exact .inl fk2 | exact .inr (.inl fk2) | exact .inr (.inr om))).symm,S3.nil⟩
 refine J.e 20 [.bool false] func18 (hR _ _ ?_)
 exact⟨congrArg Value.bool (valid_no (by first | exact .inl fk1 | exact .inr (.inl fk1) | exact .inr (.inr om))).symm,S2.nil⟩
theorem hb155:af prog 155:=fun _ _=>by kernel_rfl
def K155_0:=adv 13 [] (bi Tryz.f155)
theorem search2 (n:Int) (g:FuncId) (c1:Value) (c2:Value) (q:Int→Bool) (w:World) (hn:0≤n∧n≤4611686018427387903) (hbg:af prog g) (hcall:∀ (i:Int) (w2:World),0≤i→i<n→Sep w [] w2→Ret prog g #[iv i,c1,c2] w2 (fun v w3=>v=.bool (q i)∧Sep w2 [] w3)):Ret prog 155 #[iv n,.func (.func g) #[] #[c1,c2]] w (fun v w'=>∃ r,v=iv r∧(0≤r∧r≤n)∧(r=0∨q (r-1)=false)∧(r=n∨q r=true)∧Sep w [] w'):=by
 refine Ret.st (N:=26) func155 fun R hR S0=>?_
 have L155_1:∀ (mm_:Nat) (i:Int) (j:Int) (w1:World),(0≤i∧i≤j∧j≤n)→(i=0∨q (i-1)=false)→(j=n∨q j=true)→Sep w [] w1→(j-i).toNat=mm_→J prog 155 26 R K155_0 [(6,iv j),(5,iv i),(1,.func (.func g) #[] #[c1,c2])] w1:=by
  intro mm1
  induction mm1 using Nat.strongRecOn with
  | _ mm1 ih1 =>
  intro i j w1 hb hi hj S1 hm1
  refine J.c 7 [] [] [] 11 (i<j) (fun fk1=>?_) fun fk1=>?_
  refine J.wi 8 [true] [] [] 14 (i+j)<|J.h 1 [] [] [] 15 (.int .u64 (IntKind.wrap .u64 (i+j))) (.int .u64 (i+j)) (congrArg (Value.int .u64) (IntWalk.u64_in _ om))<|J.h 1 [] [] [] 16 (.int .u64 (Int.fdiv (i+j) (2^1))) (.int .u64 ((i+j)/2)) (congrArg (Value.int .u64) (dl _ _ dE))<|J.wi 1 [] [] [] 17 ((i+j)/2) ?_
  obtain ⟨mid,hmid⟩:∃ x:Int,x=(i+j)/2:=⟨_,rfl⟩
  refine J.head (iv mid) (congrArg (Value.int .i64) hmid.symm)<|J.r 6 [] [(19,iv mid),(18,.func (.func g) #[] #[c1,c2]),(7,iv mid)] []<|J.callF 20 g #[iv mid,c1,c2] hbg kr (hcall mid w1 om om S1.nil) ?_
  rintro _ w2 ⟨rfl,T1⟩
  have S2:Sep w [] w2:=S1.trans T1
  refine J.bn 2 [] [] [] 21 (q mid) (fun fk2=>?_) fun fk2=>?_
  exact J.t 7 (ih1 _ (show(mid-i).toNat<mm1 from by omega) i mid w2 om (hi) (.inr fk2) S2 rfl)
  exact J.wi 4 [true] [] [] 23 (mid+1)<|J.t 4 (ih1 _ (show(j-(mid+1)).toNat<mm1 from by omega) (mid+1) j w2 om (.inr (by rw[show mid+1-1=mid by omega];exact fk2)) (hj) S2 rfl)
  refine J.e 7 [iv i] func155 (hR _ _ ?_)
  exact⟨i,rfl,om,hi,by rw[show i=j by omega];exact hj,S1.nil⟩
 exact J.t 13 (L155_1 _ 0 n w om (.inl rfl) (.inl rfl) S0 rfl)
def ek (x0 x1 y0 y1 x:Int):Int:=y0+(x-x0)*(y1-y0)/(x1-x0)
theorem btw_div {d k t:Int} (hd:0<d) (h0:0≤t) (h1:t≤d):(0≤k→0≤t*k/d∧t*k/d≤k)∧(k≤0→k≤t*k/d∧t*k/d≤0):=by
  constructor<;>intro hk
  · refine⟨Int.ediv_nonneg (Int.mul_nonneg h0 hk) om,?_⟩
    have:=Int.mul_le_mul_of_nonneg_right h1 hk
    exact Int.ediv_le_of_le_mul hd (by rw[Int.mul_comm k d];exact this)
  · have h2:d*k≤t*k:=Int.mul_le_mul_of_nonpos_right h1 hk
    have h3:t*k≤0:=Int.mul_nonpos_of_nonneg_of_nonpos h0 hk
    exact⟨(Int.le_ediv_iff_mul_le hd).2 (by rw[Int.mul_comm];exact h2),by
      have:=Int.ediv_le_ediv hd h3;simpa using this⟩
theorem dS {x0 x1 y0 y1 x:Int} (h:x0<x1) (h0:x0≤x) (h1:x≤x1):(y0≤y1→y0≤ek x0 x1 y0 y1 x∧ek x0 x1 y0 y1 x≤y1)∧(y1≤y0→y1≤ek x0 x1 y0 y1 x∧ek x0 x1 y0 y1 x≤y0):=by
  obtain ⟨a1,a2⟩:=btw_div (d:=x1-x0) (k:=y1-y0) (t:=x-x0) om om om
  unfold ek
  exact⟨fun hk=>by have:=a1 om;omega,fun hk=>by have:=a2 om;omega⟩
theorem btw_left (x0 x1 y0 y1:Int):ek x0 x1 y0 y1 x0=y0:=by unfold ek;simp
theorem btw_right {x0 x1:Int} (y0 y1:Int) (h:x0<x1):ek x0 x1 y0 y1 x1=y1:=by
  unfold ek;rw[Int.mul_comm,Int.mul_ediv_cancel _ om];omega
def segF (xs:List Int) (x:Int):Nat:=(cG (fun a=>decide (x<a)) xs).toNat-1
def cV (xs ys:List Int) (x:Int):Int :=
  if x≤xs.getD 0 0 then ys.getD 0 0 else if xs.getD (xs.length-1) 0≤x then ys.getD (xs.length-1) 0 else
  ek (xs.getD (segF xs x) 0) (xs.getD (segF xs x+1) 0) (ys.getD (segF xs x) 0) (ys.getD (segF xs x+1) 0) x
theorem axis_le {l:List Int} (h:bW l=true) {i j:Nat} (hij:i≤j) (hj:j<l.length):l.getD i 0≤l.getD j 0:=by
  rcases Nat.lt_or_eq_of_le hij with e | e
  · exact Int.le_of_lt (cv h e hj)
  · subst e;exact Int.le_refl _
theorem seg_eq {xs:List Int} {x:Int} {i:Nat} (ax:bW xs=true) (hi:i+1<xs.length) (h1:xs.getD i 0≤x) (h2:x<xs.getD (i+1) 0):segF xs x=i:=by
  unfold segF
  rw[dv 0 (i+1) hi (fun j hj=>decide_eq_false (by have:=axis_le ax (show j≤i by omega) om;omega)) (decide_eq_true h2)]
  omega
theorem curve_seg {xs ys:List Int} {x x':Int} {i:Nat} (ax:bW xs=true) (hi:i+1<xs.length) (h1:xs.getD i 0≤x') (h2:x'≤xs.getD (i+1) 0) (h3:x'<xs.getD (i+1) 0∨i+2=xs.length) (hx:x'=min (max x (xs.getD 0 0)) (xs.getD (xs.length-1) 0)) :
    cV xs ys x=ek (xs.getD i 0) (xs.getD (i+1) 0) (ys.getD i 0) (ys.getD (i+1) 0) x':=by
  have hmono:=cv ax (show i<i+1 by omega) hi
  have hends:=cv ax (show 0<xs.length-1 by omega) om
  have hlast:=axis_le ax (show i+1≤xs.length-1 by omega) om
  have hfirst:=axis_le ax (show 0≤i by omega) om
  unfold cV
  split
  · rename_i ha
    have e:x'=xs.getD 0 0:=by omega
    have hi0:i=0:=by
      rcases Nat.eq_zero_or_pos i with h | h
      · exact h
      · have:=cv ax h om;omega
    subst hi0
    rw[e,btw_left]
  · split
    · rename_i ha hb
      have e:x'=xs.getD (xs.length-1) 0:=by omega
      have hi2:i+2=xs.length:=by
        rcases h3 with h | h
        · omega
        · exact h
      rw[show xs.length-1=i+1 by omega] at e ⊢
      rw[e,btw_right _ _ hmono]
    · rename_i ha hb
      have e:x'=x:=by omega
      subst e
      have h4:x'<xs.getD (i+1) 0:=by
        rcases h3 with h | h
        · exact h
        · rw[show xs.length-1=i+1 by omega] at hb;omega
      rw[seg_eq ax hi h1 h4]
theorem floor_pos {a b:Int} (ha: -9223372036854775808≤a∧a≤9223372036854775807) (hb:1≤b):mdX a 1 b 1=a/b:=by
  rw[floor_val ha om,if_neg om]
theorem tdiv_floor {a b:Int} (hb:1≤b):(Int.tmod a b<0→a/b=Int.tdiv a b-1)∧(¬ Int.tmod a b<0→a/b=Int.tdiv a b):=by
  have h0:=Int.mul_tdiv_add_tmod a b
  obtain ⟨_,_,_,_,_,h5,_⟩:=tmod_facts (a:=a) (b:=b) om
  have h6:=h5 om
  constructor<;>intro h
  · exact ediv_of om (by rw[Int.sub_mul,Int.one_mul,Int.mul_comm];omega) (by rw[Int.sub_mul,Int.one_mul,Int.mul_comm];omega)
  · exact ediv_of om (by rw[Int.mul_comm];omega) (by rw[Int.mul_comm];omega)
theorem tdiv_bd {a b:Int} (hb:1≤b) (ha: -4611686018427387904≤a∧a≤4611686018427387904): -4611686018427387904≤Int.tdiv a b∧Int.tdiv a b≤4611686018427387904:=by
  have h:=Int.natAbs_tdiv_le_natAbs a b
  omega

theorem prod_bd {t k:Int} (ht: -2147483648≤t∧t≤2147483648) (hk: -2147483648≤k∧k≤2147483648): -4611686018427387904≤t*k∧t*k≤4611686018427387904:=by
  have h1:(t*k).natAbs≤2147483648*2147483648:=by rw[Int.natAbs_mul];exact Nat.mul_le_mul om om
  omega
theorem hb134:af prog 134:=fun _ _=>by kernel_rfl

theorem between_any (x0 x1 y0 y1 x:Int) (w:World) (hx0: -1073741824≤x0∧x0≤1073741824) (hx1: -1073741824≤x1∧x1≤1073741824) (hy0: -1073741824≤y0∧y0≤1073741824) (hy1: -1073741824≤y1∧y1≤1073741824) (hx:x0<x1∧x0≤x∧x≤x1):Ret prog 134 #[iv x0,iv x1,iv y0,iv y1,iv x] w (fun v w'=>v=iv (ek x0 x1 y0 y1 x)∧Sep w [] w'):=by
 refine Ret.st (N:=24) func134 fun R hR S0=>J.wi 10 [] [(11,iv y0)] [] 14 (x-x0)<|J.wi 3 [] [] [] 17 (y1-y0) ?_
 have hpb:=prod_bd (t:=x-x0) (k:=y1-y0) om om
 refine J.wi 1 [] [] [] 18 ((x-x0)*(y1-y0))<|J.wi 3 [] [] [] 21 (x1-x0)<|J.c0 0 [] [] [] S0 22 hb131 (floor_any ((x-x0)*(y1-y0)) (x1-x0) _ om om) fun w1 S1=>J.head (iv (((x-x0)*(y1-y0))/(x1-x0))) (congrArg (Value.int .i64) (floor_pos om om)) ?_
 have hbw:=dS (x0:=x0) (x1:=x1) (y0:=y0) (y1:=y1) (x:=x) om om om
 unfold ek at hbw
 refine J.wi 1 [] [] [] 23 (y0+(((x-x0)*(y1-y0))/(x1-x0)))<|J.e 2 [iv (y0+(((x-x0)*(y1-y0))/(x1-x0)))] func134 (hR _ _ ?_)
 exact⟨rfl,S1.nil⟩

theorem hb169:af prog 169:=fun _ _=>by kernel_rfl

theorem r6floor_any (a b:Int) (w:World) (ha: -4611686018427387904≤a∧a≤4611686018427387904) (hb:1≤b):Ret prog 169 #[iv a,iv b] w (fun v w'=>v=iv (a/b)∧Sep w [] w'):=by
 refine Ret.st (N:=16) func169 fun R hR S0=>J.r 8 [] [(7,iv b),(6,iv a)] []<|J.ok (OK.quo 8 .i64 a b kr om) ?_
 have hqb:=tdiv_bd (a:=a) (b:=b) om om
 refine J.head (iv (Int.tdiv a b)) (congrArg (Value.int .i64) (IntWalk.i64_in _ om))<|J.r 7 [] [(10,iv b),(9,iv a),(5,iv (Int.tdiv a b))] []<|J.ok (OK.rem 11 .i64 a b kr om)<|J.c 2 [] [] [] 12 ((Int.tmod a b)<0) (fun fk1=>?_) fun fk1=>?_
 refine J.wi 4 [true] [] [] 14 ((Int.tdiv a b)-1)<|J.e 7 [iv ((Int.tdiv a b)-1)] func169 (hR _ _ ?_)
 obtain ⟨e1,e2⟩:=tdiv_floor (a:=a) (b:=b) hb
 exact⟨congrArg (Value.int .i64) om,S0.nil⟩
 refine J.e 7 [iv (Int.tdiv a b)] func169 (hR _ _ ?_)
 obtain ⟨e1,e2⟩:=tdiv_floor (a:=a) (b:=b) hb
 exact⟨congrArg (Value.int .i64) om,S0.nil⟩

theorem seg_search {l:List Int} {x x' r:Int} (ax:bW l=true) (hx:x'=min (max x (l.getD 0 0)) (l.getD (l.length-1) 0)) (h0:0≤r∧r≤(l.length:Int)) (h1:r=0∨decide (l.getD (r-1).toNat 0>x')=false) (h2:r=(l.length:Int)∨decide (l.getD r.toNat 0>x')=true) :
    (0≤min (r-1) ((l.length:Int)-2)∧min (r-1) ((l.length:Int)-2)+1<(l.length:Int))∧l.getD (min (r-1) ((l.length:Int)-2)).toNat 0≤x'∧x'≤l.getD (min (r-1) ((l.length:Int)-2)+1).toNat 0∧(x'<l.getD (min (r-1) ((l.length:Int)-2)+1).toNat 0∨min (r-1) ((l.length:Int)-2)+2=(l.length:Int)):=by
  have hl:=(bV ax).1
  have hends:=cv ax (show 0<l.length-1 by omega) om
  by_cases hr:r=(l.length:Int)
  · subst hr
    have e:min ((l.length:Int)-1) ((l.length:Int)-2)=(l.length:Int)-2:=by omega
    rw[e]
    have e2:((l.length:Int)-2+1).toNat=l.length-1:=by omega
    rw[e2]
    have h3:=axis_le ax (show((l.length:Int)-2).toNat≤((l.length:Int)-1).toNat by omega) om
    rcases h1 with h1 | h1
    · omega
    · rw[decide_eq_false_iff_not] at h1
      exact⟨om,om,om,om⟩
  · have h2':l.getD r.toNat 0>x':=by
      rcases h2 with h | h
      · exact absurd h hr
      · exact of_decide_eq_true h
    have hr1:r≠0:=by
      intro e
      subst e;simp only[Int.toNat_zero] at h2';omega
    have h1':l.getD (r-1).toNat 0≤x':=by
      rcases h1 with h | h
      · omega
      · rw[decide_eq_false_iff_not] at h;omega
    have e:min (r-1) ((l.length:Int)-2)=r-1:=by omega
    rw[e,show(r-1+1).toNat=r.toNat by omega]
    exact⟨om,h1',om,.inl om⟩
theorem hb159:af prog 159:=fun _ _=>by kernel_rfl

theorem seg1_any (la:Option Addr) (len cap:Nat) (l:List Int) (x i:Int) (bx1 bx2:Nat) (w:World) (hI:dj w la len l) (hlen:len≤9223372036854775807) (hi:0≤i∧i<(len:Int)) (hb1:(box bx1 [.slice la len cap] 26).holds w) (hb2:(box bx2 [iv x] 3).holds w):Ret prog 159 #[iv i,pv bx1,pv bx2] w (fun v w'=>v=.bool (decide (l.getD i.toNat 0>x))∧Sep w [] w'):=by
 refine Ret.st (N:=11) func159 fun R hR S0=>J.r 5 [] [] [] ?_
 obtain ⟨p1,hp1,hc1⟩:=hI.at 0 (i).toNat om
 refine J.drawStill S0 7 Tryz.mixed kr kr kr ?_
 intro w1 S1
 refine SL.ok dE (OK.ldRo S1 hb1 5 26 0 (.slice la len cap) kr kr)<|SL.r 6 (iv i)<|SL.ok dE (OK.index 7 26 1 la p1 len (i).toNat i (p1.add (i).toNat) kr kr hp1 om om nO)<|SL.ok dE (OK.ldCell 8 3 (p1.add (i).toNat) (iv (l.getD (i).toNat 0)) kr kr (S1.cell hc1))<|SL.ok dE (OK.ldRo S1 hb2 9 3 0 (iv x) kr kr)<|SL.r 10 (.bool (decide ((l.getD (i).toNat 0)>x)))<|SL.r 4 (.bool (decide ((l.getD (i).toNat 0)>x)))<|SL.done<|TL.done kr<|J.e 0 [.bool (decide ((l.getD (i).toNat 0)>x))] func159 (hR _ _ ?_)
 exact⟨rfl,S1.nil⟩

theorem hb132:af prog 132:=fun _ _=>by kernel_rfl

theorem segment_any (la:Option Addr) (len cap:Nat) (l:List Int) (x:Int) (w:World) (hI:dj w la len l) (hlen:len≤9223372036854775807) (ax:bW l=true):Ret prog 132 #[.slice la len cap,iv x] w (fun v w'=>∃ i x',v=.tuple #[iv i,iv x']∧(x'=min (max x (l.getD 0 0)) (l.getD (l.length-1) 0)∧(0≤i∧i+1<(l.length:Int))∧l.getD i.toNat 0≤x'∧x'≤l.getD (i+1).toNat 0∧(x'<l.getD (i+1).toNat 0∨i+2=(l.length:Int)))∧Sep w [] w'):=by
 refine Ret.st (N:=29) func132 fun R hR S0=>?_
 have hll:=hI.len_eq
 obtain ⟨hx1,hx2,hx3⟩:=bV ax
 refine J.nw 2 [] [] [] S0 2 [.slice la len cap] 26 fun b1 w1 S1=>J.nw 0 [] [] [] S1 3 [iv x] 3 fun b2 w2 S2=>J.r 4 [] [] [] ?_
 obtain ⟨p1,hp1,hc1⟩:=hI.at 0 0 om
 obtain ⟨p2,hp2,hc2⟩:=hI.at 0 ((len:Int)-1).toNat om
 refine J.drawTail S2 10 Tryz.mixed kr kr ?_
 intro w3 S3
 refine SL.lb S3 0 rfl 7 (iv x)<|SL.lb S3 1 rfl 8 (.slice la len cap)<|SL.ok dE (OK.index 9 26 1 la p1 len 0 0 (p1.add 0) kr kr hp1 om om nO)<|SL.ok dE (OK.ldCell 10 3 (p1.add 0) (iv (l.getD 0 0)) kr kr (S3.cell hc1))<|SL.lb S3 1 rfl 11 (.slice la len cap)<|SL.lb S3 1 rfl 12 (.slice la len cap)<|SL.r 13 (iv (len:Int))<|SL.r 14 (iv (IntKind.wrap .i64 ((len:Int)-1)))<|SL.head (iv ((len:Int)-1)) (congrArg (Value.int .i64) (IntWalk.i64_in _ om))<|SL.ok dE (OK.index 15 26 1 la p2 len ((len:Int)-1).toNat ((len:Int)-1) (p2.add ((len:Int)-1).toNat) kr kr hp2 om om nO)<|SL.ok dE (OK.ldCell 16 3 (p2.add ((len:Int)-1).toNat) (iv (l.getD ((len:Int)-1).toNat 0)) kr kr (S3.cell hc2)) ?_
 refine SL.done<|TL.callF 17 158 #[iv x,iv (l.getD 0 0),iv (l.getD ((len:Int)-1).toNat 0)] hb158 kr (clamp_any x (l.getD 0 0) (l.getD ((len:Int)-1).toNat 0) _) ?_
 rintro _ w4 ⟨rfl,T1⟩
 have S4:Sep w [box b2 [iv x] 3,box b1 [.slice la len cap] 26] w4:=S3.trans T1
 clear T1 S3
 refine TL.stBox S4 0 3 0 (iv (min (max x (l.getD 0 0)) (l.getD ((len:Int)-1).toNat 0))) [iv (min (max x (l.getD 0 0)) (l.getD ((len:Int)-1).toNat 0))] [box b2 [iv (min (max x (l.getD 0 0)) (l.getD ((len:Int)-1).toNat 0))] 3,box b1 [.slice la len cap] 26] kr rfl kr kr rfl ?_
 intro w5 S5
 refine TL.done kr<|J.lb 2 [] [] [] S5 1 rfl 18 (.slice la len cap)<|J.r 2 [] [(20,.func (.func 159) #[] #[pv b1,pv b2]),(19,iv (len:Int))] []<|J.callF 21 155 #[iv (len:Int),.func (.func 159) #[] #[pv b1,pv b2]] hb155 kr (search2 (len:Int) 159 (pv b1) (pv b2) (fun i=>decide (l.getD i.toNat 0>(min (max x (l.getD 0 0)) (l.getD ((len:Int)-1).toNat 0)))) _ om hb159 (fun i_ w_ h0_ h1_ S_=>seg1_any la len cap l (min (max x (l.getD 0 0)) (l.getD ((len:Int)-1).toNat 0)) i_ b1 b2 w_ ((hI.sep S5).sep S_) om ⟨h0_,om⟩ (dG (S5.nth 1 rfl) S_) (dG (S5.nth 0 rfl) S_))) ?_
 rintro _ w6 ⟨r1,rfl,hr11,hr12,hr13,T2⟩
 have S6:Sep w [box b2 [iv (min (max x (l.getD 0 0)) (l.getD ((len:Int)-1).toNat 0))] 3,box b1 [.slice la len cap] 26] w6:=S5.trans T2
 refine J.wi 1 [] [] [] 22 (r1-1)<|J.r 3 [] [(6,iv (r1-1))] []<|J.drawStill S6 8 Tryz.mixed kr kr kr ?_
 intro w7 S7
 refine SL.r 23 (iv (r1-1))<|SL.lb S7 1 rfl 24 (.slice la len cap)<|SL.r 25 (iv (len:Int))<|SL.r 26 (iv (IntKind.wrap .i64 ((len:Int)-2)))<|SL.head (iv ((len:Int)-2)) (congrArg (Value.int .i64) (IntWalk.i64_in _ om))<|SL.r 27 (iv (if ((len:Int)-2)<(r1-1) then ((len:Int)-2) else (r1-1)))<|SL.head (iv (min (r1-1) ((len:Int)-2))) (congrArg (Value.int .i64) om)<|SL.lb S7 0 rfl 28 (iv (min (max x (l.getD 0 0)) (l.getD ((len:Int)-1).toNat 0)))<|SL.r 4 (iv (min (r1-1) ((len:Int)-2)))<|SL.r 5 (iv (min (max x (l.getD 0 0)) (l.getD ((len:Int)-1).toNat 0)))<|SL.done ?_
 refine TL.done kr<|J.e 0 [iv (min (r1-1) ((len:Int)-2)),iv (min (max x (l.getD 0 0)) (l.getD ((len:Int)-1).toNat 0))] func132 (hR _ _ ?_)
 have hxc:min (max x (l.getD 0 0)) (l.getD ((len:Int)-1).toNat 0)=min (max x (l.getD 0 0)) (l.getD (l.length-1) 0):=by rw[show((len:Int)-1).toNat=l.length-1 by omega]
 have hseg:=seg_search (r:=r1) ax hxc om hr12 (by rw[hll];exact hr13)
 rw[hll] at hseg
 exact⟨_,_,rfl,⟨hxc,by rw[hll];exact hseg⟩,S7.nil⟩
theorem hb133:af prog 133:=fun _ _=>by kernel_rfl

theorem along_any (m:Mp) (i x j:Int) (bx1 bx2 bx3:Nat) (w:World) (hm:mpQ w m) (hv:ch m=true) (hi:0≤i∧i+1<(m.aQ:Int)) (hj:0≤j∧j<(m.bB:Int)) (hx:m.aG.getD (i).toNat 0≤x∧x≤m.aG.getD (i+1).toNat 0) (hb1:(box bx1 (mpC m) 61).holds w) (hb2:(box bx2 [iv i] 3).holds w) (hb3:(box bx3 [iv x] 3).holds w):Ret prog 133 #[iv j,pv bx1,pv bx2,pv bx3] w (fun v w'=>v=iv (ek (m.aG.getD (i).toNat 0) (m.aG.getD (i+1).toNat 0) ((m.bh.getD (i).toNat rw0).cd.getD (j).toNat 0) ((m.bh.getD (i+1).toNat rw0).cd.getD (j).toNat 0) x)∧Sep w [] w'):=by
 refine Ret.st (N:=36) func133 fun R hR S0=>?_
 obtain ⟨q1,q2,q3,q4,q5,q6,q7,q8,q9,_⟩:=id hm
 have ql1:=q2.len_eq
 have ql2:=q5.len_eq
 have ql3:=q8.len_eq
 obtain ⟨hv1,hv2,hv3,hv4⟩:=valid_facts hv
 obtain ⟨hx1,hx2,hx3⟩:=bV hv1
 obtain ⟨hy1,hy2,hy3⟩:=bV hv2
 have ha1:=hx2 i.toNat om
 have ha2:=hx2 (i+1).toNat om
 have ha3:=cv hv1 (show i.toNat<(i+1).toNat by omega) om
 obtain ⟨hz1,hz2⟩:=hv4 i.toNat om
 obtain ⟨hz3,hz4⟩:=hv4 (i+1).toNat om
 refine J.r 5 [] [] [] ?_
 obtain ⟨p1,hp1,hc1⟩:=q2.at 0 (i).toNat om
 have hel1:=aP q3 0 (n:=(i).toNat) (by have:=q2.len_eq;omega)
 obtain ⟨p2,hp2,hc2⟩:=q2.at 0 (i+1).toNat om
 have hel2:=aP q3 0 (n:=(i+1).toNat) (by have:=q2.len_eq;omega)
 obtain ⟨p3,hp3,hc3⟩:=q8.at rw0 (i).toNat om
 have hel3:=aP q9 rw0 (n:=(i).toNat) (by have:=q8.len_eq;omega)
 obtain ⟨q10,q11,q12,_⟩:=id hel3
 have ql4:=q11.len_eq
 obtain ⟨p4,hp4,hc4⟩:=q11.at 0 (j).toNat om
 have hel4:=aP q12 0 (n:=(j).toNat) (by have:=q11.len_eq;omega)
 obtain ⟨p5,hp5,hc5⟩:=q8.at rw0 (i+1).toNat om
 have hel5:=aP q9 rw0 (n:=(i+1).toNat) (by have:=q8.len_eq;omega)
 obtain ⟨q13,q14,q15,_⟩:=id hel5
 have ql5:=q14.len_eq
 obtain ⟨p6,hp6,hc6⟩:=q14.at 0 (j).toNat om
 have hel6:=aP q15 0 (n:=(j).toNat) (by have:=q14.len_eq;omega)
 refine J.drawTail S0 29 Tryz.mixed kr kr ?_
 intro w1 S1
 refine SL.r 6 (pv bx1)<|SL.ok dE (OK.ldRo S1 hb1 7 26 0 (.slice m.cF m.aQ m.dm) kr kr)<|SL.ok dE (OK.ldRo S1 hb2 8 3 0 (iv i) kr kr)<|SL.ok dE (OK.index 9 26 1 m.cF p1 m.aQ (i).toNat i (p1.add (i).toNat) kr kr hp1 om om nO)<|SL.ok dE (OK.ldCell 10 3 (p1.add (i).toNat) (iv (m.aG.getD (i).toNat 0)) kr kr (S1.cell hc1))<|SL.r 11 (pv bx1)<|SL.ok dE (OK.ldRo S1 hb1 12 26 0 (.slice m.cF m.aQ m.dm) kr kr)<|SL.ok dE (OK.ldRo S1 hb2 13 3 0 (iv i) kr kr)<|SL.r 14 (iv (IntKind.wrap .i64 (i+1)))<|SL.head (iv (i+1)) (congrArg (Value.int .i64) (IntWalk.i64_in _ om))<|SL.ok dE (OK.index 15 26 1 m.cF p2 m.aQ (i+1).toNat (i+1) (p2.add (i+1).toNat) kr kr hp2 om om nO) ?_
 refine SL.ok dE (OK.ldCell 16 3 (p2.add (i+1).toNat) (iv (m.aG.getD (i+1).toNat 0)) kr kr (S1.cell hc2))<|SL.r 17 (.pointer (some ⟨bx1,2,none⟩))<|SL.ok dE (OK.ldRo S1 hb1 18 59 2 (.slice m.gZ_a m.dJ m.gZ_c) kr kr)<|SL.ok dE (OK.ldRo S1 hb2 19 3 0 (iv i) kr kr)<|SL.ok dE (OK.index 20 59 1 m.gZ_a p3 m.dJ (i).toNat i (p3.add ((i).toNat*1)) kr kr hp3 om om rfl)<|SL.ok dE (OK.ldCell 21 26 (p3.add ((i).toNat*1)) (.slice ((m.bh.getD (i).toNat rw0).gS_a) ((m.bh.getD (i).toNat rw0).gS_n) ((m.bh.getD (i).toNat rw0).gS_c)) kr kr (S1.cell (cell_zero (hc3 0 _ rfl))))<|SL.r 22 (iv j)<|SL.ok dE (OK.index 23 26 1 ((m.bh.getD (i).toNat rw0).gS_a) p4 ((m.bh.getD (i).toNat rw0).gS_n) (j).toNat j (p4.add (j).toNat) kr kr hp4 om om nO)<|SL.ok dE (OK.ldCell 24 3 (p4.add (j).toNat) (iv (((m.bh.getD (i).toNat rw0).cd).getD (j).toNat 0)) kr kr (S1.cell hc4))<|SL.r 25 (.pointer (some ⟨bx1,2,none⟩))<|SL.ok dE (OK.ldRo S1 hb1 26 59 2 (.slice m.gZ_a m.dJ m.gZ_c) kr kr) ?_
 refine SL.ok dE (OK.ldRo S1 hb2 27 3 0 (iv i) kr kr)<|SL.r 28 (iv (IntKind.wrap .i64 (i+1)))<|SL.head (iv (i+1)) (congrArg (Value.int .i64) (IntWalk.i64_in _ om))<|SL.ok dE (OK.index 29 59 1 m.gZ_a p5 m.dJ (i+1).toNat (i+1) (p5.add ((i+1).toNat*1)) kr kr hp5 om om rfl)<|SL.ok dE (OK.ldCell 30 26 (p5.add ((i+1).toNat*1)) (.slice ((m.bh.getD (i+1).toNat rw0).gS_a) ((m.bh.getD (i+1).toNat rw0).gS_n) ((m.bh.getD (i+1).toNat rw0).gS_c)) kr kr (S1.cell (cell_zero (hc5 0 _ rfl))))<|SL.r 31 (iv j)<|SL.ok dE (OK.index 32 26 1 ((m.bh.getD (i+1).toNat rw0).gS_a) p6 ((m.bh.getD (i+1).toNat rw0).gS_n) (j).toNat j (p6.add (j).toNat) kr kr hp6 om om nO)<|SL.ok dE (OK.ldCell 33 3 (p6.add (j).toNat) (iv (((m.bh.getD (i+1).toNat rw0).cd).getD (j).toNat 0)) kr kr (S1.cell hc6))<|SL.ok dE (OK.ldRo S1 hb3 34 3 0 (iv x) kr kr)<|SL.done ?_
 have hz5:=hz2 j.toNat om
 have hz6:=hz4 j.toNat om
 refine TL.callF 35 134 #[iv (m.aG.getD (i).toNat 0),iv (m.aG.getD (i+1).toNat 0),iv (((m.bh.getD (i).toNat rw0).cd).getD (j).toNat 0),iv (((m.bh.getD (i+1).toNat rw0).cd).getD (j).toNat 0),iv x] hb134 kr (between_any (m.aG.getD (i).toNat 0) (m.aG.getD (i+1).toNat 0) (((m.bh.getD (i).toNat rw0).cd).getD (j).toNat 0) (((m.bh.getD (i+1).toNat rw0).cd).getD (j).toNat 0) x _ om om om om om) ?_
 rintro _ w2 ⟨rfl,T1⟩
 have S2:Sep w [] w2:=S1.trans T1
 clear T1 S1
 have:=dS (x0:=(m.aG.getD (i).toNat 0)) (x1:=(m.aG.getD (i+1).toNat 0)) (y0:=(((m.bh.getD (i).toNat rw0).cd).getD (j).toNat 0)) (y1:=(((m.bh.getD (i+1).toNat rw0).cd).getD (j).toNat 0)) (x:=x) om om om
 refine TL.r 5 (iv (ek (m.aG.getD (i).toNat 0) (m.aG.getD (i+1).toNat 0) (((m.bh.getD (i).toNat rw0).cd).getD (j).toNat 0) (((m.bh.getD (i+1).toNat rw0).cd).getD (j).toNat 0) x))<|TL.done kr<|J.e 0 [iv (ek (m.aG.getD (i).toNat 0) (m.aG.getD (i+1).toNat 0) (((m.bh.getD (i).toNat rw0).cd).getD (j).toNat 0) (((m.bh.getD (i+1).toNat rw0).cd).getD (j).toNat 0) x)] func133 (hR _ _ ?_)
 exact⟨rfl,S2.nil⟩

def colZ (m:Mp) (j:Nat):List Int:=(List.range m.aQ).map fun i=>zF m i j
def colF (m:Mp) (x:Int):List Int:=(List.range m.bB).map fun j=>cV m.aG (colZ m j) x
def valueF (m:Mp) (x y:Int):Int:=cV m.aV (colF m x) y
theorem colZ_getD (m:Mp) {i j:Nat} (h:i<m.aQ):(colZ m j).getD i 0=zF m i j:=by simp[colZ,List.getD,h]
theorem colF_getD (m:Mp) (x:Int) {j:Nat} (h:j<m.bB):(colF m x).getD j 0=cV m.aG (colZ m j) x:=by simp[colF,List.getD,h]
theorem value_at {m:Mp} {x y i j x' y':Int} (hX:m.aG.length=m.aQ) (hY:m.aV.length=m.bB) (ax:bW m.aG=true) (ay:bW m.aV=true)
    (a1:x'=min (max x (m.aG.getD 0 0)) (m.aG.getD (m.aG.length-1) 0)) (a2:0≤i∧i+1<(m.aG.length:Int)) (a3:m.aG.getD i.toNat 0≤x') (a4:x'≤m.aG.getD (i+1).toNat 0) (a5:x'<m.aG.getD (i+1).toNat 0∨i+2=(m.aG.length:Int))
    (b1:y'=min (max y (m.aV.getD 0 0)) (m.aV.getD (m.aV.length-1) 0)) (b2:0≤j∧j+1<(m.aV.length:Int)) (b3:m.aV.getD j.toNat 0≤y') (b4:y'≤m.aV.getD (j+1).toNat 0) (b5:y'<m.aV.getD (j+1).toNat 0∨j+2=(m.aV.length:Int)) :
    ek (m.aV.getD j.toNat 0) (m.aV.getD (j+1).toNat 0)
      (ek (m.aG.getD i.toNat 0) (m.aG.getD (i+1).toNat 0) ((m.bh.getD i.toNat rw0).cd.getD j.toNat 0) ((m.bh.getD (i+1).toNat rw0).cd.getD j.toNat 0) x')
      (ek (m.aG.getD i.toNat 0) (m.aG.getD (i+1).toNat 0) ((m.bh.getD i.toNat rw0).cd.getD (j+1).toNat 0) ((m.bh.getD (i+1).toNat rw0).cd.getD (j+1).toNat 0) x') y'=valueF m x y:=by
  have ei:(i+1).toNat=i.toNat+1:=by omega
  have ej:(j+1).toNat=j.toNat+1:=by omega
  rw[ei] at a4 a5 ⊢
  rw[ej] at b4 b5 ⊢
  have key:∀ k:Nat,ek (m.aG.getD i.toNat 0) (m.aG.getD (i.toNat+1) 0) ((m.bh.getD i.toNat rw0).cd.getD k 0) ((m.bh.getD (i.toNat+1) rw0).cd.getD k 0) x'=cV m.aG (colZ m k) x:=by
    intro k
    rw[curve_seg (i:=i.toNat) ax om a3 a4 om a1,colZ_getD m om,colZ_getD m om];rfl
  rw[key,key]
  unfold valueF
  rw[curve_seg (i:=j.toNat) ay om b3 b4 om b1,colF_getD m x om,colF_getD m x om]

theorem row_len {w:World} {m:Mp} (hm:mpQ w m) {i:Nat} (hi:i<m.bh.length):(m.bh.getD i rw0).cd.length=(m.bh.getD i rw0).gS_n:=(aP hm.2.2.2.2.2.2.2.2.1 rw0 hi).2.1.len_eq
theorem hb97:af prog 97:=fun _ _=>by kernel_rfl

theorem at_any (m:Mp) (x y:Int) (w:World) (hm:mpQ w m) (hv:ch m=true):Ret prog 97 #[.agg (mpA m),iv x,iv y] w (fun v w'=>v=iv (valueF m x y)∧Sep w [] w'):=by
 refine Ret.st (N:=45) func97 fun R hR S0=>?_
 obtain ⟨q1,q2,q3,q4,q5,q6,q7,q8,q9,_⟩:=id hm
 have ql1:=q2.len_eq
 have ql2:=q5.len_eq
 have ql3:=q8.len_eq
 obtain ⟨hv1,hv2,hv3,hv4⟩:=valid_facts hv
 obtain ⟨hx1,hx2,hx3⟩:=bV hv1
 obtain ⟨hy1,hy2,hy3⟩:=bV hv2
 refine J.nw 2 [] [] [] S0 3 (mpC m) 61 fun b1 w1 S1=>J.nw 0 [] [] [] S1 4 [iv x] 3 fun b2 w2 S2=>J.lb 5 [] [] [] S2 1 rfl 12 (.slice m.cF m.aQ m.dm)<|J.lb 0 [] [] [] S2 0 rfl 13 (iv x)<|J.callF 14 132 #[.slice m.cF m.aQ m.dm,iv x] hb132 kr (segment_any m.cF m.aQ m.dm m.aG x _ (q2.sep S2) om hv1) ?_
 rintro _ w3 ⟨i1,x1,rfl,⟨hs1a,hs1b,hs1c,hs1d,hs1e⟩,T1⟩
 have S3:Sep w [box b2 [iv x] 3,box b1 (mpC m) 61] w3:=S2.trans T1
 refine J.nw 3 [] [(16,iv x1),(15,iv i1)] [] S3 7 [iv 0] 3 fun b3 w4 S4=>J.sb 0 [] [] [] S4 0 rfl [iv i1] rfl fun w5 S5=>J.sb 0 [] [] [] S5 1 rfl [iv x1] rfl fun w6 S6=>J.lb 4 [] [] [] S6 2 rfl 19 (.slice m.cM m.bB m.dw)<|J.r 1 [] [(20,iv y)] []<|J.callF 21 132 #[.slice m.cM m.bB m.dw,iv y] hb132 kr (segment_any m.cM m.bB m.dw m.aV y _ (q5.sep S6) om hv2) ?_
 rintro _ w7 ⟨i2,x2,rfl,⟨hs2a,hs2b,hs2c,hs2d,hs2e⟩,T2⟩
 have S7:Sep w [box b3 [iv i1] 3,box b2 [iv x1] 3,box b1 (mpC m) 61] w7:=S6.trans T2
 refine J.r 12 [] [(9,.func (.func 133) #[] #[pv b1,pv b3,pv b2]),(2,iv x2),(8,iv i2)] [] ?_
 obtain ⟨p1,hp1,hc1⟩:=q5.at 0 (i2).toNat om
 have hel1:=aP q6 0 (n:=(i2).toNat) (by have:=q5.len_eq;omega)
 obtain ⟨p2,hp2,hc2⟩:=q5.at 0 (i2+1).toNat om
 have hel2:=aP q6 0 (n:=(i2+1).toNat) (by have:=q5.len_eq;omega)
 refine J.drawPlan (fun w_=>Sep w [box b3 [iv i1] 3,box b2 [iv x1] 3,box b1 (mpC m) 61] w_) [(0,true),(1,true),(2,true),(3,true),(4,true),(5,true),(6,true),(7,true),(8,true),(9,true),(10,true),(11,true),(12,true),(14,true),(15,true),(16,true),(18,true),(13,false),(17,false),(19,false),(20,true)] S7 Tryz.mixed kr (aE (T:=[(0,some 25,8),(1,some 26,33554432),(0,some 27,256),(6,some 28,201326592),(8,some 29,268435456),(0,some 30,8),(32,some 31,1073741824),(0,some 32,256),(128,some 33,4294967296),(320,some 34,10737418240),(512,some 35,17179869184),(0,some 36,512),(0,some 37,256),(6144,some 38,206158430208),(0,some 39,512),(0,some 40,256),(32768,some 41,1099511627776),(90112,some 42,2748779069440),(0,some 43,4),(402448,some 44,13503914049536),(1048575,some 6,17592186044416)]) kr kr) ?_
 intro w8 S8
 refine PB.mk S8<|PL.take 0 25 (.pointer (some ⟨b1,1,none⟩)) (fun _ _=>kr)<|PL.takeOK 1 (fun w_ S_=>OK.ldBox S_ 2 26 26 1 (.slice m.cM m.bB m.dw) kr rfl kr) rfl<|PL.take 2 27 (iv i2) (fun _ _=>kr)<|PL.takeOK 3 (fun w_ S_=>OK.index 28 26 1 m.cM p1 m.bB (i2).toNat i2 (p1.add (i2).toNat) kr kr hp1 om om nO) rfl<|PL.takeOK 4 (fun w_ S_=>OK.ldCell 29 3 (p1.add (i2).toNat) (iv (m.aV.getD (i2).toNat 0)) kr kr (S_.cell hc1)) rfl<|PL.take 5 30 (.pointer (some ⟨b1,1,none⟩)) (fun _ _=>kr)<|PL.takeOK 6 (fun w_ S_=>OK.ldBox S_ 2 31 26 1 (.slice m.cM m.bB m.dw) kr rfl kr) rfl<|PL.take 7 32 (iv i2) (fun _ _=>kr)<|PL.take 8 33 (iv (IntKind.wrap .i64 (i2+1))) (fun _ _=>kr)<|PL.head (iv (i2+1)) (congrArg (Value.int .i64) (IntWalk.i64_in _ om)) ?_
 refine PL.takeOK 9 (fun w_ S_=>OK.index 34 26 1 m.cM p2 m.bB (i2+1).toNat (i2+1) (p2.add (i2+1).toNat) kr kr hp2 om om nO) rfl<|PL.takeOK 10 (fun w_ S_=>OK.ldCell 35 3 (p2.add (i2+1).toNat) (iv (m.aV.getD (i2+1).toNat 0)) kr kr (S_.cell hc2)) rfl<|PL.take 11 36 (.func (.func 133) #[] #[pv b1,pv b3,pv b2]) (fun _ _=>kr)<|PL.take 12 37 (iv i2) (fun _ _=>kr)<|PL.take 14 39 (.func (.func 133) #[] #[pv b1,pv b3,pv b2]) (fun _ _=>kr)<|PL.take 15 40 (iv i2) (fun _ _=>kr)<|PL.take 16 41 (iv (IntKind.wrap .i64 (i2+1))) (fun _ _=>kr)<|PL.head (iv (i2+1)) (congrArg (Value.int .i64) (IntWalk.i64_in _ om))<|PL.take 18 43 (iv x2) (fun _ _=>kr)<|PL.callF 38 133 #[iv i2,pv b1,pv b3,pv b2] hb133 kr (along_any m i1 x1 i2 b1 b3 b2 _ (dZ hm S8) hv om om om (S8.nth 2 rfl) (S8.nth 0 rfl) (S8.nth 1 rfl)) ?_
 rintro _ w9 ⟨rfl,T3⟩
 have S9:Sep w [box b3 [iv i1] 3,box b2 [iv x1] 3,box b1 (mpC m) 61] w9:=S8.trans T3
 refine PB.mk S9<|PL.callF 42 133 #[iv (i2+1),pv b1,pv b3,pv b2] hb133 kr (along_any m i1 x1 (i2+1) b1 b3 b2 _ (dZ hm S9) hv om om om (S9.nth 2 rfl) (S9.nth 0 rfl) (S9.nth 1 rfl)) ?_
 rintro _ w10 ⟨rfl,T4⟩
 have S10:Sep w [box b3 [iv i1] 3,box b2 [iv x1] 3,box b1 (mpC m) 61] w10:=S9.trans T4
 refine PB.mk S10 ?_
 have hby:=hy2 i2.toNat om
 have hby2:=hy2 (i2+1).toNat om
 have hby3:=cv hv2 (show i2.toNat<(i2+1).toNat by omega) om
 have hzb:=dS (x0:=m.aG.getD (i1).toNat 0) (x1:=m.aG.getD (i1+1).toNat 0) (y0:=(m.bh.getD (i1).toNat rw0).cd.getD (i2).toNat 0) (y1:=(m.bh.getD (i1+1).toNat rw0).cd.getD (i2).toNat 0) (x:=x1) (cv hv1 (show i1.toNat<(i1+1).toNat by omega) om) om om
 have hzc:=(hv4 i1.toNat om).2 (i2).toNat (by have:=(hv4 i1.toNat om).1;have:=row_len hm (i:=i1.toNat) om;omega)
 have hzd:=(hv4 (i1+1).toNat om).2 (i2).toNat (by have:=(hv4 (i1+1).toNat om).1;have:=row_len hm (i:=(i1+1).toNat) om;omega)
 have hzb:=dS (x0:=m.aG.getD (i1).toNat 0) (x1:=m.aG.getD (i1+1).toNat 0) (y0:=(m.bh.getD (i1).toNat rw0).cd.getD (i2+1).toNat 0) (y1:=(m.bh.getD (i1+1).toNat rw0).cd.getD (i2+1).toNat 0) (x:=x1) (cv hv1 (show i1.toNat<(i1+1).toNat by omega) om) om om
 have hzc:=(hv4 i1.toNat om).2 (i2+1).toNat (by have:=(hv4 i1.toNat om).1;have:=row_len hm (i:=i1.toNat) om;omega)
 have hzd:=(hv4 (i1+1).toNat om).2 (i2+1).toNat (by have:=(hv4 (i1+1).toNat om).1;have:=row_len hm (i:=(i1+1).toNat) om;omega)
 refine PL.callF 44 134 #[iv (m.aV.getD (i2).toNat 0),iv (m.aV.getD (i2+1).toNat 0),iv (ek (m.aG.getD (i1).toNat 0) (m.aG.getD (i1+1).toNat 0) ((m.bh.getD (i1).toNat rw0).cd.getD (i2).toNat 0) ((m.bh.getD (i1+1).toNat rw0).cd.getD (i2).toNat 0) x1),iv (ek (m.aG.getD (i1).toNat 0) (m.aG.getD (i1+1).toNat 0) ((m.bh.getD (i1).toNat rw0).cd.getD (i2+1).toNat 0) ((m.bh.getD (i1+1).toNat rw0).cd.getD (i2+1).toNat 0) x1),iv x2] hb134 kr (between_any (m.aV.getD (i2).toNat 0) (m.aV.getD (i2+1).toNat 0) (ek (m.aG.getD (i1).toNat 0) (m.aG.getD (i1+1).toNat 0) ((m.bh.getD (i1).toNat rw0).cd.getD (i2).toNat 0) ((m.bh.getD (i1+1).toNat rw0).cd.getD (i2).toNat 0) x1) (ek (m.aG.getD (i1).toNat 0) (m.aG.getD (i1+1).toNat 0) ((m.bh.getD (i1).toNat rw0).cd.getD (i2+1).toNat 0) ((m.bh.getD (i1+1).toNat rw0).cd.getD (i2+1).toNat 0) x1) x2 _ om om om om om) ?_
 rintro _ w11 ⟨rfl,T5⟩
 have S11:Sep w [box b3 [iv i1] 3,box b2 [iv x1] 3,box b1 (mpC m) 61] w11:=S10.trans T5
 clear T5 S10
 have:=dS (x0:=(m.aV.getD (i2).toNat 0)) (x1:=(m.aV.getD (i2+1).toNat 0)) (y0:=(ek (m.aG.getD (i1).toNat 0) (m.aG.getD (i1+1).toNat 0) ((m.bh.getD (i1).toNat rw0).cd.getD (i2).toNat 0) ((m.bh.getD (i1+1).toNat rw0).cd.getD (i2).toNat 0) x1)) (y1:=(ek (m.aG.getD (i1).toNat 0) (m.aG.getD (i1+1).toNat 0) ((m.bh.getD (i1).toNat rw0).cd.getD (i2+1).toNat 0) ((m.bh.getD (i1+1).toNat rw0).cd.getD (i2+1).toNat 0) x1)) (x:=x2) om om om
 refine PB.mk S11<|PL.take 20 6 (iv (ek (m.aV.getD (i2).toNat 0) (m.aV.getD (i2+1).toNat 0) (ek (m.aG.getD (i1).toNat 0) (m.aG.getD (i1+1).toNat 0) ((m.bh.getD (i1).toNat rw0).cd.getD (i2).toNat 0) ((m.bh.getD (i1+1).toNat rw0).cd.getD (i2).toNat 0) x1) (ek (m.aG.getD (i1).toNat 0) (m.aG.getD (i1+1).toNat 0) ((m.bh.getD (i1).toNat rw0).cd.getD (i2+1).toNat 0) ((m.bh.getD (i1+1).toNat rw0).cd.getD (i2+1).toNat 0) x1) x2)) (fun _ _=>kr)<|PL.done<|J.e 0 [iv (ek (m.aV.getD (i2).toNat 0) (m.aV.getD (i2+1).toNat 0) (ek (m.aG.getD (i1).toNat 0) (m.aG.getD (i1+1).toNat 0) ((m.bh.getD (i1).toNat rw0).cd.getD (i2).toNat 0) ((m.bh.getD (i1+1).toNat rw0).cd.getD (i2).toNat 0) x1) (ek (m.aG.getD (i1).toNat 0) (m.aG.getD (i1+1).toNat 0) ((m.bh.getD (i1).toNat rw0).cd.getD (i2+1).toNat 0) ((m.bh.getD (i1+1).toNat rw0).cd.getD (i2+1).toNat 0) x1) x2)] func97 (hR _ _ ?_)
 exact⟨congrArg (Value.int .i64) (value_at (m:=m) (x:=x) (y:=y) (i:=i1) (j:=i2) (x':=x1) (y':=x2) om om hv1 hv2 hs1a hs1b hs1c hs1d hs1e hs2a hs2b hs2c hs2d hs2e),S11.nil⟩

def atF (m:Mp) (x y:Int):Int:=if ch m then valueF m x y else 0
theorem hb63:af prog 63:=fun _ _=>by kernel_rfl

theorem At_any (m:Mp) (x y:Int) (w:World) (hm:mpQ w m):Ret prog 63 #[.agg (mpA m),iv x,iv y] w (fun v w'=>v=iv (atF m x y)∧Sep w [] w'):=by
 refine Ret.st (N:=14) func63 fun R hR S0=>?_
 obtain ⟨q1,q2,q3,q4,q5,q6,q7,q8,q9,_⟩:=id hm
 have ql1:=q2.len_eq
 have ql2:=q5.len_eq
 have ql3:=q8.len_eq
 refine J.nw 2 [] [] [] S0 3 (mpC m) 61 fun b1 w1 S1=>J.lb 5 [] [] [] S1 0 rfl 7 (.agg (mpA m))<|J.c0 0 [] [] [] S1 8 hb53 (valid_any m _ (dZ hm S1)) fun w2 S2=>J.bn 2 [] [] [] 9 (ch m) (fun fk1=>?_) fun fk1=>?_
 have hv:=fk1
 refine J.lb 4 [false] [] [] S2 0 rfl 10 (.agg (mpA m))<|J.c0 2 [] [] [] S2 13 hb97 (at_any m x y _ (dZ hm S2) hv) fun w3 S3=>J.e 2 [iv (valueF m x y)] func63 (hR _ _ ?_)
 exact⟨congrArg (Value.int .i64) (by unfold atF;rw[fk1];rfl),S3.nil⟩
 refine J.e 5 [iv 0] func63 (hR _ _ ?_)
 exact⟨congrArg (Value.int .i64) (by unfold atF;rw[fk1];rfl),S2.nil⟩
end
end Go.Proofs.YtaoolgcddapegaaGreat
