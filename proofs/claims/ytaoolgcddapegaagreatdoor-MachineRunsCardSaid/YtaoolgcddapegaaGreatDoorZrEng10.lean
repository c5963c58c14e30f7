/- The proof engine, tenth part: the contracts of Go's library (the shelf) as the engine's contracts; numerals and joined texts. Conditions: none; it is generic in the program. -/
import Derived.Test.YtaoolgcddapegaaGreatDoorZrEng8
import Derived.Lib.ItoaNum
import Derived.Lib.Join
import Derived.Lib.SmallJoins
import Derived.WalkSmall
import Derived.Sort.Grow
import Derived.Lib.AtoiAll
import Derived.Laws.BytesArg
import Derived.Lib.Strings
import Derived.Lib.SplitLaws
import Derived.Lib.IndexBytes
import Derived.Lib.IndexMore
import Derived.HandedShaped
import Derived.Shelf.Vars
import Derived.Lib.AppendStr
import Derived.Lib.Builder
import Derived.Lib.FrozenHead
import Derived.Lib.OthersKept
import Derived.Lib.ConvBytes
import Derived.Lib.AtoiErrMem
import Derived.Lib.SlBytesConst
set_option linter.unusedSimpArgs false
set_option linter.unusedVariables false
namespace Go.Eng
open Go.RowKit
variable {P:Program} {f:FuncId} {N:Nat} {R:Value→World→Prop}

theorem Ret.of_calls {g:FuncId} {args:Array Value} {w:World} {v:Value} {R:World→Prop} {Q:Value→World→Prop} (h:Calls P g args w fun e w'=>e=.returned v∧R w') (hq:∀ w',R w'→Q v w'):Ret P g args w Q :=
  Calls.mono h fun _ _ ⟨e,r⟩=>⟨v,e,hq _ r⟩

theorem Sep.of_below {w w':World} (h:Below w.heap.size w w'):Sep w [] w':=⟨h,by simp,by simp,.nil⟩

theorem Sep.of_grow (w:World) (k:Nat) (os:Array Obj):Sep w [] (Go.Sort.grow (w.drewN k) os):=by
  refine .of_below ((below_drewN (Below.refl _ _) k).trans ⟨rfl,rfl,rfl,by simp[Go.Sort.grow],fun j hj=>?_⟩)
  simp only[Go.Sort.grow]
  rw[Array.getElem?_append_left (by simpa using hj)]

theorem Sep.tab {w w':World} {L:List Claim} (S:Sep w L w') {n:String} {g:Nat} {k:IntKind} {zs:List Int} (hg:P.globalNamed n=some g) (h:Lib.TabIs P w n k zs):Lib.TabIs P w' n k zs :=
  Go.Joins.tab_stays hg h S.below (Nat.le_refl _)

def itoaB (n:Int):ByteArray:=⟨(Lib.itoa n).toArray⟩
theorem nDigits_le:∀ (k u:Nat),u<10^(k+1)→Lib.nDigits u≤k+1
  | 0,u,h=>by rw[Lib.nDigits_small (by simpa using h)];exact Nat.le_refl _
  | k+1,u,h=>by
    by_cases hu:u<10
    · rw[Lib.nDigits_small hu];omega
    · rw[Lib.nDigits_big hu]
      have:=nDigits_le k (u/10) (by rw[Nat.pow_succ] at h;omega)
      omega

theorem ten19:(10:Nat)^(18+1)=10000000000000000000:=by decide

theorem itoaB_size {n:Int} (h: -9223372036854775808≤n∧n≤9223372036854775807):(itoaB n).size≤20:=by
  show(Lib.itoa n).toArray.size≤20
  rw[List.size_toArray]
  unfold Lib.itoa
  split
  · rw[List.length_cons,Lib.decDigits_length]
    have:=nDigits_le 18 n.natAbs (by rw[ten19];omega)
    omega
  · rw[Lib.decDigits_length]
    have:=nDigits_le 18 n.toNat (by rw[ten19];omega)
    omega

theorem size_toList (b:ByteArray):b.data.toList.length=b.size:=by rw[Array.length_toList];rfl

theorem lit_size (a:Array UInt8):ByteArray.size ⟨a⟩=a.size:=rfl

theorem rowOf_plain {α:Type} {enc:α→List Value} {w:World} {a:Option Addr} {cap:Nat} {e:TypeId} {size:Nat} {l:List α} (h:(am enc a cap e size l).holds w):∀ p,a=some p→p=⟨p.block,0,none⟩:=by
  intro p hp
  have h':w.ownsRow 0 e size (.slice a l.length cap) l.length (l.flatMap enc):=h
  subst hp
  rcases h'.2 with ⟨h2,_⟩ | ⟨g,c,cur,h2,_⟩
  · simp at h2
  · simp only[Value.slice.injEq,Option.some.injEq] at h2
    rw[h2.1]

end Go.Eng

namespace Go.Eng
open Go.RowKit
variable {P:Program} {f:FuncId} {N:Nat} {R:Value→World→Prop}

abbrev ls (s:ByteArray):List UInt8:=s.data.toList
theorem ls_inj {a b:ByteArray} (h:ls a=ls b):a=b:=ByteArray.ext (Array.toList_inj.1 h)
theorem beq_ls (a b:ByteArray):(a.toList==b.toList)=(ls a==ls b):=by rw[ByteArray.toList_eq,ByteArray.toList_eq]
theorem ls_mk (l:List UInt8):ls ⟨l.toArray⟩=l:=rfl
theorem ls_append (a b:ByteArray):ls (a++b)=ls a++ls b:=by simp[ls]
theorem cm (s:ByteArray):(ls s).length=s.size:=size_toList s
theorem fg (s:ByteArray) (i:Nat):bD s i=(((ls s).getD i 0).toNat:Int):=rfl
def ErrW (w:World) (g:Nat):Prop:=∃ ev,w.cell? ⟨g,0,none⟩=some ev∧(ev=.nilIface∨∃ te pe,ev=.iface te pe)
theorem ErrW.sep {w w':World} {L:List Claim} {g:Nat} (h:ErrW w g) (S:Sep w L w'):ErrW w' g:=by
  obtain ⟨ev,h1,h2⟩:=h
  exact⟨ev,S.cell h1,h2⟩


def cvAt (N:Nat) (K:List Item) (env:Env):Option (Option Nat×TypeId×TypeId×Value) :=
  match opAt N K env with
  | some o=>match o.op with
    | .convert s d x=>some (o.dst,s,d,ev env x)
    | _=>none
  | none=>none

theorem OK.conv {K:List Item} {env:Env} {w w':World} (d:Nat) (s t:TypeId) (x v:Value) (h:cvAt N K env=some (some d,s,t,x)) (hr:(convert s t x).run P w=.ok v w'):OK P N K env w (some d) v w':=by
  unfold cvAt at h
  split at h
  · rename_i o ho
    split at h
    · rename_i s' t' x' hop
      simp only[Option.some.injEq,Prod.mk.injEq] at h
      obtain ⟨hd,rfl,rfl,rfl⟩:=h
      refine⟨o,ho,hd,.inl ?_⟩
      unfold execOp
      simp only[hop,Sem.run_bind,hr,Result.andThen_ok,Sem.run_pure]
    · cases h
  · cases h

abbrev bytesL (xs:List Int):List UInt8:=xs.map fun n=>UInt8.ofNat n.toNat
def bytesB (xs:List Int):ByteArray:=⟨(bytesL xs).toArray⟩
def isBytes (P:Program) (s t:TypeId):Bool :=
  match P.underlying s,P.underlying t with
  | some (.slice e),some .string=>match P.underlying e with
    | some (.int .u8)=>true
    | _=>false
  | _,_=>false

theorem OK.bytes {K:List Item} {env:Env} {w:World} (d:Nat) (s t:TypeId) (a:Option Addr) (n cap:Nat) (xs:List Int) (h:cvAt N K env=some (some d,s,t,.slice a n cap)) (ht:isBytes P s t=true)
    (hc:Ones (Value.int .u8) w a n xs) (hp:∀ p,a=some p→p=⟨p.block,p.off,none⟩):OK P N K env w (some d) (.string (bytesB xs)) w:=by
  unfold isBytes at ht
  split at ht
  · rename_i e hs hd
    split at ht
    · rename_i he
      refine OK.conv d s t _ _ h ?_
      cases a with
      | none =>
        have:=hc.nil;subst this
        exact run_convert_bytes_nil (P:=P) w s e hs he _ _ t hd
      | some p =>
        obtain ⟨b,off,hnone⟩:=p
        have e1:=hp _ rfl
        simp only[Addr.mk.injEq,true_and] at e1
        subst e1
        refine run_convert_bytes_arg (P:=P) w s e hs he b off n cap xs hc.len_eq (fun i hi=>?_) t hd
        obtain ⟨q,hq,hcq⟩:=hc.at 0 i hi
        cases hq
        have e2:(⟨b,off,none⟩:Addr).add i=⟨b,off+i,none⟩:=by
          unfold Addr.add
          split
          · rename_i h0;subst h0;rfl
          · rfl
        rw[e2] at hcq;exact hcq
    · cases ht
  · cases ht


def isDig (c:UInt8):Bool:=decide (48≤c.toNat)&&decide (c.toNat≤57)
def foldV (a:Nat) (l:List UInt8):Nat:=l.foldl (fun a c=>a*10+(c.toNat-48)) a
abbrev decV (l:List UInt8):Nat:=foldV 0 l
theorem foldV_snoc (a:Nat) (l:List UInt8) (c:UInt8):foldV a (l++[c])=foldV a l*10+(c.toNat-48):=by simp[foldV]
theorem foldV_cons (a:Nat) (l:List UInt8) (c:UInt8):foldV a (c::l)=foldV (a*10+(c.toNat-48)) l:=by unfold foldV;rw[List.foldl_cons]
theorem foldV_le:∀ (l:List UInt8) (a:Nat),a≤foldV a l
  | [],a=>Nat.le_refl _
  | c::l,a=>by rw[foldV_cons];have:=foldV_le l (a*10+(c.toNat-48));omega
theorem foldV_ge:∀ (l:List UInt8) (a:Nat),a*10^l.length≤foldV a l
  | [],a=>by simp[foldV]
  | c::l,a=>by
    rw[foldV_cons,List.length_cons,Nat.pow_succ]
    have:=foldV_ge l (a*10+(c.toNat-48))
    have h2:a*10*10^l.length≤(a*10+(c.toNat-48))*10^l.length:=Nat.mul_le_mul_right _ om
    rw[Nat.mul_comm (10^l.length) 10,← Nat.mul_assoc];omega
theorem decV_pos {l:List UInt8} {c:UInt8} (h:∀ x ∈ c::l,isDig x=true) (hc:c.toNat≠48):10^l.length≤decV (c::l):=by
  have h3:=h c (by simp)
  simp only[isDig,Bool.and_eq_true,decide_eq_true_eq] at h3
  have:=foldV_ge l (0*10+(c.toNat-48))
  rw[← foldV_cons] at this
  exact Nat.le_trans (Nat.le_trans (by omega:10^l.length≤1*10^l.length) (Nat.mul_le_mul_right _ om)) this

theorem parse_eq:∀ (l:List UInt8) (a:Nat),a<18446744073709551616→(∀ c ∈ l,isDig c=true)→Lib.parseUint10 a l=if foldV a l<18446744073709551616 then .ok (foldV a l) else .range
  | [],a,ha,_=>by simp[Lib.parseUint10,foldV,ha]
  | c::l,a,ha,h=>by
    have h3:=h c (by simp)
    simp only[isDig,Bool.and_eq_true,decide_eq_true_eq] at h3
    rw[Lib.parseUint10,if_pos h3]
    have hle:=foldV_le l (a*10+(c.toNat-48))
    split
    · rw[if_neg (by rw[foldV_cons];omega)]
    · split
      · rw[if_neg (by rw[foldV_cons];omega)]
      · rw[parse_eq l _ om (fun x hx=>h x (List.mem_cons_of_mem _ hx)),foldV_cons]

def canonL (l:List UInt8):Bool:= !l.isEmpty&&l.all isDig&& !(l.head? ==some 48&&decide (1<l.length))
theorem eE {l:List UInt8} (h:canonL l=true):l≠[]∧(∀ c ∈ l,isDig c=true)∧(l.head? =some 48→l.length=1):=by
  simp only[canonL,Bool.and_eq_true,Bool.not_eq_true',List.all_eq_true] at h
  obtain ⟨⟨h1,h2⟩,h3⟩:=h
  refine⟨fun e=>by rw[e] at h1;simp at h1,h2,fun e=>?_⟩
  rw[e,beq_self_eq_true,Bool.true_and,decide_eq_false_iff_not] at h3
  cases l with
  | nil=>simp at h1
  | cons c l=>simp only[List.length_cons] at h3 ⊢;omega

theorem dig_of (d:Nat) (h:d<10):isDig (UInt8.ofNat (48+d))=true∧(UInt8.ofNat (48+d)).toNat=48+d:=by
  have:(UInt8.ofNat (48+d)).toNat=48+d:=by rw[UInt8.toNat_ofNat'];omega
  refine⟨?_,this⟩
  simp only[isDig,this,Bool.and_eq_true,decide_eq_true_eq];omega

theorem digits_facts (u:Nat):canonL (Lib.decDigits u)=true∧decV (Lib.decDigits u)=u∧(u≠0→(Lib.decDigits u).head? ≠some 48):=by
  induction u using Nat.strongRecOn with
  | _ u ih =>
    by_cases h:u<10
    · rw[Lib.decDigits_one h]
      obtain ⟨d1,d2⟩:=dig_of u h
      refine⟨by simp only[canonL,List.all_cons,List.all_nil,d1,List.isEmpty_cons,List.length_singleton];simp,by simp only[decV,foldV,List.foldl_cons,List.foldl_nil,d2];omega,fun h0 e=>?_⟩
      simp only[List.head?_cons,Option.some.injEq] at e
      have:(UInt8.ofNat (48+u)).toNat=(48:UInt8).toNat:=by rw[e]
      rw[d2] at this
      have h48:(48:UInt8).toNat=48:=rfl
      omega
    · obtain ⟨i1,i2,i3⟩:=ih (u/10) om
      obtain ⟨d1,d2⟩:=dig_of (u%10) om
      obtain ⟨f1,f2,f3⟩:=eE i1
      rw[Lib.decDigits,dif_neg h]
      have hh:(Lib.decDigits (u/10)++[UInt8.ofNat (48+u%10)]).head? =(Lib.decDigits (u/10)).head? :=by
        cases hd:Lib.decDigits (u/10) with
        | nil=>exact absurd hd f1
        | cons c l=>rfl
      have hne:=i3 om
      refine⟨?_,by rw[decV,foldV_snoc,show foldV 0 (Lib.decDigits (u/10))=u/10 from i2,d2];omega,fun _=>by rw[hh];exact hne⟩
      simp only[canonL,Bool.and_eq_true,Bool.not_eq_true',List.all_eq_true]
      refine⟨⟨by simp,fun c hc=>?_⟩,by rw[hh,beq_eq_false_iff_ne.2 hne,Bool.false_and]⟩
      rcases List.mem_append.1 hc with hc | hc
      · exact f2 c hc
      · simp only[List.mem_singleton] at hc;subst hc;exact d1

theorem snoc_ind {α:Type} {p:List α→Prop} (h0:p []) (h1:∀ l x,p l→p (l++[x])):∀ l,p l:=by
  intro l
  have:=fun l:List α=>(List.rec (motive:=fun l=>p l.reverse) (by simpa using h0) (fun x l ih=>by rw[List.reverse_cons];exact h1 _ _ ih) l:p l.reverse)
  have h2:=this l.reverse
  rwa [List.reverse_reverse] at h2

theorem digits_canon (l:List UInt8):canonL l=true→Lib.decDigits (decV l)=l:=by
  refine snoc_ind (p:=fun l=>canonL l=true→Lib.decDigits (decV l)=l) (fun h=>by simp[canonL] at h) (fun l c ih h=>?_) l
  obtain ⟨f1,f2,f3⟩:=eE h
  have hc:=f2 c (by simp)
  simp only[isDig,Bool.and_eq_true,decide_eq_true_eq] at hc
  have hb:UInt8.ofNat (48+(c.toNat-48))=c:=by rw[show 48+(c.toNat-48)=c.toNat by omega];exact UInt8.ofNat_toNat
  cases l with
  | nil =>
    have e:decV ([]++[c])=c.toNat-48:=by simp[decV,foldV]
    rw[e,Lib.decDigits_one om,hb];rfl
  | cons x l =>
    have hx:x.toNat≠48:=fun e=>by
      have e2:x=48:=UInt8.toNat_inj.1 (by rw[e];rfl)
      have:=f3 (by rw[e2];rfl)
      simp at this
    have hl:canonL (x::l)=true:=by
      simp only[canonL,Bool.and_eq_true,Bool.not_eq_true',List.all_eq_true]
      refine⟨⟨rfl,fun y hy=>f2 y (by simp only[List.mem_append];exact .inl hy)⟩,?_⟩
      rw[List.head?_cons,beq_eq_false_iff_ne.2 (fun e=>hx (by rw[Option.some.inj e];rfl)),Bool.false_and]
    have hp:=decV_pos (l:=l) (c:=x) (fun y hy=>f2 y (by simp only[List.mem_append];exact .inl hy)) hx
    have hp1:1≤10^l.length:=Nat.one_le_pow _ _ dE
    have e:decV (x::l++[c])=decV (x::l)*10+(c.toNat-48):=foldV_snoc _ _ _
    rw[e,Lib.decDigits,dif_neg om,show(decV (x::l)*10+(c.toNat-48))/10=decV (x::l) by omega,show(decV (x::l)*10+(c.toNat-48))%10=c.toNat-48 by omega,hb,ih hl]

def negL (l:List UInt8):Bool:=l.head? ==some 45
def digL (l:List UInt8):List UInt8:=if negL l then l.tail else l
def formL (l:List UInt8):Bool:= !(digL l).isEmpty&&(digL l).all isDig&& !((digL l).head? ==some 48&&decide (1<l.length))
def valL (l:List UInt8):Int:=if negL l then -(decV (digL l):Int) else (decV (digL l):Int)
def fitL (n:Int):Bool:=decide (-9223372036854775808≤n)&&decide (n≤9223372036854775807)
theorem digL_len (l:List UInt8):(digL l).length≤l.length∧l.length≤(digL l).length+1:=by
  unfold digL;split
  · rw[List.length_tail];omega
  · omega
theorem digL_neg {l:List UInt8} (h:negL l=true):l=45::digL l:=by
  cases l with
  | nil=>simp[negL] at h
  | cons c l =>
    have:c=45:=by simpa [negL] using h
    subst this;rfl
theorem digL_pos {l:List UInt8} (h:negL l=false):digL l=l:=by unfold digL;rw[h];rfl
theorem form_canon {l:List UInt8} (h:formL l=true):canonL (digL l)=true:=by
  simp only[formL,canonL,Bool.and_eq_true,Bool.not_eq_true',Bool.and_eq_false_iff] at h ⊢
  obtain ⟨⟨h1,h2⟩,h3⟩:=h
  refine⟨⟨h1,h2⟩,?_⟩
  rcases h3 with h3 | h3
  · exact .inl h3
  · right;rw[decide_eq_false_iff_not] at h3 ⊢;have:=(digL_len l).1;omega
theorem form_neg {l:List UInt8} (h:formL l=true) (hn:negL l=true):decV (digL l)≠0:=by
  obtain ⟨f1,f2,f3⟩:=eE (form_canon h)
  simp only[formL,Bool.and_eq_true,Bool.not_eq_true',Bool.and_eq_false_iff] at h
  have hl:=congrArg List.length (digL_neg hn)
  cases hd:digL l with
  | nil=>exact absurd hd f1
  | cons c r =>
    rw[hd] at h f2 hl
    have hc:c.toNat≠48:=fun e=>by
      have e2:c=48:=UInt8.toNat_inj.1 (by rw[e];rfl)
      rcases h.2 with h3 | h3
      · rw[e2] at h3;simp at h3
      · rw[decide_eq_false_iff_not] at h3;simp only[List.length_cons] at hl;omega
    have:=decV_pos (l:=r) (c:=c) f2 hc
    have hp1:1≤10^r.length:=Nat.one_le_pow _ _ dE
    omega
theorem itoa_form {l:List UInt8} (h:formL l=true):Lib.itoa (valL l)=l:=by
  have hc:=digits_canon _ (form_canon h)
  unfold Lib.itoa valL
  cases hn:negL l with
  | true =>
    have:=form_neg h hn
    rw[if_pos rfl,if_pos om,Int.natAbs_neg,Int.natAbs_natCast,hc,← digL_neg hn]
  | false =>
    rw[if_neg (show ¬ (false=true) by decide)]
    rw[if_neg om,Int.toNat_natCast,hc,digL_pos hn]
theorem form_itoa (n:Int):formL (Lib.itoa n)=true∧valL (Lib.itoa n)=n:=by
  unfold Lib.itoa
  split
  · rename_i h
    obtain ⟨d1,d2,d3⟩:=digits_facts n.natAbs
    have hn:negL (45::Lib.decDigits n.natAbs)=true:=rfl
    have hd:digL (45::Lib.decDigits n.natAbs)=Lib.decDigits n.natAbs:=rfl
    refine⟨?_,by unfold valL;rw[hn,if_pos rfl,hd,d2];omega⟩
    simp only[canonL,Bool.and_eq_true] at d1
    simp only[formL,hd,Bool.and_eq_true]
    exact⟨d1.1,by rw[beq_eq_false_iff_ne.2 (d3 om),Bool.false_and];rfl⟩
  · rename_i h
    obtain ⟨d1,d2,d3⟩:=digits_facts n.toNat
    obtain ⟨f1,f2,f3⟩:=eE d1
    have hn:negL (Lib.decDigits n.toNat)=false:=by
      cases hd:Lib.decDigits n.toNat with
      | nil=>exact absurd hd f1
      | cons c r =>
        have:=f2 c (by rw[hd];simp)
        simp only[isDig,Bool.and_eq_true,decide_eq_true_eq] at this
        unfold negL
        rw[List.head?_cons,beq_eq_false_iff_ne]
        intro e
        have e2:=Option.some.inj e
        rw[e2] at this
        exact absurd this.1 dE
    refine⟨?_,by unfold valL;rw[hn,if_neg dE,digL_pos hn,d2];omega⟩
    unfold formL;rw[digL_pos hn];exact d1

theorem atoi_form {l:List UInt8} (h:formL l=true):Lib.atoiAll l=if fitL (valL l) then .ok (valL l) else .range:=by
  obtain ⟨f1,f2,f3⟩:=eE (form_canon h)
  have hp:Lib.parseMag (digL l)=if decV (digL l)<18446744073709551616 then .ok (decV (digL l)) else .range:=by
    unfold Lib.parseMag;rw[if_neg f1,parse_eq _ _ om f2]
  cases l with
  | nil=>exact absurd rfl f1
  | cons c r =>
    cases hn:negL (c::r) with
    | true =>
      have hc:c=45:=by simpa [negL] using hn
      subst hc
      have hd:digL (45::r)=r:=rfl
      rw[hd] at hp
      have hv:valL (45::r)= -(decV r:Int):=by unfold valL;rw[hn,if_pos rfl,hd]
      have h45:(45:UInt8).toNat=45:=rfl
      unfold Lib.atoiAll
      simp only[h45,or_true,if_true,hp,hv]
      by_cases h1:decV r<18446744073709551616
      · rw[if_pos h1]
        simp only[not_true_eq_false,false_and,if_false,true_and,if_true]
        by_cases h2:9223372036854775808<decV r
        · rw[if_pos h2,if_neg (by simp only[fitL,Bool.and_eq_true,decide_eq_true_eq];omega)]
        · rw[if_neg h2,if_pos (by simp only[fitL,Bool.and_eq_true,decide_eq_true_eq];omega)]
      · rw[if_neg h1]
        rw[if_neg (by simp only[fitL,Bool.and_eq_true,decide_eq_true_eq];omega)]
    | false =>
      have hd:=digL_pos hn
      rw[hd] at hp f2
      have hv:valL (c::r)=(decV (c::r):Int):=by unfold valL;rw[hn,if_neg dE,hd]
      have hcd:=f2 c (by simp)
      simp only[isDig,Bool.and_eq_true,decide_eq_true_eq] at hcd
      have n1:(c.toNat=43∨c.toNat=45)=False:=eq_false om
      have n2:(c.toNat=45)=False:=eq_false om
      unfold Lib.atoiAll
      simp only[n2,or_false,show(c.toNat=43)=False from eq_false om,if_false,hp,hv]
      by_cases h1:decV (c::r)<18446744073709551616
      · rw[if_pos h1]
        simp only[not_false_eq_true,true_and,false_and,if_false]
        by_cases h2:9223372036854775808≤decV (c::r)
        · rw[if_pos h2,if_neg (by simp only[fitL,Bool.and_eq_true,decide_eq_true_eq];omega)]
        · rw[if_neg h2,if_pos (by simp only[fitL,Bool.and_eq_true,decide_eq_true_eq];omega)]
      · rw[if_neg h1]
        rw[if_neg (by simp only[fitL,Bool.and_eq_true,decide_eq_true_eq];omega)]
variable {P:Program} {f:FuncId} {N:Nat} {R:Value→World→Prop}

def IntW (w:World) (g:Nat) (k:IntKind):Prop:=∃ m,w.cell? ⟨g,0,none⟩=some (.int k m)
theorem IntW.sep {w w':World} {L:List Claim} {g:Nat} {k:IntKind} (h:IntW w g k) (S:Sep w L w'):IntW w' g k:=by
  obtain ⟨m,h1⟩:=h
  exact⟨m,S.cell h1⟩

theorem handed_shaped {H:Type} {enc:TypeId×Value→H} {a:Assume} {C:Checked} {os:Os} {f:FuncId} {fn:Func} {s:ChangeSpec} {conds:List PathCond} {apart fresh handsOn again:Bool} {X:World→Array Value→Prop}
    (hX:∀ (w w':World) (args:Array Value),w.heap=w'.heap→X w args→X w' args) (own:ownKnob C.prog.godebug=none) (started:os.Started) (noInit:C.prog.inits.idxOf? f=none) (hfn:C.prog.funcs[f]? =some fn)
    (witness:∃ (w:World) (tape:Tape) (i:Input),w.os=os∧(w.forCall tape i).Shaped C.prog∧i.vars=[]∧Input.okWide C.prog (w.forCall tape i) .any w.heap.size f i ∧
      ((s.pre enc C.prog fn conds apart (w.forCall tape i).memory i.args∧X (w.forCall tape i).memory i.args)∧sizedMet enc C.prog fn (OpenSpec.ofChange s) apart (w.forCall tape i).memory i.args)∧a.holds C.prog (lone (Frame.enter C.prog f i.args .normal) [] (w.forCall tape i)))
    (contract:∀ (W:World) (eJ:Nat) (args:Array Value) (ds gs:List (DataW H)) (before:List MemPlace),(∀ (j:Nat) t v,fn.params[j]? =some t→args[j]? =some v→Value.okWide C.prog W .any eJ t v) →
      DataW.Whole enc C.prog fn.params.toList s.vars apart W args.toList ds gs before→X W args→W.ShapedOpen C.prog →
      Calls C.prog f args W fun e W'=>∃ v,e=.returned v∧s.post enc C.prog fn apart fresh handsOn again W args v W') :
    ReturnsInHanded a C os f .any (fun w args=>(s.pre enc C.prog fn conds apart w args∧X w args)∧sizedMet enc C.prog fn (OpenSpec.ofChange s) apart w args) (s.post enc C.prog fn apart fresh handsOn again):=by
  refine returnsInHanded_of_calls own started noInit witness fun w tape i _ hsh _ hok hpre _=>?_
  obtain ⟨_,_,_,fn',hfn',_,_,_,_,hval⟩:=hok
  obtain rfl:fn'=fn:=Option.some.inj (hfn'.symm.trans hfn)
  obtain ⟨⟨⟨ds,gs,before,hw,_⟩,hx⟩,_⟩:=hpre
  refine(contract (w.forCall tape i) w.heap.size i.args ds gs before hval (DataW.Whole.of_heap (w':=w.forCall tape i) rF hw) (hX _ _ _ rF hx) hsh).mono fun e W' ⟨v,he,hp⟩=>?_
  subst he
  exact ChangeSpec.post_blind hp


def aQ (c:UInt8):List UInt8→List (List UInt8)
  | []=>[[]]
  | x::r=>if x=c then []::aQ c r else match aQ c r with
    | []=>[[x]]
    | h::t=>(x::h)::t

theorem eV (c:UInt8):∀ l,aQ c l≠[]
  | []=>by simp[aQ]
  | x::r=>by
    unfold aQ
    split
    · simp
    · split<;>simp

theorem splitOn_miss {c:UInt8}:∀ {l:List UInt8},c ∉ l→aQ c l=[l]
  | [],_=>rfl
  | x::r,h=>by
    unfold aQ
    rw[if_neg (fun e=>h (by rw[e];simp)),splitOn_miss (fun e=>h (List.mem_cons_of_mem _ e))]

theorem splitOn_hit {c:UInt8}:∀ {a b:List UInt8},c ∉ a→aQ c (a++c::b)=a::aQ c b
  | [],b,_=>by rw[List.nil_append,aQ,if_pos rfl]
  | x::a,b,h=>by
    rw[List.cons_append,aQ,if_neg (fun e=>h (by rw[e];simp)),splitOn_hit (fun e=>h (List.mem_cons_of_mem _ e))]

theorem index_split {c:UInt8}:∀ {l:List UInt8},(Lib.index l [c]= -1∧c ∉ l)∨∃ a b,l=a++c::b∧c ∉ a∧Lib.index l [c]=(a.length:Int)
  | []=>.inl ⟨by simp[Lib.index],by simp⟩
  | x::r=>by
    by_cases h:x=c
    · subst h
      exact .inr ⟨[],r,rfl,by simp,by rw[Lib.index];simp[List.isPrefixOf]⟩
    · have hp:([c]:List UInt8).isPrefixOf (x::r)=false:=by simp[List.isPrefixOf,Ne.symm h]
      have hix:Lib.index (x::r) [c]=if Lib.index r [c]== -1 then -1 else Lib.index r [c]+1:=by rw[Lib.index,hp];simp
      rcases index_split (c:=c) (l:=r) with ⟨h1,h2⟩ | ⟨a,b,h1,h2,h3⟩
      · refine .inl ⟨by rw[hix,h1];rfl,?_⟩
        simp only[List.mem_cons,not_or];exact⟨Ne.symm h,h2⟩
      · refine .inr ⟨x::a,b,by rw[h1];rfl,?_,?_⟩
        · simp only[List.mem_cons,not_or];exact⟨Ne.symm h,h2⟩
        · rw[hix,h3,if_neg (by rw[beq_iff_eq];omega),List.length_cons];omega

theorem splitK_on {c:UInt8}:∀ (n:Nat) (l:List UInt8),l.length≤n→Lib.splitK [c] 0 (Lib.count l [c]) l=aQ c l:=by
  intro n
  induction n with
  | zero =>
    intro l hl
    have:l=[]:=List.eq_nil_of_length_eq_zero om
    subst this
    rw[Lib.count_miss (by simp[Lib.index])];rfl
  | succ n ih =>
    intro l hl
    rcases index_split (c:=c) (l:=l) with ⟨h1,h2⟩ | ⟨a,b,h1,h2,h3⟩
    · rw[Lib.count_miss h1,splitOn_miss h2];rfl
    · rw[Lib.count_hit (by simp) h3,Nat.add_comm 1,Lib.splitK,if_neg (by rw[beq_iff_eq,h3];omega),h3,Int.toNat_natCast,Nat.add_zero]
      have e1:l.take a.length=a:=by rw[h1,List.take_left]
      have e2:l.drop (a.length+([c]:List UInt8).length)=b:=by rw[h1,← List.drop_drop,List.drop_left];rfl
      rw[e1,e2,ih b (by rw[h1] at hl;simp at hl;omega),h1,splitOn_hit h2]

def az (c:UInt8) (s:ByteArray):List ByteArray:=(aQ c (ls s)).map fun l=>⟨l.toArray⟩
theorem mk_ls (s:ByteArray):(⟨(ls s).toArray⟩:ByteArray)=s:=ls_inj rfl
theorem splitB_pieces (c:UInt8) (s:ByteArray):Lib.splitB ⟨#[c]⟩ 0 (Lib.countB s ⟨#[c]⟩) s=az c s:=by
  have h:=Lib.splitB_data ⟨#[c]⟩ 0 (Lib.countB s ⟨#[c]⟩) s
  have h2:(Lib.splitB ⟨#[c]⟩ 0 (Lib.countB s ⟨#[c]⟩) s).map ls=aQ c (ls s):=h.trans (splitK_on _ _ (Nat.le_refl _))
  unfold az
  rw[← h2,List.map_map]
  exact(List.map_id _).symm.trans (List.map_congr_left fun x _=>(mk_ls x).symm)
theorem splitB_len (c:UInt8) (s:ByteArray):Lib.countB s ⟨#[c]⟩+1=(az c s).length:=by
  rw[← splitB_pieces];exact(Lib.splitB_all ⟨#[c]⟩ (Nat.le_refl 1) 0 _ s rfl).symm
theorem piecesB_getD (c:UInt8) (s:ByteArray) (i:Nat) (h:i<(aQ c (ls s)).length):ls ((az c s).getD i ByteArray.empty)=(aQ c (ls s)).getD i []:=by
  unfold az
  rw[List.getD_eq_getElem?_getD,List.getElem?_map,List.getElem?_eq_getElem h,List.getD_eq_getElem?_getD,List.getElem?_eq_getElem h];rfl
theorem eY (c:UInt8) (s:ByteArray):(az c s).length=(aQ c (ls s)).length:=by unfold az;rw[List.length_map]
theorem splitOn_bound (c:UInt8):∀ l,(aQ c l).length≤l.length+1
  | []=>by simp[aQ]
  | x::r=>by
    have:=splitOn_bound c r
    unfold aQ
    split
    · simp only[List.length_cons];omega
    · split
      · simp
      · rename_i h
        rw[h] at this
        simp only[List.length_cons] at this ⊢;omega
theorem splitOn_sum (c:UInt8):∀ l,(aQ c l).flatten.length+(aQ c l).length=l.length+1
  | []=>by simp[aQ]
  | x::r=>by
    have:=splitOn_sum c r
    unfold aQ
    split
    · simp only[List.flatten_cons,List.nil_append,List.length_cons];omega
    · split
      · rename_i h;exact absurd h (eV c r)
      · rename_i h
        rw[h] at this
        simp only[List.flatten_cons,List.length_append,List.length_cons] at this ⊢;omega
theorem mem_flatten_len {l:List (List UInt8)} {x:List UInt8} (h:x ∈ l):x.length≤l.flatten.length:=by
  induction l with
  | nil=>cases h
  | cons a l ih =>
    rw[List.flatten_cons,List.length_append]
    rcases List.mem_cons.1 h with rfl | h
    · omega
    · have:=ih h;omega
theorem piece_size (c:UInt8) (s:ByteArray) (i:Nat):((az c s).getD i ByteArray.empty).size≤s.size:=by
  by_cases h:i<(aQ c (ls s)).length
  · rw[← cm,piecesB_getD c s i h,← cm s]
    have h1:=splitOn_sum c (ls s)
    have h2:(aQ c (ls s)).getD i [] ∈ aQ c (ls s):=by
      rw[List.getD_eq_getElem?_getD,List.getElem?_eq_getElem h];exact List.getElem_mem _
    have h3:=mem_flatten_len h2
    have h4:1≤(aQ c (ls s)).length:=by
      cases hs:aQ c (ls s) with
      | nil=>exact absurd hs (eV c _)
      | cons _ _=>simp
    omega
  · rw[List.getD_eq_getElem?_getD,List.getElem?_eq_none (by rw[eY];omega)];exact Nat.zero_le _

theorem box_ones {α:Type} {g:α→Value} {w:World} {b:Nat} {l:List α} {T:TypeId} (h:(box b (l.map g) T).holds w) (n:Nat) (hn:l.length=n):Ones g w (some ⟨b,0,none⟩) n l:=⟨hn,bS h⟩

theorem Sep.of_alloc (w:World) (cs:List Value) (T:TypeId):Sep w [box w.heap.size cs T] (w.alloc (.cells cs.toArray T)):=(Sep.refl w).alloc cs T
def enc8 (c:UInt8):List Value:=[.int .u8 c.toNat]
section
variable {P:Program} {f:FuncId} {N:Nat} {R:Value→World→Prop}


end


theorem Sep.builder {w0 w:World} {L:List Claim} {T e:TypeId} {b:Nat} {p:Option Addr} {a:Option Addr} {cap:Nat} {x:ByteArray} (S:Sep w0 (box b [.pointer p,.slice a (ls x).length cap] T::am enc8 a cap e 1 (ls x)::L) w)
    (hp:p=none∨p=some ⟨b,0,none⟩):Lib.IsBuilderF T e w0.heap.size b (Lib.byteCells (ls x)) w:=by
  have h0:=S.nth 0 rfl
  have h1:w.ownsRow 0 e 1 (.slice a (ls x).length cap) (ls x).length ((ls x).flatMap enc8):=S.nth 1 rfl
  have hf0:=S.fresh _ (List.mem_cons_self ..) b rfl
  have hap:=S.apart
  simp only[List.pairwise_cons] at hap
  have hcells:(ls x).flatMap enc8=Lib.byteCells (ls x):=by
    unfold Lib.byteCells
    generalize ls x=l
    induction l with
    | nil=>rfl
    | cons c l ih=>rw[List.flatMap_cons,ih];rfl
  have hblen:(Lib.byteCells (ls x)).length=(ls x).length:=by rw[← hcells];generalize ls x=l;induction l with
    | nil=>rfl
    | cons c l ih=>rw[List.flatMap_cons,List.length_append,ih];show 1+l.length=_;rw[List.length_cons];omega
  have key:∀ q,q=p→Lib.BuilderAt T e w0.heap.size b (.pointer q) (Lib.byteCells (ls x)) w:=by
    rintro q rfl
    refine⟨hf0.1,.slice a (ls x).length cap,h0,?_,?_⟩
    · rw[hblen,← hcells]
      refine⟨h1.1,?_⟩
      rcases h1.2 with hn | ⟨g,cap',cur,hv,hb,rest⟩
      · exact .inl hn
      · refine .inr ⟨g,cap',cur,hv,?_,rest⟩
        exact(S.fresh _ (List.mem_cons_of_mem _ (List.mem_cons_self ..)) g (by show Value.ownBlock _=some g;rw[hv];rfl)).1
    · intro h
      exact hap.1 _ (List.mem_cons_self ..) b rfl h
  refine Lib.IsBuilderF.of ?_
  rcases hp with rfl|rfl
  · exact .inl (key _ rfl)
  · exact .inr (key _ rfl)
variable {P:Program} {f:FuncId} {N:Nat} {R:Value→World→Prop}

def rows8 (b:Nat) (x:ByteArray):Claim :=
  ⟨(· =b),fun w=>∃ cs T fz,w.heap[b]? =some (.cells cs T fz)∧∀ j,j<x.size→cs[j]? =some (.int .u8 (bD x j)),fun w w' h hw=>by rw[h b rfl];exact hw⟩

theorem rows8_at {w:World} {b:Nat} {x:ByteArray} (h:(rows8 b x).holds w) (i:Nat) (hi:i<x.size):∃ p,(some ⟨b,0,none⟩:Option Addr)=some p∧w.cell? (p.add i)=some (.int .u8 (bD x i)):=by
  obtain ⟨cs,T,fz,hb,hc⟩:=h
  refine⟨_,rfl,?_⟩
  have e2:(⟨b,0,none⟩:Addr).add i=⟨b,i,none⟩:=by
    unfold Addr.add
    split
    · rename_i h0;subst h0;rfl
    · simp
  rw[e2]
  simp[World.cell?,hb,hc i hi]
def isStrBytes (P:Program) (s t:TypeId):Option TypeId :=
  match P.underlying s,P.underlying t with
  | some .string,some (.slice e)=>match P.underlying e with
    | some (.int .u8)=>some e
    | _=>none
  | _,_=>none

theorem J.strBytes {w0 w:World} {L:List Claim} (S:Sep w0 L w) {K:List Item} {env:Env} (d:Nat) (s t e:TypeId) (x:ByteArray) (h:cvAt N K env=some (some d,s,t,.string x)) (ht:isStrBytes P s t=some e)
    (k:∀ b cap w',Sep w0 (rows8 b x::L) w'→J P f N R (eX K) ((d,.slice (some ⟨b,0,none⟩) x.size cap)::env) w'):J P f N R K env w:=by
  unfold isStrBytes at ht
  split at ht
  · rename_i e' hs hd
    split at ht
    · rename_i he
      obtain rfl:=Option.some.inj ht
      have hr:=Lib.run_convert_string_bytes (P:=P) w s t e' x hs hd he
      have hS:Sep w [rows8 w.heap.size x] (Lib.bytesWorld w e' x):=by
        refine⟨Lib.bytesWorld_below _ _ _,?_,?_,.cons (by simp) .nil⟩
        · intro c hc
          obtain rfl:=List.mem_singleton.1 hc
          refine⟨_,_,_,Lib.bytesWorld_at_new w e' x,fun j hj=>?_⟩
          have hj2:j<x.data.size:=hj
          unfold Lib.bytesCells
          rw[Array.getElem?_append_left (by simpa using hj2)]
          rw[fg]
          simp[ls,hj2,List.getD]
          exact⟨_,Array.getElem?_eq_getElem hj2,by rw[Array.getElem?_eq_getElem hj2];rfl⟩
        · intro c hc b hb
          obtain rfl:=List.mem_singleton.1 hc
          obtain rfl:b=w.heap.size:=hb
          exact⟨Nat.le_refl _,by rw[Lib.bytesWorld_size];omega⟩
      exact J.ok (OK.conv d s t _ _ h hr) (k _ _ _ (S.trans hS))
    · cases ht
  · cases ht
variable {P:Program} {f:FuncId} {N:Nat} {R:Value→World→Prop}

def cellsB (x:ByteArray):List Value:=(ls x).map fun c=>.int .u8 c.toNat
def isBytesT (P:Program) (t:TypeId):Option TypeId :=
  match P.underlying t with
  | some (.slice e)=>match P.underlying e with
    | some (.int .u8)=>some e
    | _=>none
  | _=>none
theorem freeze_at {w:World} {b k:Nat} {C:Array Value} {e:TypeId} (hb:w.heap[b]? =some (.cells C e (0,0))):(w.freeze ⟨b,k,none⟩ 1).heap[b]? =some (.cells C e (k,k+1)):=by
  unfold World.freeze
  rw[if_neg dE]
  show(w.heap.modify b _)[b]? =_
  rw[Array.getElem?_modify,if_pos rfl,hb];rfl
theorem freeze_ne {w:World} {b k j:Nat} (h:j≠b):(w.freeze ⟨b,k,none⟩ 1).heap[j]? =w.heap[j]? :=by
  unfold World.freeze
  rw[if_neg dE]
  show(w.heap.modify b _)[j]? =_
  rw[Array.getElem?_modify,if_neg (Ne.symm h)]
theorem freeze_size {w:World} {b k:Nat}:(w.freeze ⟨b,k,none⟩ 1).heap.size=w.heap.size:=by
  unfold World.freeze
  rw[if_neg dE]
  show(w.heap.modify b _).size=_
  rw[Array.size_modify]
theorem run_const_bytes {w:World} {t e:TypeId} {b n c:Nat} {C:Array Value} (hb:w.heap[b]? =some (.cells C e (0,0))) (ht:P.underlying t=some (.slice e)) (he:P.underlying e=some (.int .u8)) :
    (convert t t (.slice (some ⟨b,0,none⟩) n c)).run P w=.ok (.slice (some ⟨b,0,none⟩) n c) (w.freeze ⟨b,C.size,none⟩ 1):=by
  have hsh:w.shape? b=some (e,C.size):=by unfold World.shape?;rw[hb]
  simp[convert,run_underlying ht,run_underlying he,markStringish,hsh]
theorem J.constBytes {w0 w:World} {L:List Claim} (S:Sep w0 L w) (i:Nat) {b:Nat} (x:ByteArray) {e:TypeId} {K:List Item} {env:Env} (d t n c:Nat) (hi:L[i]? =some (box b (cellsB x) e)) (h:cvAt N K env=some (some d,t,t,.slice (some ⟨b,0,none⟩) n c)) (ht:isBytesT P t=some e)
    (k:∀ w',Sep w0 (L.set i (rows8 b x)) w'→J P f N R (eX K) ((d,.slice (some ⟨b,0,none⟩) n c)::env) w'):J P f N R K env w:=by
  unfold isBytesT at ht
  split at ht
  · rename_i e' hd
    split at ht
    · rename_i he
      obtain rfl:=Option.some.inj ht
      have hb:w.heap[b]? =some (.cells (cellsB x).toArray e' (0,0)):=S.nth i hi
      have hlt:b<w.heap.size:=by
        rcases Nat.lt_or_ge b w.heap.size with h' | h'
        · exact h'
        · rw[Array.getElem?_eq_none h'] at hb;cases hb
      have hr:=run_const_bytes (P:=P) (n:=n) (c:=c) hb hd he
      have hos:∀ k,(w.freeze ⟨b,k,none⟩ 1).os=w.os∧(w.freeze ⟨b,k,none⟩ 1).tape=w.tape∧(w.freeze ⟨b,k,none⟩ 1).output=w.output:=fun k=>by
        unfold World.freeze;rw[if_neg dE];exact⟨rfl,rfl,rfl⟩
      refine J.ok (OK.conv d t t _ _ h hr) (k _ (S.set i hi (fun b' hb'=>.inl hb') (hos _).1 (hos _).2.1 (hos _).2.2 (Nat.le_of_eq freeze_size.symm) (fun b' _ hn=>freeze_ne hn) ?_))
      refine⟨_,_,_,freeze_at hb,fun j hj=>?_⟩
      have hl:=cm x
      rw[List.getElem?_toArray]
      unfold cellsB
      rw[List.getElem?_map,fg,List.getD_eq_getElem?_getD,List.getElem?_eq_getElem om];rfl
    · cases ht
  · cases ht
theorem eF (b o j:Nat):(⟨b,o,none⟩:Addr).add j=⟨b,o+j,none⟩:=by
  unfold Addr.add
  split
  · rename_i h0;subst h0;rfl
  · simp
theorem box_rec_at {α:Type} {g:α→List Value} {s b:Nat} {l:List α} {T:TypeId} {w:World} (h:(box b (l.flatMap g) T).holds w) (hs:∀ x,(g x).length=s) (hp:0<s) (d:α) (n:Nat) (hn:n<l.length) :
    ∀ j v,(g (l.getD n d))[j]? =some v→w.cell? ((⟨b,n*s,none⟩:Addr).add j)=some v:=by
  have hr:Recs g s w (some ⟨b,0,none⟩) l.length l:=⟨rfl,hs,hp,bS h⟩
  obtain ⟨p,hp',hc⟩:=hr.at d n hn
  cases hp'
  intro j v hj
  have:=hc j v hj
  rw[eF,Nat.zero_add] at this;exact this
theorem box_rec_one {α:Type} {g:α→List Value} {s b:Nat} {l:List α} {T:TypeId} {w:World} (h:(box b (l.flatMap g) T).holds w) (hs:∀ x,(g x).length=s) (hp:0<s) (d:α) (n:Nat) (hn:n<l.length) (j:Nat) (v:Value) (hj:(g (l.getD n d))[j]? =some v) :
    w.cell? ⟨b,n*s+j,none⟩=some v:=by
  have:=box_rec_at h hs hp d n hn j v hj
  rw[eF] at this;exact this
end Go.Eng
