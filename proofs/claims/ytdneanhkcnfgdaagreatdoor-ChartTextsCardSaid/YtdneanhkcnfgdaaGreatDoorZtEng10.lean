/- The proof engine, tenth part: the contracts of Go's library (the shelf) as the engine's contracts; numerals and joined texts. Conditions: none; it is generic in the program. -/
import Derived.Test.YtdneanhkcnfgdaaGreatDoorZtEng9
import Derived.Lib.ItoaNum
import Derived.Lib.Join
import Derived.Lib.SmallJoins
import Derived.WalkSmall
import Derived.Sort.Grow
import Derived.Lib.AtoiAll
import Derived.Laws.BytesArg
import Derived.Lib.Strings
import Derived.Lib.SplitLaws
import Derived.Lib.IndexBytes
import Derived.Lib.IndexMore
import Derived.HandedShaped
import Derived.Shelf.Vars
import Derived.Lib.AppendStr
import Derived.Lib.Builder
import Derived.Lib.FrozenHead
import Derived.Lib.OthersKept
set_option linter.unusedSimpArgs false
set_option linter.unusedVariables false
namespace Go.Eng
open Go.RowKit
variable {P:Program} {f:FuncId} {N:Nat} {R:Value→World→Prop}

theorem Ret.of_calls {g:FuncId} {args:Array Value} {w:World} {v:Value} {R:World→Prop} {Q:Value→World→Prop} (h:Calls P g args w fun e w'=>e=.returned v∧R w') (hq:∀ w',R w'→Q v w'):Ret P g args w Q :=
  Calls.mono h fun _ _ ⟨e,r⟩=>⟨v,e,hq _ r⟩

theorem Sep.of_below {w w':World} (h:Below w.heap.size w w'):Sep w [] w':=⟨h,by simp,by simp,.nil⟩

theorem Sep.of_grow (w:World) (k:Nat) (os:Array Obj):Sep w [] (Go.Sort.grow (w.drewN k) os):=by
  refine .of_below ((below_drewN (Below.refl _ _) k).trans ⟨rfl,rfl,rfl,by simp[Go.Sort.grow],fun j hj=>?_⟩)
  simp only[Go.Sort.grow]
  rw[Array.getElem?_append_left (by simpa using hj)]

theorem Sep.tab {w w':World} {L:List Claim} (S:Sep w L w') {n:String} {g:Nat} {k:IntKind} {zs:List Int} (hg:P.globalNamed n=some g) (h:Lib.TabIs P w n k zs):Lib.TabIs P w' n k zs :=
  Go.Joins.tab_stays hg h S.below (Nat.le_refl _)

def bL (n:Int):ByteArray:=⟨(Lib.itoa n).toArray⟩
def bK (l:List ByteArray) (sep:ByteArray):ByteArray:=⟨(Lib.join (l.map (·.data.toList)) sep.data.toList).toArray⟩

theorem nDigits_le:∀ (k u:Nat),u<10^(k+1)→Lib.nDigits u≤k+1
  | 0,u,h=>by rw[Lib.nDigits_small (by simpa using h)];exact Nat.le_refl _
  | k+1,u,h=>by
    by_cases hu:u<10
    · rw[Lib.nDigits_small hu];omega
    · rw[Lib.nDigits_big hu]
      have:=nDigits_le k (u/10) (by rw[Nat.pow_succ] at h;omega)
      omega

theorem ten19:(10:Nat)^(18+1)=10000000000000000000:=by decide

theorem bE {n:Int} (h: -9223372036854775808≤n∧n≤9223372036854775807):(bL n).size≤20:=by
  show(Lib.itoa n).toArray.size≤20
  rw[List.size_toArray]
  unfold Lib.itoa
  split
  · rw[List.length_cons,Lib.decDigits_length]
    have:=nDigits_le 18 n.natAbs (by rw[ten19];omega)
    omega
  · rw[Lib.decDigits_length]
    have:=nDigits_le 18 n.toNat (by rw[ten19];omega)
    omega

theorem joinTail_length {sep:List UInt8} {k:Nat}:∀ {r:List (List UInt8)},(∀ x ∈ r,x.length≤k)→(Lib.joinTail sep r).length≤r.length*(k+sep.length)
  | [],_=>by simp[Lib.joinTail]
  | x::r,h=>by
    have h1:=h x (by simp)
    have h2:=joinTail_length (sep:=sep) (r:=r) fun y hy=>h y (by simp[hy])
    simp only[Lib.joinTail,List.map_cons,List.flatten_cons,List.length_append,List.length_cons] at h2 ⊢
    rw[Nat.add_mul];omega

theorem size_toList (b:ByteArray):b.data.toList.length=b.size:=by rw[Array.length_toList];rfl

theorem joinB_size {l:List ByteArray} {sep:ByteArray} {k:Nat} (h:∀ b ∈ l,b.size≤k):(bK l sep).size≤l.length*(k+sep.size):=by
  show(Lib.join (l.map (·.data.toList)) sep.data.toList).toArray.size≤_
  rw[List.size_toArray]
  cases l with
  | nil=>simp[Lib.join_nil]
  | cons b l =>
    rw[List.map_cons,Lib.join_cons]
    have h1:=h b (by simp)
    have h2:=joinTail_length (sep:=sep.data.toList) (k:=k) (r:=l.map (·.data.toList)) fun x hx=>by
      obtain ⟨y,hy,rfl⟩:=List.mem_map.1 hx
      rw[size_toList];exact h y (by simp[hy])
    rw[List.length_append,size_toList,List.length_cons]
    rw[List.length_map,size_toList] at h2
    rw[Nat.add_mul];omega

theorem lit_size (a:Array UInt8):ByteArray.size ⟨a⟩=a.size:=rfl

end Go.Eng

namespace Go.Eng
open Go.RowKit
variable {P:Program} {f:FuncId} {N:Nat} {R:Value→World→Prop}

abbrev ls (s:ByteArray):List UInt8:=s.data.toList
theorem ls_inj {a b:ByteArray} (h:ls a=ls b):a=b:=ByteArray.ext (Array.toList_inj.1 h)
theorem beq_ls (a b:ByteArray):(a.toList==b.toList)=(ls a==ls b):=by rw[ByteArray.toList_eq,ByteArray.toList_eq]
theorem ls_mk (l:List UInt8):ls ⟨l.toArray⟩=l:=rfl
theorem bl (a b:ByteArray):ls (a++b)=ls a++ls b:=by simp[ls]
theorem bf (s:ByteArray):(ls s).length=s.size:=size_toList s
theorem ls_extract (s:ByteArray) (i j:Nat):ls (s.extract i j)=((ls s).take j).drop i:=by
  simp[ls,ByteArray.data_extract,Array.toList_extract,List.extract_eq_take_drop,List.drop_take]
theorem byteAt_ls (s:ByteArray) (i:Nat):aA s i=(((ls s).getD i 0).toNat:Int):=rfl
theorem size_extract (s:ByteArray) {i j:Nat} (h:j≤s.size):(s.extract i j).size=j-i:=by rw[ByteArray.size_extract];omega
theorem empty_ls:ls ByteArray.empty=[]:=rfl
theorem beq_empty (s:ByteArray):(s.toList==ByteArray.empty.toList)=decide (s.size=0):=by
  rw[beq_ls,Bool.eq_iff_iff,beq_iff_eq,decide_eq_true_eq,empty_ls,← bf]
  exact List.length_eq_zero_iff.symm

theorem beq_nil_eql (s:ByteArray):(s.toList==(⟨#[]⟩:ByteArray).toList)=((s.size:Int)==0):=by
  have:=beq_empty s
  rw[show(⟨#[]⟩:ByteArray)=ByteArray.empty from rfl,this,Bool.eq_iff_iff,decide_eq_true_eq,beq_iff_eq];omega
theorem beq_nil_neq (s:ByteArray):(!(s.toList==(⟨#[]⟩:ByteArray).toList))=((s.size:Int) != 0):=by rw[beq_nil_eql];rfl

def ErrW (w:World) (g:Nat):Prop:=∃ ev,w.cell? ⟨g,0,none⟩=some ev∧(ev=.nilIface∨∃ te pe,ev=.iface te pe)
theorem ErrW.sep {w w':World} {L:List Claim} {g:Nat} (h:ErrW w g) (S:Sep w L w'):ErrW w' g:=by
  obtain ⟨ev,h1,h2⟩:=h
  exact⟨ev,S.cell h1,h2⟩


def cvAt (N:Nat) (K:List Item) (env:Env):Option (Option Nat×TypeId×TypeId×Value) :=
  match opAt N K env with
  | some o=>match o.op with
    | .convert s d x=>some (o.dst,s,d,ev env x)
    | _=>none
  | none=>none

theorem OK.conv {K:List Item} {env:Env} {w w':World} (d:Nat) (s t:TypeId) (x v:Value) (h:cvAt N K env=some (some d,s,t,x)) (hr:(convert s t x).run P w=.ok v w'):OK P N K env w (some d) v w':=by
  unfold cvAt at h
  split at h
  · rename_i o ho
    split at h
    · rename_i s' t' x' hop
      simp only[Option.some.injEq,Prod.mk.injEq] at h
      obtain ⟨hd,rfl,rfl,rfl⟩:=h
      refine⟨o,ho,hd,.inl ?_⟩
      unfold execOp
      simp only[hop,Sem.run_bind,hr,Result.andThen_ok,Sem.run_pure]
    · cases h
  · cases h

abbrev bytesL (xs:List Int):List UInt8:=xs.map fun n=>UInt8.ofNat n.toNat
def bytesB (xs:List Int):ByteArray:=⟨(bytesL xs).toArray⟩
theorem bytesB_ls (xs:List Int):ls (bytesB xs)=bytesL xs:=rfl
theorem bytesB_size (xs:List Int):(bytesB xs).size=xs.length:=by rw[← bf,bytesB_ls,List.length_map]

def isBytes (P:Program) (s t:TypeId):Bool :=
  match P.underlying s,P.underlying t with
  | some (.slice e),some .string=>match P.underlying e with
    | some (.int .u8)=>true
    | _=>false
  | _,_=>false

theorem OK.bytes {K:List Item} {env:Env} {w:World} (d:Nat) (s t:TypeId) (a:Option Addr) (n cap:Nat) (xs:List Int) (h:cvAt N K env=some (some d,s,t,.slice a n cap)) (ht:isBytes P s t=true)
    (hc:Ones (Value.int .u8) w a n xs) (hp:∀ p,a=some p→p=⟨p.block,p.off,none⟩):OK P N K env w (some d) (.string (bytesB xs)) w:=by
  unfold isBytes at ht
  split at ht
  · rename_i e hs hd
    split at ht
    · rename_i he
      refine OK.conv d s t _ _ h ?_
      cases a with
      | none =>
        have:=hc.nil;subst this
        exact run_convert_bytes_nil (P:=P) w s e hs he _ _ t hd
      | some p =>
        obtain ⟨b,off,hnone⟩:=p
        have e1:=hp _ rfl
        simp only[Addr.mk.injEq,true_and] at e1
        subst e1
        refine run_convert_bytes_arg (P:=P) w s e hs he b off n cap xs hc.len_eq (fun i hi=>?_) t hd
        obtain ⟨q,hq,hcq⟩:=hc.at 0 i hi
        cases hq
        have e2:(⟨b,off,none⟩:Addr).add i=⟨b,off+i,none⟩:=by
          unfold Addr.add
          split
          · rename_i h0;subst h0;rfl
          · rfl
        rw[e2] at hcq;exact hcq
    · cases ht
  · cases ht


def isDig (c:UInt8):Bool:=decide (48≤c.toNat)&&decide (c.toNat≤57)
def foldV (a:Nat) (l:List UInt8):Nat:=l.foldl (fun a c=>a*10+(c.toNat-48)) a
abbrev cx (l:List UInt8):Nat:=foldV 0 l
theorem foldV_snoc (a:Nat) (l:List UInt8) (c:UInt8):foldV a (l++[c])=foldV a l*10+(c.toNat-48):=by simp[foldV]
theorem cE (a:Nat) (l:List UInt8) (c:UInt8):foldV a (c::l)=foldV (a*10+(c.toNat-48)) l:=by unfold foldV;rw[List.foldl_cons]
theorem foldV_le:∀ (l:List UInt8) (a:Nat),a≤foldV a l
  | [],a=>Nat.le_refl _
  | c::l,a=>by rw[cE];have:=foldV_le l (a*10+(c.toNat-48));omega
theorem foldV_ge:∀ (l:List UInt8) (a:Nat),a*10^l.length≤foldV a l
  | [],a=>by simp[foldV]
  | c::l,a=>by
    rw[cE,List.length_cons,Nat.pow_succ]
    have:=foldV_ge l (a*10+(c.toNat-48))
    have h2:a*10*10^l.length≤(a*10+(c.toNat-48))*10^l.length:=Nat.mul_le_mul_right _ om
    rw[Nat.mul_comm (10^l.length) 10,← Nat.mul_assoc];omega
theorem foldV_lt:∀ (l:List UInt8) (a:Nat),(∀ c ∈ l,isDig c=true)→foldV a l<(a+1)*10^l.length
  | [],a,_=>by simp[foldV]
  | c::l,a,h=>by
    rw[cE,List.length_cons,Nat.pow_succ]
    have h1:=foldV_lt l (a*10+(c.toNat-48)) fun x hx=>h x (List.mem_cons_of_mem _ hx)
    have h3:=h c (by simp)
    simp only[isDig,Bool.and_eq_true,decide_eq_true_eq] at h3
    have h2:(a*10+(c.toNat-48)+1)*10^l.length≤(a+1)*10*10^l.length:=Nat.mul_le_mul_right _ om
    rw[Nat.mul_comm (10^l.length) 10,← Nat.mul_assoc];omega
theorem decV_lt {l:List UInt8} (h:∀ c ∈ l,isDig c=true):cx l<10^l.length:=by have:=foldV_lt l 0 h;simpa using this
theorem decV_pos {l:List UInt8} {c:UInt8} (h:∀ x ∈ c::l,isDig x=true) (hc:c.toNat≠48):10^l.length≤cx (c::l):=by
  have h3:=h c (by simp)
  simp only[isDig,Bool.and_eq_true,decide_eq_true_eq] at h3
  have:=foldV_ge l (0*10+(c.toNat-48))
  rw[← cE] at this
  exact Nat.le_trans (Nat.le_trans (by omega:10^l.length≤1*10^l.length) (Nat.mul_le_mul_right _ om)) this

theorem parse_eq:∀ (l:List UInt8) (a:Nat),a<18446744073709551616→(∀ c ∈ l,isDig c=true)→Lib.parseUint10 a l=if foldV a l<18446744073709551616 then .ok (foldV a l) else .range
  | [],a,ha,_=>by simp[Lib.parseUint10,foldV,ha]
  | c::l,a,ha,h=>by
    have h3:=h c (by simp)
    simp only[isDig,Bool.and_eq_true,decide_eq_true_eq] at h3
    rw[Lib.parseUint10,if_pos h3]
    have hle:=foldV_le l (a*10+(c.toNat-48))
    split
    · rw[if_neg (by rw[cE];omega)]
    · split
      · rw[if_neg (by rw[cE];omega)]
      · rw[parse_eq l _ om (fun x hx=>h x (List.mem_cons_of_mem _ hx)),cE]

def bN (l:List UInt8):Bool:= !l.isEmpty&&l.all isDig&& !(l.head? ==some 48&&decide (1<l.length))
theorem canonL_facts {l:List UInt8} (h:bN l=true):l≠[]∧(∀ c ∈ l,isDig c=true)∧(l.head? =some 48→l.length=1):=by
  simp only[bN,Bool.and_eq_true,Bool.not_eq_true',List.all_eq_true] at h
  obtain ⟨⟨h1,h2⟩,h3⟩:=h
  refine⟨fun e=>by rw[e] at h1;simp at h1,h2,fun e=>?_⟩
  rw[e,beq_self_eq_true,Bool.true_and,decide_eq_false_iff_not] at h3
  cases l with
  | nil=>simp at h1
  | cons c l=>simp only[List.length_cons] at h3 ⊢;omega

def negL (l:List UInt8):Bool:=l.head? ==some 45
def digL (l:List UInt8):List UInt8:=if negL l then l.tail else l
def formL (l:List UInt8):Bool:= !(digL l).isEmpty&&(digL l).all isDig&& !((digL l).head? ==some 48&&decide (1<l.length))
def valL (l:List UInt8):Int:=if negL l then -(cx (digL l):Int) else (cx (digL l):Int)
def fitL (n:Int):Bool:=decide (-9223372036854775808≤n)&&decide (n≤9223372036854775807)
theorem digL_len (l:List UInt8):(digL l).length≤l.length∧l.length≤(digL l).length+1:=by
  unfold digL;split
  · rw[List.length_tail];omega
  · omega
theorem digL_pos {l:List UInt8} (h:negL l=false):digL l=l:=by unfold digL;rw[h];rfl
theorem form_canon {l:List UInt8} (h:formL l=true):bN (digL l)=true:=by
  simp only[formL,bN,Bool.and_eq_true,Bool.not_eq_true',Bool.and_eq_false_iff] at h ⊢
  obtain ⟨⟨h1,h2⟩,h3⟩:=h
  refine⟨⟨h1,h2⟩,?_⟩
  rcases h3 with h3 | h3
  · exact .inl h3
  · right;rw[decide_eq_false_iff_not] at h3 ⊢;have:=(digL_len l).1;omega
theorem atoi_form {l:List UInt8} (h:formL l=true):Lib.atoiAll l=if fitL (valL l) then .ok (valL l) else .range:=by
  obtain ⟨f1,f2,f3⟩:=canonL_facts (form_canon h)
  have hp:Lib.parseMag (digL l)=if cx (digL l)<18446744073709551616 then .ok (cx (digL l)) else .range:=by
    unfold Lib.parseMag;rw[if_neg f1,parse_eq _ _ om f2]
  cases l with
  | nil=>exact absurd rfl f1
  | cons c r =>
    cases hn:negL (c::r) with
    | true =>
      have hc:c=45:=by simpa [negL] using hn
      subst hc
      have hd:digL (45::r)=r:=rfl
      rw[hd] at hp
      have hv:valL (45::r)= -(cx r:Int):=by unfold valL;rw[hn,if_pos rfl,hd]
      have h45:(45:UInt8).toNat=45:=rfl
      unfold Lib.atoiAll
      simp only[h45,or_true,if_true,hp,hv]
      by_cases h1:cx r<18446744073709551616
      · rw[if_pos h1]
        simp only[not_true_eq_false,false_and,if_false,true_and,if_true]
        by_cases h2:9223372036854775808<cx r
        · rw[if_pos h2,if_neg (by simp only[fitL,Bool.and_eq_true,decide_eq_true_eq];omega)]
        · rw[if_neg h2,if_pos (by simp only[fitL,Bool.and_eq_true,decide_eq_true_eq];omega)]
      · rw[if_neg h1]
        rw[if_neg (by simp only[fitL,Bool.and_eq_true,decide_eq_true_eq];omega)]
    | false =>
      have hd:=digL_pos hn
      rw[hd] at hp f2
      have hv:valL (c::r)=(cx (c::r):Int):=by unfold valL;rw[hn,if_neg dE,hd]
      have hcd:=f2 c (by simp)
      simp only[isDig,Bool.and_eq_true,decide_eq_true_eq] at hcd
      have n1:(c.toNat=43∨c.toNat=45)=False:=eq_false om
      have n2:(c.toNat=45)=False:=eq_false om
      unfold Lib.atoiAll
      simp only[n2,or_false,show(c.toNat=43)=False from eq_false om,if_false,hp,hv]
      by_cases h1:cx (c::r)<18446744073709551616
      · rw[if_pos h1]
        simp only[not_false_eq_true,true_and,false_and,if_false]
        by_cases h2:9223372036854775808≤cx (c::r)
        · rw[if_pos h2,if_neg (by simp only[fitL,Bool.and_eq_true,decide_eq_true_eq];omega)]
        · rw[if_neg h2,if_pos (by simp only[fitL,Bool.and_eq_true,decide_eq_true_eq];omega)]
      · rw[if_neg h1]
        rw[if_neg (by simp only[fitL,Bool.and_eq_true,decide_eq_true_eq];omega)]
variable {P:Program} {f:FuncId} {N:Nat} {R:Value→World→Prop}

def IntW (w:World) (g:Nat) (k:IntKind):Prop:=∃ m,w.cell? ⟨g,0,none⟩=some (.int k m)
theorem IntW.sep {w w':World} {L:List Claim} {g:Nat} {k:IntKind} (h:IntW w g k) (S:Sep w L w'):IntW w' g k:=by
  obtain ⟨m,h1⟩:=h
  exact⟨m,S.cell h1⟩

theorem handed_shaped {H:Type} {enc:TypeId×Value→H} {a:Assume} {C:Checked} {os:Os} {f:FuncId} {fn:Func} {s:ChangeSpec} {conds:List PathCond} {apart fresh handsOn again:Bool} {X:World→Array Value→Prop}
    (hX:∀ (w w':World) (args:Array Value),w.heap=w'.heap→X w args→X w' args) (own:ownKnob C.prog.godebug=none) (started:os.Started) (noInit:C.prog.inits.idxOf? f=none) (hfn:C.prog.funcs[f]? =some fn)
    (witness:∃ (w:World) (tape:Tape) (i:Input),w.os=os∧(w.forCall tape i).Shaped C.prog∧i.vars=[]∧Input.okWide C.prog (w.forCall tape i) .any w.heap.size f i ∧
      ((s.pre enc C.prog fn conds apart (w.forCall tape i).memory i.args∧X (w.forCall tape i).memory i.args)∧sizedMet enc C.prog fn (OpenSpec.ofChange s) apart (w.forCall tape i).memory i.args)∧a.holds C.prog (lone (Frame.enter C.prog f i.args .normal) [] (w.forCall tape i)))
    (contract:∀ (W:World) (base:Nat) (args:Array Value) (ds gs:List (DataW H)) (before:List MemPlace),(∀ (j:Nat) t v,fn.params[j]? =some t→args[j]? =some v→Value.okWide C.prog W .any base t v) →
      DataW.Whole enc C.prog fn.params.toList s.vars apart W args.toList ds gs before→X W args→W.ShapedOpen C.prog →
      Calls C.prog f args W fun e W'=>∃ v,e=.returned v∧s.post enc C.prog fn apart fresh handsOn again W args v W') :
    ReturnsInHanded a C os f .any (fun w args=>(s.pre enc C.prog fn conds apart w args∧X w args)∧sizedMet enc C.prog fn (OpenSpec.ofChange s) apart w args) (s.post enc C.prog fn apart fresh handsOn again):=by
  refine returnsInHanded_of_calls own started noInit witness fun w tape i _ hsh _ hok hpre _=>?_
  obtain ⟨_,_,_,fn',hfn',_,_,_,_,hval⟩:=hok
  obtain rfl:fn'=fn:=Option.some.inj (hfn'.symm.trans hfn)
  obtain ⟨⟨⟨ds,gs,before,hw,_⟩,hx⟩,_⟩:=hpre
  refine(contract (w.forCall tape i) w.heap.size i.args ds gs before hval (DataW.Whole.of_heap (w':=w.forCall tape i) rF hw) (hX _ _ _ rF hx) hsh).mono fun e W' ⟨v,he,hp⟩=>?_
  subst he
  exact ChangeSpec.post_blind hp


def aF (c:UInt8):List UInt8→List (List UInt8)
  | []=>[[]]
  | x::r=>if x=c then []::aF c r else match aF c r with
    | []=>[[x]]
    | h::t=>(x::h)::t

theorem cb (c:UInt8):∀ l,aF c l≠[]
  | []=>by simp[aF]
  | x::r=>by
    unfold aF
    split
    · simp
    · split<;>simp

theorem splitOn_miss {c:UInt8}:∀ {l:List UInt8},c ∉ l→aF c l=[l]
  | [],_=>rfl
  | x::r,h=>by
    unfold aF
    rw[if_neg (fun e=>h (by rw[e];simp)),splitOn_miss (fun e=>h (List.mem_cons_of_mem _ e))]

theorem splitOn_hit {c:UInt8}:∀ {a b:List UInt8},c ∉ a→aF c (a++c::b)=a::aF c b
  | [],b,_=>by rw[List.nil_append,aF,if_pos rfl]
  | x::a,b,h=>by
    rw[List.cons_append,aF,if_neg (fun e=>h (by rw[e];simp)),splitOn_hit (fun e=>h (List.mem_cons_of_mem _ e))]

theorem index_split {c:UInt8}:∀ {l:List UInt8},(Lib.index l [c]= -1∧c ∉ l)∨∃ a b,l=a++c::b∧c ∉ a∧Lib.index l [c]=(a.length:Int)
  | []=>.inl ⟨by simp[Lib.index],by simp⟩
  | x::r=>by
    by_cases h:x=c
    · subst h
      exact .inr ⟨[],r,rfl,by simp,by rw[Lib.index];simp[List.isPrefixOf]⟩
    · have hp:([c]:List UInt8).isPrefixOf (x::r)=false:=by simp[List.isPrefixOf,Ne.symm h]
      have hix:Lib.index (x::r) [c]=if Lib.index r [c]== -1 then -1 else Lib.index r [c]+1:=by rw[Lib.index,hp];simp
      rcases index_split (c:=c) (l:=r) with ⟨h1,h2⟩ | ⟨a,b,h1,h2,h3⟩
      · refine .inl ⟨by rw[hix,h1];rfl,?_⟩
        simp only[List.mem_cons,not_or];exact⟨Ne.symm h,h2⟩
      · refine .inr ⟨x::a,b,by rw[h1];rfl,?_,?_⟩
        · simp only[List.mem_cons,not_or];exact⟨Ne.symm h,h2⟩
        · rw[hix,h3,if_neg (by rw[beq_iff_eq];omega),List.length_cons];omega

theorem splitK_on {c:UInt8}:∀ (n:Nat) (l:List UInt8),l.length≤n→Lib.splitK [c] 0 (Lib.count l [c]) l=aF c l:=by
  intro n
  induction n with
  | zero =>
    intro l hl
    have:l=[]:=List.eq_nil_of_length_eq_zero om
    subst this
    rw[Lib.count_miss (by simp[Lib.index])];rfl
  | succ n ih =>
    intro l hl
    rcases index_split (c:=c) (l:=l) with ⟨h1,h2⟩ | ⟨a,b,h1,h2,h3⟩
    · rw[Lib.count_miss h1,splitOn_miss h2];rfl
    · rw[Lib.count_hit (by simp) h3,Nat.add_comm 1,Lib.splitK,if_neg (by rw[beq_iff_eq,h3];omega),h3,Int.toNat_natCast,Nat.add_zero]
      have e1:l.take a.length=a:=by rw[h1,List.take_left]
      have e2:l.drop (a.length+([c]:List UInt8).length)=b:=by rw[h1,← List.drop_drop,List.drop_left];rfl
      rw[e1,e2,ih b (by rw[h1] at hl;simp at hl;omega),h1,splitOn_hit h2]

def aT (c:UInt8) (s:ByteArray):List ByteArray:=(aF c (ls s)).map fun l=>⟨l.toArray⟩
theorem mk_ls (s:ByteArray):(⟨(ls s).toArray⟩:ByteArray)=s:=ls_inj rfl
theorem splitB_pieces (c:UInt8) (s:ByteArray):Lib.splitB ⟨#[c]⟩ 0 (Lib.countB s ⟨#[c]⟩) s=aT c s:=by
  have h:=Lib.splitB_data ⟨#[c]⟩ 0 (Lib.countB s ⟨#[c]⟩) s
  have h2:(Lib.splitB ⟨#[c]⟩ 0 (Lib.countB s ⟨#[c]⟩) s).map ls=aF c (ls s):=h.trans (splitK_on _ _ (Nat.le_refl _))
  unfold aT
  rw[← h2,List.map_map]
  exact(List.map_id _).symm.trans (List.map_congr_left fun x _=>(mk_ls x).symm)
theorem splitB_len (c:UInt8) (s:ByteArray):Lib.countB s ⟨#[c]⟩+1=(aT c s).length:=by
  rw[← splitB_pieces];exact(Lib.splitB_all ⟨#[c]⟩ (Nat.le_refl 1) 0 _ s rfl).symm
theorem piecesB_getD (c:UInt8) (s:ByteArray) (i:Nat) (h:i<(aF c (ls s)).length):ls ((aT c s).getD i ByteArray.empty)=(aF c (ls s)).getD i []:=by
  unfold aT
  rw[List.getD_eq_getElem?_getD,List.getElem?_map,List.getElem?_eq_getElem h,List.getD_eq_getElem?_getD,List.getElem?_eq_getElem h];rfl
theorem pieces_len (c:UInt8) (s:ByteArray):(aT c s).length=(aF c (ls s)).length:=by unfold aT;rw[List.length_map]
theorem splitOn_bound (c:UInt8):∀ l,(aF c l).length≤l.length+1
  | []=>by simp[aF]
  | x::r=>by
    have:=splitOn_bound c r
    unfold aF
    split
    · simp only[List.length_cons];omega
    · split
      · simp
      · rename_i h
        rw[h] at this
        simp only[List.length_cons] at this ⊢;omega
theorem splitOn_sum (c:UInt8):∀ l,(aF c l).flatten.length+(aF c l).length=l.length+1
  | []=>by simp[aF]
  | x::r=>by
    have:=splitOn_sum c r
    unfold aF
    split
    · simp only[List.flatten_cons,List.nil_append,List.length_cons];omega
    · split
      · rename_i h;exact absurd h (cb c r)
      · rename_i h
        rw[h] at this
        simp only[List.flatten_cons,List.length_append,List.length_cons] at this ⊢;omega
theorem mem_flatten_len {l:List (List UInt8)} {x:List UInt8} (h:x ∈ l):x.length≤l.flatten.length:=by
  induction l with
  | nil=>cases h
  | cons a l ih =>
    rw[List.flatten_cons,List.length_append]
    rcases List.mem_cons.1 h with rfl | h
    · omega
    · have:=ih h;omega
theorem piece_size (c:UInt8) (s:ByteArray) (i:Nat):((aT c s).getD i ByteArray.empty).size≤s.size:=by
  by_cases h:i<(aF c (ls s)).length
  · rw[← bf,piecesB_getD c s i h,← bf s]
    have h1:=splitOn_sum c (ls s)
    have h2:(aF c (ls s)).getD i [] ∈ aF c (ls s):=by
      rw[List.getD_eq_getElem?_getD,List.getElem?_eq_getElem h];exact List.getElem_mem _
    have h3:=mem_flatten_len h2
    have h4:1≤(aF c (ls s)).length:=by
      cases hs:aF c (ls s) with
      | nil=>exact absurd hs (cb c _)
      | cons _ _=>simp
    omega
  · rw[List.getD_eq_getElem?_getD,List.getElem?_eq_none (by rw[pieces_len];omega)];exact Nat.zero_le _

theorem box_ones {α:Type} {g:α→Value} {w:World} {b:Nat} {l:List α} {T:TypeId} (h:(box b (l.map g) T).holds w) (n:Nat) (hn:l.length=n):Ones g w (some ⟨b,0,none⟩) n l:=⟨hn,aU h⟩

theorem Sep.of_alloc (w:World) (cs:List Value) (T:TypeId):Sep w [box w.heap.size cs T] (w.alloc (.cells cs.toArray T)):=(Sep.refl w).alloc cs T
def ba (c:UInt8):List Value:=[.int .u8 c.toNat]
theorem enc8_str (s:ByteArray):(ls s).flatMap ba=Lib.strCells s:=by
  unfold Lib.strCells ls
  generalize s.data.toList=l
  induction l with
  | nil=>rfl
  | cons c l ih=>rw[List.flatMap_cons,ih];rfl

section
variable {P:Program} {f:FuncId} {N:Nat} {R:Value→World→Prop}

theorem run_append_str (w:World) (t u ty e:TypeId) (i:TypeInfo) (ht:P.underlying t=some (.slice e)) (hu:P.underlying u=some .string) (hi:P.info? e=some i) (hz:i.zero=some (.int .u8 0))
    (hsize:i.size=1) (hby:i.bytes=1) (v:Value) (n:Nat) (xs:List Value) (hown:w.ownsRow 0 e 1 v n xs) (s:ByteArray) (h63:n+s.size≤maxLen) (hbytes:n+s.size≤140737488355328) :
    ∃ v' w',(Builtin.append_ #[t,u] ty #[v,.string s]).run P w=.ok v' w'∧w'.ownsRow 0 e 1 v' (n+s.size) (xs++Lib.strCells s)∧w.grownBy w' v.ownBlock ∧
      (∀ b,v'.ownBlock=some b→v.ownBlock=some b∨w.heap.size≤b):=by
  obtain ⟨v',w',hr,ho,hg,_⟩:=Lib.run_append_own_string (P:=P) w 0 t u ty e i ht hu hi hz hsize hby v n xs hown s h63 hbytes (Nat.zero_le _)
  refine⟨v',w',hr,ho,hg,fun b hb=>?_⟩
  rcases hown.2 with ⟨rfl,rfl⟩ | ⟨g,cap,cur,rfl,_,hgc,hnc,hcm,hcs,htake⟩
  · obtain ⟨v2,w2,hr2,ho2,_,_⟩:=Lib.run_append_own_string (P:=P) w w.heap.size t u ty e i ht hu hi hz hsize hby (.slice none 0 0) 0 xs ⟨hown.1,.inl ⟨rfl,rfl⟩⟩ s h63 hbytes (Nat.le_refl _)
    rw[hr] at hr2
    cases hr2
    exact .inr (ho2.lt b hb).1
  · by_cases hroom:n+s.size≤cap
    · have hr2:=Lib.run_append_room_string (P:=P) w t u ty e i ht hu hi hsize g n cap cur hgc s hroom om
      rw[hr] at hr2
      cases hr2
      exact .inl hb
    · have holds:∀ j u,xs[j]? =some u→w.cell? ((⟨g,0,none⟩:Addr).add j)=some u:=hown.cells (g:=g) rfl
      have hsmall:n+s.size≤9223372036854775807:=by simp only[maxLen] at h63;omega
      have hr2:=Lib.run_append_grow_string (P:=P) w t u ty e i (.int .u8 0) ht hu hi hz ⟨g,0,none⟩ n cap xs (by rw[hsize];exact hown.1) holds s om om (growslice_fits om (by rw[hby];omega))
      rw[hr] at hr2
      cases hr2
      simp only[Value.ownBlock,Option.some.injEq] at hb
      subst hb
      exact .inr (Nat.le_refl _)

def appsAt (N:Nat) (K:List Item) (env:Env):Option (Option Nat×TypeId×TypeId×Value×Value) :=
  match opAt N K env with
  | some o=>match o.op with
    | .call { callee:=.builtin .append,args,argTypes } =>
      match args.toList,argTypes.toList with
      | [x,y],[t,t']=>some (o.dst,t,t',ev env x,ev env y)
      | _,_=>none
    | _=>none
  | none=>none

theorem OK.appStr {w0 w:World} {L:List Claim} (S:Sep w0 L w) (j:Nat) {a:Option Addr} {cap:Nat} {e:TypeId} (x s:ByteArray) {K:List Item} {env:Env} (d:Nat) (t u:TypeId)
    (hj:L[j]? =some (aa ba a cap e 1 (ls x))) (h:appsAt N K env=some (some d,t,u,.slice a (ls x).length cap,.string s)) (ht:P.underlying t=some (.slice e)) (hu:P.underlying u=some .string)
    (hinfo:(P.info? e).map (fun i=>(i.zero,i.size,i.bytes))=some (some (.int .u8 0),1,1)) (hb:x.size+s.size≤140737488355328) :
    ∃ a' cap' w',OK P N K env w (some d) (.slice a' (ls (x++s)).length cap') w'∧Sep w0 (L.set j (aa ba a' cap' e 1 (ls (x++s)))) w':=by
  obtain ⟨i,hi,hzz⟩:=Option.map_eq_some_iff.1 hinfo
  simp only[Prod.mk.injEq] at hzz
  obtain ⟨hz,hsize,hby⟩:=hzz
  have hown:w.ownsRow 0 e 1 (.slice a (ls x).length cap) (ls x).length ((ls x).flatMap ba):=S.nth j hj
  have hx0:=bf x
  unfold appsAt at h
  split at h
  · rename_i o ho
    split at h
    · rename_i args argTypes hop
      split at h
      · rename_i xo yo t1 t2 hargs hts
        simp only[Option.some.injEq,Prod.mk.injEq] at h
        obtain ⟨hd,rfl,rfl,hx,hy⟩:=h
        obtain ⟨v',w',hr,ho',hg,hblk⟩:=run_append_str (P:=P) w t1 t2 o.type e i ht hu hi hz hsize hby _ _ _ hown s (by simp only[maxLen];omega) om
        have hlen:(ls (x++s)).length=(ls x).length+s.size:=by rw[bl,List.length_append,bf s]
        have hfm:(ls x).flatMap ba++Lib.strCells s=(ls (x++s)).flatMap ba:=by rw[bl,List.flatMap_append,enc8_str s]
        rw[hfm,← hlen] at ho'
        obtain ⟨a',cap',rfl,_,_,_,_⟩:=row_cells (v:=v') (e:=e) (size:=1) (n:=(ls (x++s)).length) (xs:=(ls (x++s)).flatMap ba) (w:=w') ho'
        have hS:Sep w0 (L.set j (aa ba a' cap' e 1 (ls (x++s)))) w':=by
          refine S.set j hj (fun b hb'=>?_) hg.os hg.tape hg.output hg.size (fun b hb1 hb2=>hg.block b hb1 fun e=>hb2 e.symm) ho'
          rcases hblk b hb' with h2 | h2
          · exact .inl h2
          · exact .inr ⟨h2,(ho'.lt b hb').2⟩
        refine⟨a',cap',w',⟨_,ho,hd,.inl ?_⟩,hS⟩
        have ea:args=#[xo,yo]:=by rw[← hargs]
        have et:argTypes=#[t1,t2]:=by rw[← hts]
        subst ea et
        generalize Value.slice a (ls x).length cap=vv at hx hr
        generalize Value.slice a' (ls (x++s)).length cap'=rr at hr ⊢
        unfold execOp
        simp[hop,resolve,invoke,builtin,hx,hy,hr,Result.andThen]
      · cases h
    · cases h
  · cases h

theorem J.appStr {w0 w:World} {L:List Claim} (S:Sep w0 L w) (j:Nat) {a:Option Addr} {cap:Nat} {e:TypeId} (x s:ByteArray) {K:List Item} {env:Env} (d:Nat) (t u:TypeId)
    (hj:L[j]? =some (aa ba a cap e 1 (ls x))) (h:appsAt N K env=some (some d,t,u,.slice a (ls x).length cap,.string s)) (ht:P.underlying t=some (.slice e)) (hu:P.underlying u=some .string)
    (hinfo:(P.info? e).map (fun i=>(i.zero,i.size,i.bytes))=some (some (.int .u8 0),1,1)) (hb:x.size+s.size≤140737488355328)
    (k:∀ a' cap' w',Sep w0 (L.set j (aa ba a' cap' e 1 (ls (x++s)))) w'→J P f N R (aK K) ((d,.slice a' (ls (x++s)).length cap')::env) w'):J P f N R K env w:=by
  obtain ⟨a',cap',w',hok,hS⟩:=OK.appStr S j x s d t u hj h ht hu hinfo hb
  exact J.ok hok (k a' cap' w' hS)


def peqAt (N:Nat) (K:List Item) (env:Env):Option (Option Nat×BinOp×TypeId×Addr×Addr) :=
  match opAt N K env with
  | some o=>match o.op with
    | .binOp op t x y _=>match ev env x,ev env y with
      | .pointer (some a),.pointer (some b)=>some (o.dst,op,t,a,b)
      | _,_=>none
    | _=>none
  | none=>none

theorem OK.neqSame {K:List Item} {env:Env} {w:World} (d:Nat) (tp te:TypeId) (a:Addr) (h:peqAt N K env=some (some d,.neq,tp,a,a)) (hp:P.underlying tp=some (.pointer te)) (hte:(P.info? te).isSome=true) (hg:P.eqGuardType P.depth tp=false) :
    OK P N K env w (some d) (.bool false) w:=by
  obtain ⟨j,hj⟩:=Option.isSome_iff_exists.1 hte
  have hr:=Lib.run_neq_ptr_same (P:=P) w a hp hj
  unfold peqAt at h
  split at h
  · rename_i o ho
    split at h
    · rename_i op t x y t2 hop
      split at h
      · rename_i a1 b1 hx hy
        simp only[Option.some.injEq,Prod.mk.injEq] at h
        obtain ⟨hd,rfl,rfl,rfl,rfl⟩:=h
        refine⟨o,ho,hd,.inl ?_⟩
        unfold execOp
        simp[hop,hx,hy,eqGuard,hg,hr,Result.andThen]
      · cases h
    · cases h
  · cases h

theorem box_shape {w:World} {b:Nat} {cs:List Value} {T:TypeId} (h:(box b cs T).holds w):w.shape? b=some (T,cs.length):=by
  have h':w.heap[b]? =some (.cells cs.toArray T (0,0)):=h
  simp[World.shape?,h']

theorem OK.toUnsafe {w0 w:World} {L:List Claim} (S:Sep w0 L w) (i:Nat) {b:Nat} {cs:List Value} {T:TypeId} {K:List Item} {env:Env} (d:Nat) (s t e:TypeId) (hi:L[i]? =some (box b cs T)) (h:cvAt N K env=some (some d,s,t,.pointer (some ⟨b,0,none⟩)))
    (hs:P.underlying s=some (.pointer e)) (ht:P.underlying t=some .unsafePointer) (he:(P.info? e).any (fun i=>i.size != 0)=true) (hl:0<cs.length):OK P N K env w (some d) (.pointer (some ⟨b,0,none⟩)) w:=by
  obtain ⟨j,hj,hz⟩:=(Option.any_eq_true _ _).1 he
  exact OK.conv d s t _ _ h (Lib.run_to_unsafe (P:=P) w ⟨b,0,none⟩ hs ht hj (by simpa using hz) (box_shape (S.nth i hi)) hl)

theorem OK.fromUnsafe {w0 w:World} {L:List Claim} (S:Sep w0 L w) (i:Nat) {b:Nat} {cs:List Value} {T:TypeId} {K:List Item} {env:Env} (d:Nat) (s t u:TypeId) (hi:L[i]? =some (box b cs T)) (h:cvAt N K env=some (some d,s,t,.pointer (some ⟨b,0,none⟩)))
    (hs:P.underlying s=some .unsafePointer) (ht:P.underlying t=some (.pointer u)) (hu:(P.info? u).isSome=true) (hl:liesAt P P.depth T (cs.length/P.cellsOf T) 0 u 1=true):OK P N K env w (some d) (.pointer (some ⟨b,0,none⟩)) w:=by
  obtain ⟨j,hj⟩:=Option.isSome_iff_exists.1 hu
  exact OK.conv d s t _ _ h (Lib.run_from_unsafe (P:=P) w ⟨b,0,none⟩ hs ht hj (box_shape (S.nth i hi)) hl)
end


def Off (e:TypeId) (c:Claim):Prop:=∀ w,c.holds w→∀ b,c.foot b→∃ o,w.heap[b]? =some o∧∀ cs fz,o≠.cells cs e fz
theorem off_box {e:TypeId} (b:Nat) (cs:List Value) (T:TypeId) (h:T≠e):Off e (box b cs T):=by
  intro w hw b' hb
  have hb':b'=b:=hb
  subst hb'
  exact⟨_,hw,fun cs' fz h'=>h (by cases h';rfl)⟩
def Offs (e:TypeId) (L:List Claim):Prop:=∀ c ∈ L,Off e c
theorem offs_nil (e:TypeId):Offs e []:=fun _ h=>by cases h
theorem offs_cons {e:TypeId} {c:Claim} {L:List Claim} (h:Off e c) (k:Offs e L):Offs e (c::L):=fun d hd=>by
  rcases List.mem_cons.1 hd with rfl | hd
  · exact h
  · exact k d hd

theorem Sep.others {w0 w w':World} {c1 c2:Claim} {L:List Claim} {e:TypeId} {b:Nat} (S:Sep w0 (c1::c2::L) w) (hb:c1.foot b) (hoff:Offs e L) (hbel:Below w0.heap.size w w') (hk:Lib.OthersKept e (some b) w w'):Sep w0 L w':=by
  have hw:=S.below
  have ha:=S.apart
  simp only[List.pairwise_cons] at ha
  refine⟨S.below.trans hbel,fun c hc=>?_,fun c hc k hf=>?_,ha.2.2⟩
  · have hc':c ∈ c1::c2::L:=by simp[hc]
    refine c.stable w w' (fun k hf=>?_) (S.all c hc')
    obtain ⟨o,ho,hne⟩:=hoff c hc w (S.all c hc') k hf
    rw[ho]
    refine hk k o ho (fun h=>?_) hne
    simp only[Option.some.injEq] at h
    subst h
    exact ha.1 c (by simp[hc]) k hb hf
  · have hc':c ∈ c1::c2::L:=by simp[hc]
    have:=S.fresh c hc' k hf
    exact⟨this.1,Nat.lt_of_lt_of_le this.2 hbel.size⟩

theorem Sep.builder {w0 w:World} {L:List Claim} {T e:TypeId} {b:Nat} {p:Option Addr} {a:Option Addr} {cap:Nat} {x:ByteArray} (S:Sep w0 (box b [.pointer p,.slice a (ls x).length cap] T::aa ba a cap e 1 (ls x)::L) w)
    (hp:p=none∨p=some ⟨b,0,none⟩):Lib.IsBuilderF T e w0.heap.size b (Lib.byteCells (ls x)) w:=by
  have h0:=S.nth 0 rfl
  have h1:w.ownsRow 0 e 1 (.slice a (ls x).length cap) (ls x).length ((ls x).flatMap ba):=S.nth 1 rfl
  have hf0:=S.fresh _ (List.mem_cons_self ..) b rfl
  have hap:=S.apart
  simp only[List.pairwise_cons] at hap
  have hcells:(ls x).flatMap ba=Lib.byteCells (ls x):=by
    unfold Lib.byteCells
    generalize ls x=l
    induction l with
    | nil=>rfl
    | cons c l ih=>rw[List.flatMap_cons,ih];rfl
  have hblen:(Lib.byteCells (ls x)).length=(ls x).length:=by rw[← hcells];generalize ls x=l;induction l with
    | nil=>rfl
    | cons c l ih=>rw[List.flatMap_cons,List.length_append,ih];show 1+l.length=_;rw[List.length_cons];omega
  have key:∀ q,q=p→Lib.BuilderAt T e w0.heap.size b (.pointer q) (Lib.byteCells (ls x)) w:=by
    rintro q rfl
    refine⟨hf0.1,.slice a (ls x).length cap,h0,?_,?_⟩
    · rw[hblen,← hcells]
      refine⟨h1.1,?_⟩
      rcases h1.2 with hn | ⟨g,cap',cur,hv,hb,rest⟩
      · exact .inl hn
      · refine .inr ⟨g,cap',cur,hv,?_,rest⟩
        exact(S.fresh _ (List.mem_cons_of_mem _ (List.mem_cons_self ..)) g (by show Value.ownBlock _=some g;rw[hv];rfl)).1
    · intro h
      exact hap.1 _ (List.mem_cons_self ..) b rfl h
  refine Lib.IsBuilderF.of ?_
  rcases hp with rfl|rfl
  · exact .inl (key _ rfl)
  · exact .inr (key _ rfl)
end Go.Eng
