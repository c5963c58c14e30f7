/- The proof engine, tenth part: the contracts of Go's library (the shelf) as the engine's contracts; numerals and joined texts. Conditions: none; it is generic in the program. -/
import Derived.Test.YtaoolgcddapegaaGreatZqEng9
import Derived.Lib.ItoaNum
import Derived.Lib.Join
import Derived.Lib.SmallJoins
import Derived.WalkSmall
import Derived.Sort.Grow
import Derived.Lib.AtoiAll
import Derived.Laws.BytesArg
import Derived.Lib.Strings
import Derived.Lib.SplitLaws
import Derived.Lib.IndexBytes
import Derived.Lib.IndexMore
import Derived.HandedShaped
import Derived.Shelf.Vars
import Derived.Lib.AppendStr
import Derived.Lib.Builder
import Derived.Lib.FrozenHead
import Derived.Lib.OthersKept
import Derived.Lib.ConvBytes
import Derived.Lib.AtoiErrMem
import Derived.Lib.SlBytesConst
set_option linter.unusedSimpArgs false
set_option linter.unusedVariables false
namespace Go.Eng
open Go.RowKit
variable {P:Program} {f:FuncId} {N:Nat} {R:Value→World→Prop}

theorem Ret.of_calls {g:FuncId} {args:Array Value} {w:World} {v:Value} {R:World→Prop} {Q:Value→World→Prop} (h:Calls P g args w fun e w'=>e=.returned v∧R w') (hq:∀ w',R w'→Q v w'):Ret P g args w Q :=
  Calls.mono h fun _ _ ⟨e,r⟩=>⟨v,e,hq _ r⟩

theorem size_toList (b:ByteArray):b.data.toList.length=b.size:=by rw[Array.length_toList];rfl

end Go.Eng

namespace Go.Eng
open Go.RowKit
variable {P:Program} {f:FuncId} {N:Nat} {R:Value→World→Prop}

abbrev ls (s:ByteArray):List UInt8:=s.data.toList
theorem ls_length (s:ByteArray):(ls s).length=s.size:=size_toList s
theorem byteAt_ls (s:ByteArray) (i:Nat):byteAt s i=(((ls s).getD i 0).toNat:Int):=rfl
def ErrW (w:World) (g:Nat):Prop:=∃ ev,w.cell? ⟨g,0,none⟩=some ev∧(ev=.nilIface∨∃ te pe,ev=.iface te pe)
theorem ErrW.sep {w w':World} {L:List Claim} {g:Nat} (h:ErrW w g) (S:Sep w L w'):ErrW w' g:=by
  obtain ⟨ev,h1,h2⟩:=h
  exact⟨ev,S.cell h1,h2⟩


def cvAt (N:Nat) (K:List Item) (env:Env):Option (Option Nat×TypeId×TypeId×Value) :=
  match opAt N K env with
  | some o=>match o.op with
    | .convert s d x=>some (o.dst,s,d,ev env x)
    | _=>none
  | none=>none

theorem OK.conv {K:List Item} {env:Env} {w w':World} (d:Nat) (s t:TypeId) (x v:Value) (h:cvAt N K env=some (some d,s,t,x)) (hr:(convert s t x).run P w=.ok v w'):OK P N K env w (some d) v w':=by
  unfold cvAt at h
  split at h
  · rename_i o ho
    split at h
    · rename_i s' t' x' hop
      simp only[Option.some.injEq,Prod.mk.injEq] at h
      obtain ⟨hd,rfl,rfl,rfl⟩:=h
      refine⟨o,ho,hd,.inl ?_⟩
      unfold execOp
      simp only[hop,Sem.run_bind,hr,Result.andThen_ok,Sem.run_pure]
    · cases h
  · cases h

abbrev bytesL (xs:List Int):List UInt8:=xs.map fun n=>UInt8.ofNat n.toNat
def bytesB (xs:List Int):ByteArray:=⟨(bytesL xs).toArray⟩
def isBytes (P:Program) (s t:TypeId):Bool :=
  match P.underlying s,P.underlying t with
  | some (.slice e),some .string=>match P.underlying e with
    | some (.int .u8)=>true
    | _=>false
  | _,_=>false

theorem OK.bytes {K:List Item} {env:Env} {w:World} (d:Nat) (s t:TypeId) (a:Option Addr) (n cap:Nat) (xs:List Int) (h:cvAt N K env=some (some d,s,t,.slice a n cap)) (ht:isBytes P s t=true)
    (hc:Ones (Value.int .u8) w a n xs) (hp:∀ p,a=some p→p=⟨p.block,p.off,none⟩):OK P N K env w (some d) (.string (bytesB xs)) w:=by
  unfold isBytes at ht
  split at ht
  · rename_i e hs hd
    split at ht
    · rename_i he
      refine OK.conv d s t _ _ h ?_
      cases a with
      | none =>
        have:=hc.nil;subst this
        exact run_convert_bytes_nil (P:=P) w s e hs he _ _ t hd
      | some p =>
        obtain ⟨b,off,hnone⟩:=p
        have e1:=hp _ rfl
        simp only[Addr.mk.injEq,true_and] at e1
        subst e1
        refine run_convert_bytes_arg (P:=P) w s e hs he b off n cap xs hc.len_eq (fun i hi=>?_) t hd
        obtain ⟨q,hq,hcq⟩:=hc.at 0 i hi
        cases hq
        have e2:(⟨b,off,none⟩:Addr).add i=⟨b,off+i,none⟩:=by
          unfold Addr.add
          split
          · rename_i h0;subst h0;rfl
          · rfl
        rw[e2] at hcq;exact hcq
    · cases ht
  · cases ht
variable {P:Program} {f:FuncId} {N:Nat} {R:Value→World→Prop}

def IntW (w:World) (g:Nat) (k:IntKind):Prop:=∃ m,w.cell? ⟨g,0,none⟩=some (.int k m)
theorem IntW.sep {w w':World} {L:List Claim} {g:Nat} {k:IntKind} (h:IntW w g k) (S:Sep w L w'):IntW w' g k:=by
  obtain ⟨m,h1⟩:=h
  exact⟨m,S.cell h1⟩
def enc8 (c:UInt8):List Value:=[.int .u8 c.toNat]
section
variable {P:Program} {f:FuncId} {N:Nat} {R:Value→World→Prop}


end


theorem Sep.builder {w0 w:World} {L:List Claim} {T e:TypeId} {b:Nat} {p:Option Addr} {a:Option Addr} {cap:Nat} {x:ByteArray} (S:Sep w0 (box b [.pointer p,.slice a (ls x).length cap] T::ak enc8 a cap e 1 (ls x)::L) w)
    (hp:p=none∨p=some ⟨b,0,none⟩):Lib.IsBuilderF T e w0.heap.size b (Lib.byteCells (ls x)) w:=by
  have h0:=S.nth 0 rfl
  have h1:w.ownsRow 0 e 1 (.slice a (ls x).length cap) (ls x).length ((ls x).flatMap enc8):=S.nth 1 rfl
  have hf0:=S.fresh _ (List.mem_cons_self ..) b rfl
  have hap:=S.apart
  simp only[List.pairwise_cons] at hap
  have hcells:(ls x).flatMap enc8=Lib.byteCells (ls x):=by
    unfold Lib.byteCells
    generalize ls x=l
    induction l with
    | nil=>rfl
    | cons c l ih=>rw[List.flatMap_cons,ih];rfl
  have hblen:(Lib.byteCells (ls x)).length=(ls x).length:=by rw[← hcells];generalize ls x=l;induction l with
    | nil=>rfl
    | cons c l ih=>rw[List.flatMap_cons,List.length_append,ih];show 1+l.length=_;rw[List.length_cons];omega
  have key:∀ q,q=p→Lib.BuilderAt T e w0.heap.size b (.pointer q) (Lib.byteCells (ls x)) w:=by
    rintro q rfl
    refine⟨hf0.1,.slice a (ls x).length cap,h0,?_,?_⟩
    · rw[hblen,← hcells]
      refine⟨h1.1,?_⟩
      rcases h1.2 with hn | ⟨g,cap',cur,hv,hb,rest⟩
      · exact .inl hn
      · refine .inr ⟨g,cap',cur,hv,?_,rest⟩
        exact(S.fresh _ (List.mem_cons_of_mem _ (List.mem_cons_self ..)) g (by show Value.ownBlock _=some g;rw[hv];rfl)).1
    · intro h
      exact hap.1 _ (List.mem_cons_self ..) b rfl h
  refine Lib.IsBuilderF.of ?_
  rcases hp with rfl|rfl
  · exact .inl (key _ rfl)
  · exact .inr (key _ rfl)
variable {P:Program} {f:FuncId} {N:Nat} {R:Value→World→Prop}

def rows8 (b:Nat) (x:ByteArray):Claim :=
  ⟨(· =b),fun w=>∃ cs T fz,w.heap[b]? =some (.cells cs T fz)∧∀ j,j<x.size→cs[j]? =some (.int .u8 (byteAt x j)),fun w w' h hw=>by rw[h b rfl];exact hw⟩

theorem rows8_at {w:World} {b:Nat} {x:ByteArray} (h:(rows8 b x).holds w) (i:Nat) (hi:i<x.size):∃ p,(some ⟨b,0,none⟩:Option Addr)=some p∧w.cell? (p.add i)=some (.int .u8 (byteAt x i)):=by
  obtain ⟨cs,T,fz,hb,hc⟩:=h
  refine⟨_,rfl,?_⟩
  have e2:(⟨b,0,none⟩:Addr).add i=⟨b,i,none⟩:=by
    unfold Addr.add
    split
    · rename_i h0;subst h0;rfl
    · simp
  rw[e2]
  simp[World.cell?,hb,hc i hi]
variable {P:Program} {f:FuncId} {N:Nat} {R:Value→World→Prop}

def cellsB (x:ByteArray):List Value:=(ls x).map fun c=>.int .u8 c.toNat
def isBytesT (P:Program) (t:TypeId):Option TypeId :=
  match P.underlying t with
  | some (.slice e)=>match P.underlying e with
    | some (.int .u8)=>some e
    | _=>none
  | _=>none
theorem freeze_at {w:World} {b k:Nat} {C:Array Value} {e:TypeId} (hb:w.heap[b]? =some (.cells C e (0,0))):(w.freeze ⟨b,k,none⟩ 1).heap[b]? =some (.cells C e (k,k+1)):=by
  unfold World.freeze
  rw[if_neg dE]
  show(w.heap.modify b _)[b]? =_
  rw[Array.getElem?_modify,if_pos rfl,hb];rfl
theorem freeze_ne {w:World} {b k j:Nat} (h:j≠b):(w.freeze ⟨b,k,none⟩ 1).heap[j]? =w.heap[j]? :=by
  unfold World.freeze
  rw[if_neg dE]
  show(w.heap.modify b _)[j]? =_
  rw[Array.getElem?_modify,if_neg (Ne.symm h)]
theorem freeze_size {w:World} {b k:Nat}:(w.freeze ⟨b,k,none⟩ 1).heap.size=w.heap.size:=by
  unfold World.freeze
  rw[if_neg dE]
  show(w.heap.modify b _).size=_
  rw[Array.size_modify]
theorem run_const_bytes {w:World} {t e:TypeId} {b n c:Nat} {C:Array Value} (hb:w.heap[b]? =some (.cells C e (0,0))) (ht:P.underlying t=some (.slice e)) (he:P.underlying e=some (.int .u8)) :
    (convert t t (.slice (some ⟨b,0,none⟩) n c)).run P w=.ok (.slice (some ⟨b,0,none⟩) n c) (w.freeze ⟨b,C.size,none⟩ 1):=by
  have hsh:w.shape? b=some (e,C.size):=by unfold World.shape?;rw[hb]
  simp[convert,run_underlying ht,run_underlying he,markStringish,hsh]
theorem J.constBytes {w0 w:World} {L:List Claim} (S:Sep w0 L w) (i:Nat) {b:Nat} (x:ByteArray) {e:TypeId} {K:List Item} {env:Env} (d t n c:Nat) (hi:L[i]? =some (box b (cellsB x) e)) (h:cvAt N K env=some (some d,t,t,.slice (some ⟨b,0,none⟩) n c)) (ht:isBytesT P t=some e)
    (k:∀ w',Sep w0 (L.set i (rows8 b x)) w'→J P f N R (eO K) ((d,.slice (some ⟨b,0,none⟩) n c)::env) w'):J P f N R K env w:=by
  unfold isBytesT at ht
  split at ht
  · rename_i e' hd
    split at ht
    · rename_i he
      obtain rfl:=Option.some.inj ht
      have hb:w.heap[b]? =some (.cells (cellsB x).toArray e' (0,0)):=S.nth i hi
      have hlt:b<w.heap.size:=by
        rcases Nat.lt_or_ge b w.heap.size with h' | h'
        · exact h'
        · rw[Array.getElem?_eq_none h'] at hb;cases hb
      have hr:=run_const_bytes (P:=P) (n:=n) (c:=c) hb hd he
      have hos:∀ k,(w.freeze ⟨b,k,none⟩ 1).os=w.os∧(w.freeze ⟨b,k,none⟩ 1).tape=w.tape∧(w.freeze ⟨b,k,none⟩ 1).output=w.output:=fun k=>by
        unfold World.freeze;rw[if_neg dE];exact⟨rfl,rfl,rfl⟩
      refine J.ok (OK.conv d t t _ _ h hr) (k _ (S.set i hi (fun b' hb'=>.inl hb') (hos _).1 (hos _).2.1 (hos _).2.2 (Nat.le_of_eq freeze_size.symm) (fun b' _ hn=>freeze_ne hn) ?_))
      refine⟨_,_,_,freeze_at hb,fun j hj=>?_⟩
      have hl:=ls_length x
      rw[List.getElem?_toArray]
      unfold cellsB
      rw[List.getElem?_map,byteAt_ls,List.getD_eq_getElem?_getD,List.getElem?_eq_getElem om];rfl
    · cases ht
  · cases ht
theorem add_block (b o j:Nat):(⟨b,o,none⟩:Addr).add j=⟨b,o+j,none⟩:=by
  unfold Addr.add
  split
  · rename_i h0;subst h0;rfl
  · simp
theorem box_rec_at {α:Type} {g:α→List Value} {s b:Nat} {l:List α} {T:TypeId} {w:World} (h:(box b (l.flatMap g) T).holds w) (hs:∀ x,(g x).length=s) (hp:0<s) (d:α) (n:Nat) (hn:n<l.length) :
    ∀ j v,(g (l.getD n d))[j]? =some v→w.cell? ((⟨b,n*s,none⟩:Addr).add j)=some v:=by
  have hr:Recs g s w (some ⟨b,0,none⟩) l.length l:=⟨rfl,hs,hp,cE h⟩
  obtain ⟨p,hp',hc⟩:=hr.at d n hn
  cases hp'
  intro j v hj
  have:=hc j v hj
  rw[add_block,Nat.zero_add] at this;exact this
end Go.Eng
