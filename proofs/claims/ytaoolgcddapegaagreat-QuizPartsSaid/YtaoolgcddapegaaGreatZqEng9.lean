/- The proof engine, ninth part: slices that are made, slices compared with nil, an append of a slice that reads as a list. Conditions: none; it is generic in the program. -/
import Derived.Test.YtaoolgcddapegaaGreatZqEng4
import Derived.Laws.OwnMore
import Derived.Lib.AppendZeros
import Derived.Test.YtaoolgcddapegaaGreatZqEng
set_option linter.unusedSimpArgs false
set_option linter.unusedVariables false
namespace Go.Eng
open Go.RowKit
variable {P:Program} {f:FuncId} {N:Nat} {R:Value→World→Prop}

def nilAt (N:Nat) (K:List Item) (env:Env):Option (Option Nat×Bool×TypeId×Option Addr) :=
  match opAt N K env with
  | some o=>match o.op with
    | .binOp .eql t x y _=>match ev env x,ev env y with
      | .slice a _ _,.slice none _ _=>some (o.dst,true,t,a)
      | _,_=>none
    | .binOp .neq t x y _=>match ev env x,ev env y with
      | .slice a _ _,.slice none _ _=>some (o.dst,false,t,a)
      | _,_=>none
    | _=>none
  | none=>none

theorem run_nil {w:World} {t e:TypeId} {a:Option Addr} {n c m k:Nat} (hu:P.underlying t=some (.slice e)):(Op.equal t (.slice a n c) (.slice none m k)).run P w=.ok a.isNone w:=by
  unfold Op.equal Op.maxDepth Op.equalIn
  cases a<;>simp[run_underlying hu]

theorem OK.nilS {K:List Item} {env:Env} {w:World} (d:Nat) (pos:Bool) (t:TypeId) (a:Option Addr) (h:nilAt N K env=some (some d,pos,t,a)) (hs:(elemSize P t).isSome=true) (r:Bool) (hr:(a.isNone==pos)=r):OK P N K env w (some d) (.bool r) w:=by
  unfold nilAt at h
  have hu:∃ e,P.underlying t=some (.slice e):=by
    unfold elemSize at hs
    split at hs
    · rename_i e he;exact⟨e,he⟩
    · cases hs
  obtain ⟨e,hu⟩:=hu
  split at h
  · rename_i o ho
    split at h
    · rename_i t' x y t2 hop
      split at h
      · rename_i a' n c m k hx hy
        simp only[Option.some.injEq,Prod.mk.injEq] at h
        obtain ⟨hd,rfl,rfl,rfl⟩:=h
        refine⟨o,ho,hd,.inl ?_⟩
        unfold execOp
        have:=run_nil (P:=P) (w:=w) (a:=a') (n:=n) (c:=c) (m:=m) (k:=k) hu
        subst hr
        simp[hop,hx,hy,eqGuard,binOp,this]
      · cases h
    · rename_i t' x y t2 hop
      split at h
      · rename_i a' n c m k hx hy
        simp only[Option.some.injEq,Prod.mk.injEq] at h
        obtain ⟨hd,rfl,rfl,rfl⟩:=h
        refine⟨o,ho,hd,.inl ?_⟩
        unfold execOp
        have:=run_nil (P:=P) (w:=w) (a:=a') (n:=n) (c:=c) (m:=m) (k:=k) hu
        subst hr
        simp[hop,hx,hy,eqGuard,binOp,this]
      · cases h
    · cases h
  · cases h

theorem Ones.nil {α:Type} {g:α→Value} {w:World} {len:Nat} {l:List α} (h:Ones g w none len l):l=[]:=by
  cases l with
  | nil=>rfl
  | cons x l =>
    obtain ⟨p,hp,_⟩:=h.cells 0 (g x) (by simp)
    cases hp

theorem Ones.enc {α:Type} {g:α→Value} {w:World} {a:Option Addr} {len:Nat} {l:List α} (h:Ones g w a len l):Cells w a (l.flatMap (eP g)):=by
  rw[flatMap_enc1];exact h.cells

theorem made_replicate {α:Type} {enc:α→List Value} {x0:α} {z:Value} (hz:z.cells.toList=enc x0) (n:Nat):(madeCells z.cells (n*z.cells.size)).toList=(List.replicate n x0).flatMap enc:=by
  apply List.ext_getElem?
  intro i
  have hlen:((List.replicate n x0).flatMap enc).length=n*z.cells.size:=by
    induction n with
    | zero=>simp
    | succ n ih=>rw[List.replicate_succ,List.flatMap_cons,List.length_append,ih,← hz,Array.length_toList,Nat.add_mul];omega
  by_cases hi:i<n*z.cells.size
  · have hs:0<z.cells.size:=by
      rcases Nat.eq_zero_or_pos z.cells.size with h | h
      · rw[h] at hi;simp at hi
      · exact h
    have key:∀ (n i:Nat),i<n*z.cells.size→((List.replicate n x0).flatMap enc)[i]? =(enc x0)[i%z.cells.size]? :=by
      intro n
      induction n with
      | zero=>intro i hi;simp at hi
      | succ n ih =>
        intro i hi
        rw[List.replicate_succ,List.flatMap_cons]
        by_cases h:i<z.cells.size
        · rw[List.getElem?_append_left (by rw[← hz];simpa using h),Nat.mod_eq_of_lt h]
        · rw[List.getElem?_append_right (by rw[← hz];simp;omega),← hz,Array.length_toList,ih _ (by rw[Nat.add_mul] at hi;omega),← hz,← Nat.mod_eq_sub_mod om]
    rw[key n i hi,← hz]
    have hm:i%z.cells.size<z.cells.size:=Nat.mod_lt _ hs
    simp[madeCells,hi,hm]
  · rw[List.getElem?_eq_none (by simp[madeCells];omega),List.getElem?_eq_none om]

def mkAt (N:Nat) (K:List Item) (env:Env):Option (Option Nat×TypeId×Int×Int) :=
  match opAt N K env with
  | some o=>match o.op with
    | .makeSlice t x y=>match ev env x,ev env y with
      | .int _ n,.int _ m=>some (o.dst,t,n,m)
      | _,_=>none
    | _=>none
  | none=>none

theorem OK.make {α:Type} (enc:α→List Value) (x0:α) {w0 w:World} {L:List Claim} (S:Sep w0 L w) {K:List Item} {env:Env} (d:Nat) (t e:TypeId) (size:Nat) (ii jj:Int) (n:Nat) (z:Value) (bytes:Nat) (h:mkAt N K env=some (some d,t,ii,jj)) (hn:ii=n) (hm:jj=n) (ht:P.underlying t=some (.slice e))
    (hinfo:(P.info? e).map (fun i=>(i.zero,i.size,i.bytes))=some (some z,size,bytes)) (hzs:z.cells.size=size) (hz:z.cells.toList=enc x0) (hb:bytes*n≤281474976710656∧n≤9223372036854775807)
    : ∃ b w',OK P N K env w (some d) (.slice (some ⟨b,0,none⟩) (List.replicate n x0).length n) w'∧Sep w0 (ak enc (some ⟨b,0,none⟩) n e size (List.replicate n x0)::L) w':=by
  obtain ⟨i,hi,hzz⟩:=Option.map_eq_some_iff.1 hinfo
  simp only[Prod.mk.injEq] at hzz
  obtain ⟨hz1,hsize,hby⟩:=hzz
  unfold mkAt at h
  split at h
  · rename_i o ho
    split at h
    · rename_i t' x y hop
      split at h
      · rename_i kl a kc b hx hy
        · subst hn hm
          simp only[Option.some.injEq,Prod.mk.injEq] at h
          obtain ⟨hd,rfl,rfl,rfl⟩:=h
          obtain ⟨w',hr,hown,hg⟩:=run_make_full (P:=P) w w.heap.size t' e i z size ht hi hz1 hsize kl kc n (by rw[hby];exact hb.1) (by simp only[maxLen];omega) (Nat.le_refl _)
          have hcells:(madeCells z.cells (n*size)).toList=(List.replicate n x0).flatMap enc:=by rw[← hzs];exact made_replicate hz n
          rw[hcells] at hown
          have hlen:(List.replicate n x0).length=n:=by simp
          have hS:Sep w0 (ak enc (some ⟨w.heap.size,0,none⟩) n e size (List.replicate n x0)::L) w':=by
            have h1:Sep w [ak enc (some ⟨w.heap.size,0,none⟩) n e size (List.replicate n x0)] w':=by
              refine⟨⟨hg.os,hg.tape,hg.output,hg.size,fun b hb=>hg.block b hb (by simp)⟩,fun c hc=>?_,fun c hc b hb=>?_,by simp⟩
              · simp only[List.mem_singleton] at hc;subst hc
                show w'.ownsRow 0 e size (.slice _ (List.replicate n x0).length n) (List.replicate n x0).length _
                rw[hlen]
                refine⟨hown.1,?_⟩
                rcases hown.2 with h2 | ⟨g,cap,cur,h3,_,h4⟩
                · exact .inl h2
                · exact .inr ⟨g,cap,cur,h3,Nat.zero_le _,h4⟩
              · simp only[List.mem_singleton] at hc;subst hc
                have hb':b=w.heap.size:=by
                  have:Value.ownBlock (.slice (some ⟨w.heap.size,0,none⟩) (List.replicate n x0).length n)=some b:=hb
                  simpa [Value.ownBlock,eq_comm] using this
                subst hb'
                have h5:=hown.lt w.heap.size (by simp[Value.ownBlock])
                exact⟨Nat.le_refl _,h5.2⟩
            exact S.trans h1
          refine⟨_,w',?_,hS⟩
          rw[hlen]
          refine⟨_,ho,hd,.inl ?_⟩
          unfold execOp
          simp[hop,hx,hy,hr,Result.andThen]
      · cases h
    · cases h
  · cases h

def appzAt (P:Program) (N:Nat) (K:List Item) (env:Env):Option (Option Nat×TypeId×TypeId×IntKind×Int) :=
  match opAt N K env with
  | some o=>match o.op with
    | .call { callee:=.builtin .append,args,argTypes } =>
      match args.toList,argTypes.toList with
      | [x,y],[t,t']=>match ev env x,ev env y with
        | .slice none 0 0,.int k n=>some (o.dst,t,t',k,n)
        | _,_=>none
      | _,_=>none
    | _=>none
  | none=>none

theorem zero_replicate {α:Type} {enc:α→List Value} {x0:α} {z:Value} (hz:z.cells.toList=enc x0) (n:Nat):(Builtin.zeroCells z.cells n).toList=(List.replicate n x0).flatMap enc:=by
  rw[← made_replicate hz n]
  rfl

theorem OK.appz {α:Type} (enc:α→List Value) (x0:α) {w0 w:World} {L:List Claim} (S:Sep w0 L w) {K:List Item} {env:Env} (d:Nat) (t t' e:TypeId) (size:Nat) (kk kn:IntKind) (ii:Int) (n:Nat) (z:Value) (bytes:Nat) (h:appzAt P N K env=some (some d,t,t',kk,ii)) (hn:ii=n) (h0:0<n) (ht:P.underlying t=some (.slice e)) (ht':P.underlying t'=some (.int kn))
    (hinfo:(P.info? e).map (fun i=>(i.zero,i.size,i.bytes))=some (some z,size,bytes)) (hzs:z.cells.size=size) (hsz:0<size) (hz:z.cells.toList=enc x0) (hb:n*bytes≤140737488355328∧n≤140737488355328)
    : ∃ b cap w',OK P N K env w (some d) (.slice (some ⟨b,0,none⟩) (List.replicate n x0).length cap) w'∧Sep w0 (ak enc (some ⟨b,0,none⟩) cap e size (List.replicate n x0)::L) w':=by
  obtain ⟨i,hi,hzz⟩:=Option.map_eq_some_iff.1 hinfo
  simp only[Prod.mk.injEq] at hzz
  obtain ⟨hz1,hsize,hby⟩:=hzz
  subst hn
  unfold appzAt at h
  split at h
  · rename_i o ho
    split at h
    · rename_i args argTypes hop
      split at h
      · rename_i xo yo t1 t2 hargs hts
        split at h
        · rename_i k1 n1 hx hy
          simp only[Option.some.injEq,Prod.mk.injEq] at h
          obtain ⟨hd,rfl,rfl,rfl,rfl⟩:=h
          have hr:=Lib.run_append_nil_zeros (P:=P) w t1 t2 o.type e i z k1 kn ht ht' hi hz1 n h0 (by rw[hsize];exact hsz) om (by rw[hby];omega)
          have hlen:(List.replicate n x0).length=n:=by simp
          have hcap:n≤grownCap w n 0 e∧grownCap w n 0 e≤maxLen:=⟨grownCap_ge w n 0 e,grownCap_le_maxLen w n 0 e (by simp only[maxLen];omega)⟩
          have hS:Sep w0 (ak enc (some ⟨w.heap.size,0,none⟩) (grownCap w n 0 e) e size (List.replicate n x0)::L) (w.drew.alloc (.cells (Builtin.zeroCells z.cells n++Builtin.zeroCells z.cells (grownCap w n 0 e-n)) e)):=by
            have hz1':(Builtin.zeroCells z.cells n).size=n*size:=by simp[Builtin.zeroCells,hzs]
            have hz2:(Builtin.zeroCells z.cells (grownCap w n 0 e-n)).size=(grownCap w n 0 e-n)*size:=by simp[Builtin.zeroCells,hzs]
            have h1:Sep w [ak enc (some ⟨w.heap.size,0,none⟩) (grownCap w n 0 e) e size (List.replicate n x0)] (w.drew.alloc (.cells (Builtin.zeroCells z.cells n++Builtin.zeroCells z.cells (grownCap w n 0 e-n)) e)):=by
              refine⟨((Below.refl _ w).drew).alloc (Nat.le_refl _) _,fun c hc=>?_,fun c hc b hb=>?_,by simp⟩
              · simp only[List.mem_singleton] at hc;subst hc
                show World.ownsRow _ 0 e size (.slice _ (List.replicate n x0).length _) (List.replicate n x0).length _
                rw[hlen]
                refine⟨?_,.inr ⟨w.heap.size,grownCap w n 0 e,_,rfl,Nat.zero_le _,heap_alloc_new w.drew _,hcap.1,hcap.2,?_,?_⟩⟩
                · rw[← zero_replicate hz,Array.length_toList,hz1']
                · rw[Array.size_append,hz1',hz2,← Nat.add_mul];congr 1;omega
                · rw[← zero_replicate hz,Array.toList_append,List.take_append_of_le_length (by rw[Array.length_toList,hz1'];exact Nat.le_refl _),List.take_of_length_le (by rw[Array.length_toList,hz1'];exact Nat.le_refl _)]
              · simp only[List.mem_singleton] at hc;subst hc
                have hb':b=w.heap.size:=by
                  have:Value.ownBlock (.slice (some ⟨w.heap.size,0,none⟩) (List.replicate n x0).length (grownCap w n 0 e))=some b:=hb
                  simpa [Value.ownBlock,eq_comm] using this
                subst hb'
                refine⟨Nat.le_refl _,?_⟩
                have:(w.drew.alloc (.cells (Builtin.zeroCells z.cells n++Builtin.zeroCells z.cells (grownCap w n 0 e-n)) e)).heap.size=w.heap.size+1:=by simp
                omega
            exact S.trans h1
          refine⟨_,_,_,?_,hS⟩
          rw[hlen]
          refine⟨_,ho,hd,.inl ?_⟩
          have ea:args=#[xo,yo]:=by rw[← hargs]
          have et:argTypes=#[t1,t2]:=by rw[← hts]
          subst ea et
          unfold execOp
          simp[hop,resolve,invoke,builtin,hx,hy,hr,Result.andThen]
        · cases h
      · cases h
    · cases h
  · cases h

theorem Sep.cut {α:Type} {enc:α→List Value} {w0 w:World} {L:List Claim} (S:Sep w0 L w) (j:Nat) {a:Option Addr} {cap:Nat} {e:TypeId} {size:Nat} {l:List α} (hj:L[j]? =some (ak enc a cap e size l)) (hs:∀ x,(enc x).length=size) (r:Nat) (hr:r≤l.length) :
    Sep w0 (L.set j (ak enc a cap e size (l.take r))) w:=by
  have hown:w.ownsRow 0 e size (.slice a l.length cap) l.length (l.flatMap enc):=S.nth j hj
  have hlen:∀ zs:List α,(zs.flatMap enc).length=zs.length*size:=by
    intro zs
    induction zs with
    | nil=>simp
    | cons y zs ih=>simp[List.flatMap_cons,ih,hs,Nat.add_mul];omega
  have hl:(l.take r).length=r:=by rw[List.length_take];omega
  refine S.set j hj (fun b hb=>.inl ?_) rfl rfl rfl (Nat.le_refl _) (fun _ _ _=>rfl) ?_
  · have hb':Value.ownBlock (.slice a (l.take r).length cap)=some b:=hb
    show Value.ownBlock (.slice a l.length cap)=some b
    cases a with
    | none=>simp[Value.ownBlock] at hb'
    | some p=>simpa [Value.ownBlock] using hb'
  · show w.ownsRow 0 e size (.slice a (l.take r).length cap) (l.take r).length ((l.take r).flatMap enc)
    rw[hl]
    refine⟨by rw[hlen,hl],?_⟩
    rcases hown.2 with ⟨h1,h2⟩ | ⟨g,cap',cur,h3,h4,h5,h6,h7,h8,h9⟩
    · left
      simp only[Value.slice.injEq] at h1
      obtain ⟨rfl,h10,rfl⟩:=h1
      have:r=0:=by omega
      subst this
      exact⟨rfl,by simp⟩
    · right
      simp only[Value.slice.injEq] at h3
      obtain ⟨rfl,_,rfl⟩:=h3
      refine⟨g,cap,cur,rfl,h4,h5,om,h7,h8,?_⟩
      have hsplit:l.flatMap enc=(l.take r).flatMap enc++(l.drop r).flatMap enc:=by rw[← List.flatMap_append,List.take_append_drop]
      have h10:r*size≤l.length*size:=Nat.mul_le_mul_right _ hr
      have:cur.toList.take (r*size)=(cur.toList.take (l.length*size)).take (r*size):=by rw[List.take_take,Nat.min_eq_left h10]
      rw[this,h9,hsplit,List.take_append_of_le_length (by rw[hlen,hl];exact Nat.le_refl _),List.take_of_length_le (by rw[hlen,hl];exact Nat.le_refl _)]

theorem Sep.two {w0 w:World} {L:List Claim} (S:Sep w0 L w) (i j:Nat) {c d:Claim} (hi:L[i]? =some c) (hj:(c::L.eraseIdx i)[j]? =some d) (hne:j≠0):Sep w0 [d,c] w:=by
  have S2:=(S.front i hi).front j hj
  cases j with
  | zero=>exact absurd rfl hne
  | succ j =>
    rw[List.eraseIdx_cons_succ] at S2
    exact S2.sub (List.Sublist.cons_cons _ (List.Sublist.cons_cons _ (List.nil_sublist _)))


theorem J.newSlice {w0 w:World} {L:List Claim} (S:Sep w0 L w) (d n:Nat) (cs:List Value) (T:TypeId) {K:List Item} {env:Env}
    (h:opRun P N K env w=some (some d,.ok (.value (.slice (some ⟨w.heap.size,0,none⟩) n n)) (w.alloc (.cells cs.toArray T))))
    (k:∀ b w',Sep w0 (box b cs T::L) w'→J P f N R (eO K) ((d,.slice (some ⟨b,0,none⟩) n n)::env) w'):J P f N R K env w:=by
  obtain ⟨o,ho,hd,hr⟩:=cK h
  exact J.ok ⟨o,ho,hd,.inl hr⟩ (k _ _ (S.alloc cs T))

theorem J.append {α:Type} (enc:α→List Value) {w0 w:World} {L:List Claim} (S:Sep w0 L w) (j:Nat) {a:Option Addr} {cap:Nat} {e:TypeId} {size:Nat} (l:List α) (x:α) {K:List Item} {env:Env} (d:Nat) (t:TypeId) (z:Value) (bytes:Nat) (ad:Addr) (c:Nat)
    (hj:L[j]? =some (ak enc a cap e size l)) (h:appAt N K env=some (some d,t,.slice a l.length cap,.slice (some ad) 1 c)) (ht:P.underlying t=some (.slice e))
    (hinfo:(P.info? e).map (fun i=>(i.zero,i.size,i.bytes))=some (some z,size,bytes)) (hzs:z.cells.size=size) (hsz:0<size)
    (hnews:Cells w (some ad) (enc x)) (hl:(enc x).length=size) (h1:(enc x).all (·.oneCell')=true) (hb:(l.length+1)*bytes≤140737488355328∧l.length<140737488355328)
    (k:∀ a' cap' w',Sep w0 (L.set j (ak enc a' cap' e size (l++[x]))) w'→J P f N R (eO K) ((d,.slice a' (l++[x]).length cap')::env) w'):J P f N R K env w:=by
  obtain ⟨a',cap',w',hok,hS⟩:=OK.append enc S j l x d t z bytes ad c hj h ht hinfo hzs hsz hnews hl h1 hb
  exact J.ok hok (k a' cap' w' hS)

theorem J.appendN {α:Type} (enc:α→List Value) {w0 w:World} {L:List Claim} (S:Sep w0 L w) (j:Nat) {a:Option Addr} {cap:Nat} {e:TypeId} {size:Nat} (l ys:List α) (n:Nat) (hn:ys.length=n) {K:List Item} {env:Env} (d:Nat) (t:TypeId) (z:Value) (bytes:Nat) (x:Option Addr) (c:Nat)
    (hj:L[j]? =some (ak enc a cap e size l)) (h:appAt N K env=some (some d,t,.slice a l.length cap,.slice x n c)) (ht:P.underlying t=some (.slice e))
    (hinfo:(P.info? e).map (fun i=>(i.zero,i.size,i.bytes))=some (some z,size,bytes)) (hzs:z.cells.size=size) (hsz:0<size)
    (hnews:Cells w x (ys.flatMap enc)) (hx:x=none→ys=[]) (hl:∀ y,(enc y).length=size) (h1:∀ y,(enc y).all (·.oneCell')=true) (hb:(l.length+ys.length)*bytes≤140737488355328∧l.length+ys.length≤140737488355328)
    (k:∀ a' cap' w',Sep w0 (L.set j (ak enc a' cap' e size (l++ys))) w'→J P f N R (eO K) ((d,.slice a' (l++ys).length cap')::env) w'):J P f N R K env w:=by
  subst hn
  obtain ⟨a',cap',w',hok,hS⟩:=OK.appendL enc S j l ys d t z bytes x c hj h ht hinfo hzs hsz hnews hx hl h1 hb
  exact J.ok hok (k a' cap' w' hS)

theorem J.make {α:Type} (enc:α→List Value) (x0:α) {w0 w:World} {L:List Claim} (S:Sep w0 L w) {K:List Item} {env:Env} (d:Nat) (t e:TypeId) (size:Nat) (ii jj:Int) (n:Nat) (z:Value) (bytes:Nat) (h:mkAt N K env=some (some d,t,ii,jj)) (hn:ii=n) (hm:jj=n) (ht:P.underlying t=some (.slice e))
    (hinfo:(P.info? e).map (fun i=>(i.zero,i.size,i.bytes))=some (some z,size,bytes)) (hzs:z.cells.size=size) (hz:z.cells.toList=enc x0) (hb:bytes*n≤281474976710656∧n≤9223372036854775807)
    (k:∀ b w',Sep w0 (ak enc (some ⟨b,0,none⟩) n e size (List.replicate n x0)::L) w'→J P f N R (eO K) ((d,.slice (some ⟨b,0,none⟩) (List.replicate n x0).length n)::env) w'):J P f N R K env w:=by
  obtain ⟨b,w',hok,hS⟩:=OK.make enc x0 S d t e size ii jj n z bytes h hn hm ht hinfo hzs hz hb
  exact J.ok hok (k b w' hS)

theorem J.appz {α:Type} (enc:α→List Value) (x0:α) {w0 w:World} {L:List Claim} (S:Sep w0 L w) {K:List Item} {env:Env} (d:Nat) (t t' e:TypeId) (size:Nat) (kk kn:IntKind) (ii:Int) (n:Nat) (z:Value) (bytes:Nat) (h:appzAt P N K env=some (some d,t,t',kk,ii)) (hn:ii=n) (h0:0<n) (ht:P.underlying t=some (.slice e)) (ht':P.underlying t'=some (.int kn))
    (hinfo:(P.info? e).map (fun i=>(i.zero,i.size,i.bytes))=some (some z,size,bytes)) (hzs:z.cells.size=size) (hsz:0<size) (hz:z.cells.toList=enc x0) (hb:n*bytes≤140737488355328∧n≤140737488355328)
    (k:∀ b cap w',Sep w0 (ak enc (some ⟨b,0,none⟩) cap e size (List.replicate n x0)::L) w'→J P f N R (eO K) ((d,.slice (some ⟨b,0,none⟩) (List.replicate n x0).length cap)::env) w'):J P f N R K env w:=by
  obtain ⟨b,cap,w',hok,hS⟩:=OK.appz enc x0 S d t t' e size kk kn ii n z bytes h hn h0 ht ht' hinfo hzs hsz hz hb
  exact J.ok hok (k b cap w' hS)

theorem J.stRow1 {α:Type} (g:α→Value) (hg1:∀ x,(g x).cells=#[g x]∧(g x).oneCell'=true) {w0 w:World} {L:List Claim} (S:Sep w0 L w) (j:Nat) {a:Option Addr} {cap:Nat} {e:TypeId} (l:List α) {K:List Item} {env:Env} (t:TypeId) (p:Addr) (i:Nat) (x:α) (hj:L[j]? =some (ak (eP g) a cap e 1 l))
    (h:stAt N K env=some (none,t,p.add i,g x)) (hp:a=some p) (hi:i<l.length) (ht:(P.info? t).map (·.size)=some 1)
    (k:∀ w',Sep w0 (L.set j (ak (eP g) a cap e 1 (l.set i x))) w'→J P f N R (eO K) env w'):J P f N R K env w:=by
  obtain ⟨w',hr,hS⟩:=S.setRow1 (P:=P) g hg1 j hj i hi x hp ht
  exact J.ok (OK.store w' h hr) (k w' hS)

theorem TL.newSlice {w0 w:World} {L:List Claim} (S:Sep w0 L w) (d n:Nat) (cs:List Value) (T:TypeId) {K:List Item} {q:Nat} {env:Env}
    (h:opRun P N (cz (bL K) q) env w=some (some d,.ok (.value (.slice (some ⟨w.heap.size,0,none⟩) n n)) (w.alloc (.cells cs.toArray T))))
    (k:∀ b w',Sep w0 (box b cs T::L) w'→TL P f N R K (q+1) ((d,.slice (some ⟨b,0,none⟩) n n)::env) w'):TL P f N R K q env w:=by
  obtain ⟨o,ho,hd,hr⟩:=cK h
  exact TL.ok ⟨o,ho,hd,.inl hr⟩ (k _ _ (S.alloc cs T))

theorem TL.append {α:Type} (enc:α→List Value) {w0 w:World} {L:List Claim} (S:Sep w0 L w) (j:Nat) {a:Option Addr} {cap:Nat} {e:TypeId} {size:Nat} (l:List α) (x:α) {K:List Item} {q:Nat} {env:Env} (d:Nat) (t:TypeId) (z:Value) (bytes:Nat) (ad:Addr) (c:Nat)
    (hj:L[j]? =some (ak enc a cap e size l)) (h:appAt N (cz (bL K) q) env=some (some d,t,.slice a l.length cap,.slice (some ad) 1 c)) (ht:P.underlying t=some (.slice e))
    (hinfo:(P.info? e).map (fun i=>(i.zero,i.size,i.bytes))=some (some z,size,bytes)) (hzs:z.cells.size=size) (hsz:0<size)
    (hnews:Cells w (some ad) (enc x)) (hl:(enc x).length=size) (h1:(enc x).all (·.oneCell')=true) (hb:(l.length+1)*bytes≤140737488355328∧l.length<140737488355328)
    (k:∀ a' cap' w',Sep w0 (L.set j (ak enc a' cap' e size (l++[x]))) w'→TL P f N R K (q+1) ((d,.slice a' (l++[x]).length cap')::env) w'):TL P f N R K q env w:=by
  obtain ⟨a',cap',w',hok,hS⟩:=OK.append enc S j l x d t z bytes ad c hj h ht hinfo hzs hsz hnews hl h1 hb
  exact TL.ok hok (k a' cap' w' hS)

theorem TL.appendN {α:Type} (enc:α→List Value) {w0 w:World} {L:List Claim} (S:Sep w0 L w) (j:Nat) {a:Option Addr} {cap:Nat} {e:TypeId} {size:Nat} (l ys:List α) (n:Nat) (hn:ys.length=n) {K:List Item} {q:Nat} {env:Env} (d:Nat) (t:TypeId) (z:Value) (bytes:Nat) (x:Option Addr) (c:Nat)
    (hj:L[j]? =some (ak enc a cap e size l)) (h:appAt N (cz (bL K) q) env=some (some d,t,.slice a l.length cap,.slice x n c)) (ht:P.underlying t=some (.slice e))
    (hinfo:(P.info? e).map (fun i=>(i.zero,i.size,i.bytes))=some (some z,size,bytes)) (hzs:z.cells.size=size) (hsz:0<size)
    (hnews:Cells w x (ys.flatMap enc)) (hx:x=none→ys=[]) (hl:∀ y,(enc y).length=size) (h1:∀ y,(enc y).all (·.oneCell')=true) (hb:(l.length+ys.length)*bytes≤140737488355328∧l.length+ys.length≤140737488355328)
    (k:∀ a' cap' w',Sep w0 (L.set j (ak enc a' cap' e size (l++ys))) w'→TL P f N R K (q+1) ((d,.slice a' (l++ys).length cap')::env) w'):TL P f N R K q env w:=by
  subst hn
  obtain ⟨a',cap',w',hok,hS⟩:=OK.appendL enc S j l ys d t z bytes x c hj h ht hinfo hzs hsz hnews hx hl h1 hb
  exact TL.ok hok (k a' cap' w' hS)

theorem TL.make {α:Type} (enc:α→List Value) (x0:α) {w0 w:World} {L:List Claim} (S:Sep w0 L w) {K:List Item} {q:Nat} {env:Env} (d:Nat) (t e:TypeId) (size:Nat) (ii jj:Int) (n:Nat) (z:Value) (bytes:Nat) (h:mkAt N (cz (bL K) q) env=some (some d,t,ii,jj)) (hn:ii=n) (hm:jj=n) (ht:P.underlying t=some (.slice e))
    (hinfo:(P.info? e).map (fun i=>(i.zero,i.size,i.bytes))=some (some z,size,bytes)) (hzs:z.cells.size=size) (hz:z.cells.toList=enc x0) (hb:bytes*n≤281474976710656∧n≤9223372036854775807)
    (k:∀ b w',Sep w0 (ak enc (some ⟨b,0,none⟩) n e size (List.replicate n x0)::L) w'→TL P f N R K (q+1) ((d,.slice (some ⟨b,0,none⟩) (List.replicate n x0).length n)::env) w'):TL P f N R K q env w:=by
  obtain ⟨b,w',hok,hS⟩:=OK.make enc x0 S d t e size ii jj n z bytes h hn hm ht hinfo hzs hz hb
  exact TL.ok hok (k b w' hS)

theorem TL.appz {α:Type} (enc:α→List Value) (x0:α) {w0 w:World} {L:List Claim} (S:Sep w0 L w) {K:List Item} {q:Nat} {env:Env} (d:Nat) (t t' e:TypeId) (size:Nat) (kk kn:IntKind) (ii:Int) (n:Nat) (z:Value) (bytes:Nat) (h:appzAt P N (cz (bL K) q) env=some (some d,t,t',kk,ii)) (hn:ii=n) (h0:0<n) (ht:P.underlying t=some (.slice e)) (ht':P.underlying t'=some (.int kn))
    (hinfo:(P.info? e).map (fun i=>(i.zero,i.size,i.bytes))=some (some z,size,bytes)) (hzs:z.cells.size=size) (hsz:0<size) (hz:z.cells.toList=enc x0) (hb:n*bytes≤140737488355328∧n≤140737488355328)
    (k:∀ b cap w',Sep w0 (ak enc (some ⟨b,0,none⟩) cap e size (List.replicate n x0)::L) w'→TL P f N R K (q+1) ((d,.slice (some ⟨b,0,none⟩) (List.replicate n x0).length cap)::env) w'):TL P f N R K q env w:=by
  obtain ⟨b,cap,w',hok,hS⟩:=OK.appz enc x0 S d t t' e size kk kn ii n z bytes h hn h0 ht ht' hinfo hzs hsz hz hb
  exact TL.ok hok (k b cap w' hS)

theorem TL.stRow1 {α:Type} (g:α→Value) (hg1:∀ x,(g x).cells=#[g x]∧(g x).oneCell'=true) {w0 w:World} {L:List Claim} (S:Sep w0 L w) (j:Nat) {a:Option Addr} {cap:Nat} {e:TypeId} (l:List α) {K:List Item} {q:Nat} {env:Env} (t:TypeId) (p:Addr) (i:Nat) (x:α) (hj:L[j]? =some (ak (eP g) a cap e 1 l))
    (h:stAt N (cz (bL K) q) env=some (none,t,p.add i,g x)) (hp:a=some p) (hi:i<l.length) (ht:(P.info? t).map (·.size)=some 1)
    (k:∀ w',Sep w0 (L.set j (ak (eP g) a cap e 1 (l.set i x))) w'→TL P f N R K (q+1) env w'):TL P f N R K q env w:=by
  obtain ⟨w',hr,hS⟩:=S.setRow1 (P:=P) g hg1 j hj i hi x hp ht
  exact TL.ok (OK.store w' h hr) (k w' hS)

theorem WO.newSlice {w0 w:World} {L:List Claim} (S:Sep w0 L w) (d n:Nat) (cs:List Value) (T:TypeId) {K:List Item} {H:World→Prop} {fuel:Nat} {ar:Array Bool} {q:Nat} {env:Env}
    (h:opRun P N (cz (bL K) q) env w=some (some d,.ok (.value (.slice (some ⟨w.heap.size,0,none⟩) n n)) (w.alloc (.cells cs.toArray T))))
    (k:∀ b w',Sep w0 (box b cs T::L) w'→WB P f N R K H fuel ar ((d,.slice (some ⟨b,0,none⟩) n n)::env) w'):WO P f N R K H fuel ar q env w:=by
  obtain ⟨o,ho,hd,hr⟩:=cK h
  exact WO.ok ⟨o,ho,hd,.inl hr⟩ (k _ _ (S.alloc cs T))

theorem WO.append {α:Type} (enc:α→List Value) {w0 w:World} {L:List Claim} (S:Sep w0 L w) (j:Nat) {a:Option Addr} {cap:Nat} {e:TypeId} {size:Nat} (l:List α) (x:α) {K:List Item} {H:World→Prop} {fuel:Nat} {ar:Array Bool} {q:Nat} {env:Env} (d:Nat) (t:TypeId) (z:Value) (bytes:Nat) (ad:Addr) (c:Nat)
    (hj:L[j]? =some (ak enc a cap e size l)) (h:appAt N (cz (bL K) q) env=some (some d,t,.slice a l.length cap,.slice (some ad) 1 c)) (ht:P.underlying t=some (.slice e))
    (hinfo:(P.info? e).map (fun i=>(i.zero,i.size,i.bytes))=some (some z,size,bytes)) (hzs:z.cells.size=size) (hsz:0<size)
    (hnews:Cells w (some ad) (enc x)) (hl:(enc x).length=size) (h1:(enc x).all (·.oneCell')=true) (hb:(l.length+1)*bytes≤140737488355328∧l.length<140737488355328)
    (k:∀ a' cap' w',Sep w0 (L.set j (ak enc a' cap' e size (l++[x]))) w'→WB P f N R K H fuel ar ((d,.slice a' (l++[x]).length cap')::env) w'):WO P f N R K H fuel ar q env w:=by
  obtain ⟨a',cap',w',hok,hS⟩:=OK.append enc S j l x d t z bytes ad c hj h ht hinfo hzs hsz hnews hl h1 hb
  exact WO.ok hok (k a' cap' w' hS)

theorem WO.appendN {α:Type} (enc:α→List Value) {w0 w:World} {L:List Claim} (S:Sep w0 L w) (j:Nat) {a:Option Addr} {cap:Nat} {e:TypeId} {size:Nat} (l ys:List α) (n:Nat) (hn:ys.length=n) {K:List Item} {H:World→Prop} {fuel:Nat} {ar:Array Bool} {q:Nat} {env:Env} (d:Nat) (t:TypeId) (z:Value) (bytes:Nat) (x:Option Addr) (c:Nat)
    (hj:L[j]? =some (ak enc a cap e size l)) (h:appAt N (cz (bL K) q) env=some (some d,t,.slice a l.length cap,.slice x n c)) (ht:P.underlying t=some (.slice e))
    (hinfo:(P.info? e).map (fun i=>(i.zero,i.size,i.bytes))=some (some z,size,bytes)) (hzs:z.cells.size=size) (hsz:0<size)
    (hnews:Cells w x (ys.flatMap enc)) (hx:x=none→ys=[]) (hl:∀ y,(enc y).length=size) (h1:∀ y,(enc y).all (·.oneCell')=true) (hb:(l.length+ys.length)*bytes≤140737488355328∧l.length+ys.length≤140737488355328)
    (k:∀ a' cap' w',Sep w0 (L.set j (ak enc a' cap' e size (l++ys))) w'→WB P f N R K H fuel ar ((d,.slice a' (l++ys).length cap')::env) w'):WO P f N R K H fuel ar q env w:=by
  subst hn
  obtain ⟨a',cap',w',hok,hS⟩:=OK.appendL enc S j l ys d t z bytes x c hj h ht hinfo hzs hsz hnews hx hl h1 hb
  exact WO.ok hok (k a' cap' w' hS)

theorem WO.make {α:Type} (enc:α→List Value) (x0:α) {w0 w:World} {L:List Claim} (S:Sep w0 L w) {K:List Item} {H:World→Prop} {fuel:Nat} {ar:Array Bool} {q:Nat} {env:Env} (d:Nat) (t e:TypeId) (size:Nat) (ii jj:Int) (n:Nat) (z:Value) (bytes:Nat) (h:mkAt N (cz (bL K) q) env=some (some d,t,ii,jj)) (hn:ii=n) (hm:jj=n) (ht:P.underlying t=some (.slice e))
    (hinfo:(P.info? e).map (fun i=>(i.zero,i.size,i.bytes))=some (some z,size,bytes)) (hzs:z.cells.size=size) (hz:z.cells.toList=enc x0) (hb:bytes*n≤281474976710656∧n≤9223372036854775807)
    (k:∀ b w',Sep w0 (ak enc (some ⟨b,0,none⟩) n e size (List.replicate n x0)::L) w'→WB P f N R K H fuel ar ((d,.slice (some ⟨b,0,none⟩) (List.replicate n x0).length n)::env) w'):WO P f N R K H fuel ar q env w:=by
  obtain ⟨b,w',hok,hS⟩:=OK.make enc x0 S d t e size ii jj n z bytes h hn hm ht hinfo hzs hz hb
  exact WO.ok hok (k b w' hS)

theorem WO.appz {α:Type} (enc:α→List Value) (x0:α) {w0 w:World} {L:List Claim} (S:Sep w0 L w) {K:List Item} {H:World→Prop} {fuel:Nat} {ar:Array Bool} {q:Nat} {env:Env} (d:Nat) (t t' e:TypeId) (size:Nat) (kk kn:IntKind) (ii:Int) (n:Nat) (z:Value) (bytes:Nat) (h:appzAt P N (cz (bL K) q) env=some (some d,t,t',kk,ii)) (hn:ii=n) (h0:0<n) (ht:P.underlying t=some (.slice e)) (ht':P.underlying t'=some (.int kn))
    (hinfo:(P.info? e).map (fun i=>(i.zero,i.size,i.bytes))=some (some z,size,bytes)) (hzs:z.cells.size=size) (hsz:0<size) (hz:z.cells.toList=enc x0) (hb:n*bytes≤140737488355328∧n≤140737488355328)
    (k:∀ b cap w',Sep w0 (ak enc (some ⟨b,0,none⟩) cap e size (List.replicate n x0)::L) w'→WB P f N R K H fuel ar ((d,.slice (some ⟨b,0,none⟩) (List.replicate n x0).length cap)::env) w'):WO P f N R K H fuel ar q env w:=by
  obtain ⟨b,cap,w',hok,hS⟩:=OK.appz enc x0 S d t t' e size kk kn ii n z bytes h hn h0 ht ht' hinfo hzs hsz hz hb
  exact WO.ok hok (k b cap w' hS)

theorem WO.stRow1 {α:Type} (g:α→Value) (hg1:∀ x,(g x).cells=#[g x]∧(g x).oneCell'=true) {w0 w:World} {L:List Claim} (S:Sep w0 L w) (j:Nat) {a:Option Addr} {cap:Nat} {e:TypeId} (l:List α) {K:List Item} {H:World→Prop} {fuel:Nat} {ar:Array Bool} {q:Nat} {env:Env} (t:TypeId) (p:Addr) (i:Nat) (x:α) (hj:L[j]? =some (ak (eP g) a cap e 1 l))
    (h:stAt N (cz (bL K) q) env=some (none,t,p.add i,g x)) (hp:a=some p) (hi:i<l.length) (ht:(P.info? t).map (·.size)=some 1)
    (k:∀ w',Sep w0 (L.set j (ak (eP g) a cap e 1 (l.set i x))) w'→WB P f N R K H fuel ar env w'):WO P f N R K H fuel ar q env w:=by
  obtain ⟨w',hr,hS⟩:=S.setRow1 (P:=P) g hg1 j hj i hi x hp ht
  exact WO.ok (OK.store w' h hr) (k w' hS)

theorem PL.newSlice {w0 w:World} {L:List Claim} (S:Sep w0 L w) (d n:Nat) (cs:List Value) (T:TypeId) {K:List Item} {H:World→Prop} {plan:List (Nat×Bool)} {q:Nat} {env:Env}
    (h:opRun P N (cz (bL K) q) env w=some (some d,.ok (.value (.slice (some ⟨w.heap.size,0,none⟩) n n)) (w.alloc (.cells cs.toArray T))))
    (k:∀ b w',Sep w0 (box b cs T::L) w'→PB P f N R K H plan ((d,.slice (some ⟨b,0,none⟩) n n)::env) w'):PL P f N R K H ((q,false)::plan) env w:=by
  obtain ⟨o,ho,hd,hr⟩:=cK h
  exact PL.ok ⟨o,ho,hd,.inl hr⟩ (k _ _ (S.alloc cs T))

theorem PL.append {α:Type} (enc:α→List Value) {w0 w:World} {L:List Claim} (S:Sep w0 L w) (j:Nat) {a:Option Addr} {cap:Nat} {e:TypeId} {size:Nat} (l:List α) (x:α) {K:List Item} {H:World→Prop} {plan:List (Nat×Bool)} {q:Nat} {env:Env} (d:Nat) (t:TypeId) (z:Value) (bytes:Nat) (ad:Addr) (c:Nat)
    (hj:L[j]? =some (ak enc a cap e size l)) (h:appAt N (cz (bL K) q) env=some (some d,t,.slice a l.length cap,.slice (some ad) 1 c)) (ht:P.underlying t=some (.slice e))
    (hinfo:(P.info? e).map (fun i=>(i.zero,i.size,i.bytes))=some (some z,size,bytes)) (hzs:z.cells.size=size) (hsz:0<size)
    (hnews:Cells w (some ad) (enc x)) (hl:(enc x).length=size) (h1:(enc x).all (·.oneCell')=true) (hb:(l.length+1)*bytes≤140737488355328∧l.length<140737488355328)
    (k:∀ a' cap' w',Sep w0 (L.set j (ak enc a' cap' e size (l++[x]))) w'→PB P f N R K H plan ((d,.slice a' (l++[x]).length cap')::env) w'):PL P f N R K H ((q,false)::plan) env w:=by
  obtain ⟨a',cap',w',hok,hS⟩:=OK.append enc S j l x d t z bytes ad c hj h ht hinfo hzs hsz hnews hl h1 hb
  exact PL.ok hok (k a' cap' w' hS)

theorem PL.appendN {α:Type} (enc:α→List Value) {w0 w:World} {L:List Claim} (S:Sep w0 L w) (j:Nat) {a:Option Addr} {cap:Nat} {e:TypeId} {size:Nat} (l ys:List α) (n:Nat) (hn:ys.length=n) {K:List Item} {H:World→Prop} {plan:List (Nat×Bool)} {q:Nat} {env:Env} (d:Nat) (t:TypeId) (z:Value) (bytes:Nat) (x:Option Addr) (c:Nat)
    (hj:L[j]? =some (ak enc a cap e size l)) (h:appAt N (cz (bL K) q) env=some (some d,t,.slice a l.length cap,.slice x n c)) (ht:P.underlying t=some (.slice e))
    (hinfo:(P.info? e).map (fun i=>(i.zero,i.size,i.bytes))=some (some z,size,bytes)) (hzs:z.cells.size=size) (hsz:0<size)
    (hnews:Cells w x (ys.flatMap enc)) (hx:x=none→ys=[]) (hl:∀ y,(enc y).length=size) (h1:∀ y,(enc y).all (·.oneCell')=true) (hb:(l.length+ys.length)*bytes≤140737488355328∧l.length+ys.length≤140737488355328)
    (k:∀ a' cap' w',Sep w0 (L.set j (ak enc a' cap' e size (l++ys))) w'→PB P f N R K H plan ((d,.slice a' (l++ys).length cap')::env) w'):PL P f N R K H ((q,false)::plan) env w:=by
  subst hn
  obtain ⟨a',cap',w',hok,hS⟩:=OK.appendL enc S j l ys d t z bytes x c hj h ht hinfo hzs hsz hnews hx hl h1 hb
  exact PL.ok hok (k a' cap' w' hS)

theorem PL.make {α:Type} (enc:α→List Value) (x0:α) {w0 w:World} {L:List Claim} (S:Sep w0 L w) {K:List Item} {H:World→Prop} {plan:List (Nat×Bool)} {q:Nat} {env:Env} (d:Nat) (t e:TypeId) (size:Nat) (ii jj:Int) (n:Nat) (z:Value) (bytes:Nat) (h:mkAt N (cz (bL K) q) env=some (some d,t,ii,jj)) (hn:ii=n) (hm:jj=n) (ht:P.underlying t=some (.slice e))
    (hinfo:(P.info? e).map (fun i=>(i.zero,i.size,i.bytes))=some (some z,size,bytes)) (hzs:z.cells.size=size) (hz:z.cells.toList=enc x0) (hb:bytes*n≤281474976710656∧n≤9223372036854775807)
    (k:∀ b w',Sep w0 (ak enc (some ⟨b,0,none⟩) n e size (List.replicate n x0)::L) w'→PB P f N R K H plan ((d,.slice (some ⟨b,0,none⟩) (List.replicate n x0).length n)::env) w'):PL P f N R K H ((q,false)::plan) env w:=by
  obtain ⟨b,w',hok,hS⟩:=OK.make enc x0 S d t e size ii jj n z bytes h hn hm ht hinfo hzs hz hb
  exact PL.ok hok (k b w' hS)

theorem PL.appz {α:Type} (enc:α→List Value) (x0:α) {w0 w:World} {L:List Claim} (S:Sep w0 L w) {K:List Item} {H:World→Prop} {plan:List (Nat×Bool)} {q:Nat} {env:Env} (d:Nat) (t t' e:TypeId) (size:Nat) (kk kn:IntKind) (ii:Int) (n:Nat) (z:Value) (bytes:Nat) (h:appzAt P N (cz (bL K) q) env=some (some d,t,t',kk,ii)) (hn:ii=n) (h0:0<n) (ht:P.underlying t=some (.slice e)) (ht':P.underlying t'=some (.int kn))
    (hinfo:(P.info? e).map (fun i=>(i.zero,i.size,i.bytes))=some (some z,size,bytes)) (hzs:z.cells.size=size) (hsz:0<size) (hz:z.cells.toList=enc x0) (hb:n*bytes≤140737488355328∧n≤140737488355328)
    (k:∀ b cap w',Sep w0 (ak enc (some ⟨b,0,none⟩) cap e size (List.replicate n x0)::L) w'→PB P f N R K H plan ((d,.slice (some ⟨b,0,none⟩) (List.replicate n x0).length cap)::env) w'):PL P f N R K H ((q,false)::plan) env w:=by
  obtain ⟨b,cap,w',hok,hS⟩:=OK.appz enc x0 S d t t' e size kk kn ii n z bytes h hn h0 ht ht' hinfo hzs hsz hz hb
  exact PL.ok hok (k b cap w' hS)

theorem PL.stRow1 {α:Type} (g:α→Value) (hg1:∀ x,(g x).cells=#[g x]∧(g x).oneCell'=true) {w0 w:World} {L:List Claim} (S:Sep w0 L w) (j:Nat) {a:Option Addr} {cap:Nat} {e:TypeId} (l:List α) {K:List Item} {H:World→Prop} {plan:List (Nat×Bool)} {q:Nat} {env:Env} (t:TypeId) (p:Addr) (i:Nat) (x:α) (hj:L[j]? =some (ak (eP g) a cap e 1 l))
    (h:stAt N (cz (bL K) q) env=some (none,t,p.add i,g x)) (hp:a=some p) (hi:i<l.length) (ht:(P.info? t).map (·.size)=some 1)
    (k:∀ w',Sep w0 (L.set j (ak (eP g) a cap e 1 (l.set i x))) w'→PB P f N R K H plan env w'):PL P f N R K H ((q,false)::plan) env w:=by
  obtain ⟨w',hr,hS⟩:=S.setRow1 (P:=P) g hg1 j hj i hi x hp ht
  exact PL.ok (OK.store w' h hr) (k w' hS)

end Go.Eng

namespace Go.Eng
open Go.RowKit

def appE:Env→Env→Env
  | [],e=>e
  | p::l,e=>p::appE l e

def eh:List Nat→Env→Env
  | [],e=>e
  | d::ds,e=>eh ds (e.filter fun p=> !(Nat.beq p.1 d))

def inE (t:Nat) (l:Env):Bool:=l.any fun q=>Nat.beq q.1 t

def valsE (new:Env):List (Option Value):=new.map fun p=>some p.2

theorem appE_eq (l e:Env):appE l e=l++e:=by
  induction l with
  | nil=>rfl
  | cons p l ih=>simp[appE,ih]

theorem dropE_sub (ds:List Nat):∀ (e:Env) {t:Nat} {v:Value},cT (eh ds e) t=some v→cT e t=some v∧inE t (eh ds e)=true:=by
  have key:∀ (e:Env) {t:Nat} {v:Value},cT e t=some v→inE t e=true:=by
    intro e
    induction e with
    | nil=>intro t v h;cases h
    | cons p e ih =>
      intro t v h
      obtain ⟨s,u⟩:=p
      rw[dr] at h
      simp only[inE,List.any_cons,Bool.or_eq_true]
      by_cases hs:s=t
      · exact .inl (by subst hs;simp)
      · rw[if_neg hs] at h;exact .inr (ih h)
  have one:∀ (d:Nat) (e:Env) {t:Nat} {v:Value},cT (e.filter fun p=> !(Nat.beq p.1 d)) t=some v→cT e t=some v:=by
    intro d e
    induction e with
    | nil=>intro t v h;cases h
    | cons p e ih =>
      intro t v h
      obtain ⟨s,u⟩:=p
      rw[dr]
      simp only[List.filter_cons] at h
      split at h
      · rw[dr] at h
        by_cases hs:s=t
        · rw[if_pos hs] at h ⊢;exact h
        · rw[if_neg hs] at h ⊢;exact ih h
      · rename_i hd
        have:s=d:=by simpa using hd
        by_cases hs:s=t
        · subst hs;subst this
          have hn:∀ (e:Env),cT (e.filter fun p=> !(Nat.beq p.1 s)) s=none:=by
            intro e
            induction e with
            | nil=>rfl
            | cons q e ih2 =>
              obtain ⟨a,b⟩:=q
              simp only[List.filter_cons]
              split
              · rename_i hq
                rw[dr,if_neg (fun e_=>by rw[e_] at hq;simp at hq)];exact ih2
              · exact ih2
          rw[hn] at h;cases h
        · rw[if_neg hs];exact ih h
  have all:∀ (ds:List Nat) (e:Env) {t:Nat} {v:Value},cT (eh ds e) t=some v→cT e t=some v:=by
    intro ds
    induction ds with
    | nil=>intro e t v h;exact h
    | cons d ds ih=>intro e t v h;exact one d e (ih _ h)
  intro e t v h
  exact⟨all ds e h,key _ h⟩

section
variable {P:Program} {f:FuncId} {N:Nat} {R:Value→World→Prop}

theorem cond_some {α:Type} {c:Bool} {x:Option α} {y:α} (h:(bif c then x else none)=some y):c=true∧x=some y:=by
  cases c with
  | true=>exact⟨rfl,h⟩
  | false=>cases h

theorem micro_puts {K K':List Item} {env env':Env} {w w':World} (h:micro P N K env w=some (K',env',w')):∃ ps,env'=ps++env:=by
  unfold micro at h
  split at h
  all_goals first
    | (simp only[Option.some.injEq,Prod.mk.injEq] at h;obtain ⟨_,rfl,_⟩:=h;exact⟨[],rfl⟩)
    | skip
  · cases hk:eo env _<;>rw[hk] at h
    · cases h
    · simp only[cond_true] at h
      split at h
      · simp only[Option.some.injEq,Prod.mk.injEq] at h;obtain ⟨_,rfl,_⟩:=h;exact⟨[],rfl⟩
      · cases h
  · split at h
    · simp only[Option.some.injEq,Prod.mk.injEq] at h;obtain ⟨_,rfl,_⟩:=h;exact⟨[],rfl⟩
    · cases h
  · have hp:∀ (d:Option Nat) (v:Value),∃ ps,put env d v=ps++env:=fun d v=>by
      cases d with
      | none=>exact⟨[],rfl⟩
      | some t=>exact⟨[(t,v)],rfl⟩
    split at h
    · cases h
    · rename_i o ho
      obtain ⟨_,h⟩:=cond_some h
      split at h
      · cases h
      · simp only[Option.some.injEq,Prod.mk.injEq] at h;obtain ⟨_,rfl,_⟩:=h;exact hp _ _
      · obtain ⟨_,h⟩:=cond_some h
        split at h
        · simp only[Option.some.injEq,Prod.mk.injEq] at h;obtain ⟨_,rfl,_⟩:=h;exact hp _ _
        · simp only[Option.some.injEq,Prod.mk.injEq] at h;obtain ⟨_,rfl,_⟩:=h;exact hp _ _
        · cases h
  · cases h

theorem exec_puts:∀ (n:Nat) {K K':List Item} {env env':Env} {w w':World},exec P N n K env w=some (K',env',w')→∃ ps,env'=ps++env:=by
  intro n
  induction n with
  | zero=>intro K K' env env' w w' h;simp only[exec,Option.some.injEq,Prod.mk.injEq] at h;obtain ⟨_,rfl,_⟩:=h;exact⟨[],rfl⟩
  | succ n ih =>
    intro K K' env env' w w' h
    simp only[exec] at h
    split at h
    · rename_i k' e' w2 hm
      obtain ⟨p1,h1⟩:=micro_puts hm
      obtain ⟨p2,h2⟩:=ih h
      exact⟨p2++p1,by rw[h2,h1,List.append_assoc]⟩
    · cases h

def safeE (new old ps:Env):Bool:=ps.all fun p=>inE p.1 new|| !(inE p.1 old)

def goF {β:Type} (P:Program) (N n:Nat) (K:List Item) (env:Env) (w:World) (new:Env) (ds:List Nat) (F:List Item→Env→β):Option (List Item×World×List (Option Value)×Bool×β) :=
  (exec P N n K env w).map fun s=>(s.1,s.2.2,new.map (fun p=>cT s.2.1 p.1),safeE new (eh ds env) (s.2.1.take (s.2.1.length-env.length)),F s.1 s.2.1)

theorem look_app {l e:Env} {t:Nat} {v:Value} (h:cT (l++e) t=some v):cT l t=some v∨inE t l=false∧cT e t=some v:=by
  induction l with
  | nil=>exact .inr ⟨rfl,h⟩
  | cons p l ih =>
    obtain ⟨s,u⟩:=p
    rw[List.cons_append,dr] at h
    rw[dr]
    by_cases hs:s=t
    · rw[if_pos hs] at h ⊢;exact .inl h
    · rw[if_neg hs] at h ⊢
      rcases ih h with h1 | ⟨h1,h2⟩
      · exact .inl h1
      · refine .inr ⟨?_,h2⟩
        have:inE t ((s,u)::l)=(Nat.beq s t||inE t l):=rfl
        rw[this,h1,Bool.or_false]
        cases hx:Nat.beq s t with
        | false=>rfl
        | true=>exact absurd (Nat.eq_of_beq_eq_true hx) hs

theorem look_app_ne {l e:Env} {t:Nat} (h:inE t l=false):cT (l++e) t=cT e t:=by
  induction l with
  | nil=>rfl
  | cons p l ih =>
    obtain ⟨s,u⟩:=p
    have e1:inE t ((s,u)::l)=(Nat.beq s t||inE t l):=rfl
    rw[e1,Bool.or_eq_false_iff] at h
    rw[List.cons_append,dr,if_neg (fun hs=>by rw[hs] at h;simp at h),ih h.2]

theorem J.go {β:Type} {n:Nat} {K:List Item} {env:Env} {w:World} {new:Env} {ds:List Nat} {F:List Item→Env→β} {b:β} {K':List Item} 
    (h:goF P N n K env w new ds F=some (K',w,valsE new,true,b))
    (k:∀ env2,(∀ t v,cT (appE new (eh ds env)) t=some v→cT env2 t=some v)→F K' env2=b→J P f N R K' env2 w):J P f N R K env w:=by
  intro a hf
  unfold goF at h
  cases he:Eng.exec P N n K env w with
  | none=>rw[he] at h;cases h
  | some s =>
    obtain ⟨K2,env2,w2⟩:=s
    rw[he] at h
    simp only[Option.map_some,Option.some.injEq,Prod.mk.injEq] at h
    obtain ⟨rfl,rfl,hv,hs,hb⟩:=h
    refine Ja.exec n hf he fun a' hf'=>k env2 (fun t v ht=>?_) hb a' hf'
    rw[appE_eq] at ht
    rcases look_app ht with h1 | ⟨h1,h2⟩
    · have key:∀ (l:Env),(l.map fun p=>cT env2 p.1)=l.map (fun p=>some p.2)→∀ t v,cT l t=some v→cT env2 t=some v:=by
        intro l
        induction l with
        | nil=>intro _ t v h;cases h
        | cons p l ih =>
          intro e t v hl
          obtain ⟨s,u⟩:=p
          simp only[List.map_cons,List.cons.injEq] at e
          rw[dr] at hl
          by_cases hst:s=t
          · subst hst;rw[if_pos rfl] at hl;cases hl;exact e.1
          · rw[if_neg hst] at hl;exact ih e.2 t v hl
      exact key new hv t v h1
    · obtain ⟨h3,h4⟩:=dropE_sub ds env h2
      obtain ⟨ps,rfl⟩:=exec_puts n he
      have e1:(ps++env).take ((ps++env).length-env.length)=ps:=by simp
      rw[e1] at hs
      cases hp:inE t ps with
      | false=>rw[look_app_ne hp];exact h3
      | true =>
        have:∃ q ∈ ps,Nat.beq q.1 t=true:=List.any_eq_true.1 hp
        obtain ⟨q,hq,hqt⟩:=this
        have hqt:=Nat.eq_of_beq_eq_true hqt
        have:=List.all_eq_true.1 hs q hq
        rw[hqt,h1,h4] at this
        cases this

theorem J.less {K:List Item} {env env':Env} {w:World} (h:∀ t v,cT env' t=some v→cT env t=some v) (k:J P f N R K env' w):J P f N R K env w :=
  fun a hf=>k a ⟨hf.size,hf.defers,fun t v ht=>hf.slot t v (h t v ht)⟩

theorem less_cons {env env':Env} (h:∀ t v,cT env' t=some v→cT env t=some v) (d:Nat) (u:Value):∀ t v,cT ((d,u)::env') t=some v→cT ((d,u)::env) t=some v:=by
  intro t v ht
  rw[dr] at ht ⊢
  split at ht
  · rename_i e;rw[if_pos e];exact ht
  · rename_i e;rw[if_neg e];exact h t v ht

variable {K:List Item} {env:Env} {w:World}

theorem J.r (n:Nat) (cs:List Bool) (new:Env) (ds:List Nat) (k:J P f N R (adv n cs K) (appE new (eh ds env)) w)
    (h:goF P N n K env w new ds (fun _ _=>())=some (adv n cs K,w,valsE new,true,()):=by kernel_rfl):J P f N R K env w :=
  J.go h fun _ hs _=>k.less hs

theorem J.t (n:Nat) {K':List Item} {env':Env} {w':World} (k:J P f N R K' env' w')
    (h:((Eng.exec P N n K env w).map fun s=>(s.1,(env'.map fun p=>cT s.2.1 p.1),s.2.2))=some (K',env'.map (fun p=>some p.2),w'):=by kernel_rfl):J P f N R K env w :=
  J.run n K' env' w' h k

theorem J.h (n:Nat) (cs:List Bool) (new:Env) (ds:List Nat) (t:Nat) (v v':Value) (hv:v=v') (k:J P f N R (adv n cs K) ((t,v')::appE new (eh ds env)) w)
    (h:goF P N n K env w ((t,v)::new) ds (fun _ _=>())=some (adv n cs K,w,valsE ((t,v)::new),true,()):=by kernel_rfl):J P f N R K env w:=by
  subst hv
  exact J.go h fun _ hs _=>k.less hs

theorem J.wi (n:Nat) (cs:List Bool) (new:Env) (ds:List Nat) (t:Nat) (x:Int) (k:J P f N R (adv n cs K) ((t,.int .i64 x)::appE new (eh ds env)) w)
    (hx: -9223372036854775808≤x∧x≤9223372036854775807:=by omega)
    (h:goF P N n K env w ((t,.int .i64 (IntKind.wrap .i64 x))::new) ds (fun _ _=>())=some (adv n cs K,w,valsE ((t,.int .i64 (IntKind.wrap .i64 x))::new),true,()):=by kernel_rfl):J P f N R K env w :=
  J.h n cs new ds t _ _ (congrArg (Value.int .i64) (IntWalk.i64_in _ hx)) k h

theorem J.c (n:Nat) (cs:List Bool) (new:Env) (ds:List Nat) (t:Nat) (p:Prop) [Decidable p] (k1:p→J P f N R (adv n cs K) ((t,.bool true)::appE new (eh ds env)) w)
    (k2:¬ p→J P f N R (adv n cs K) ((t,.bool false)::appE new (eh ds env)) w)
    (h:goF P N n K env w ((t,.bool (decide p))::new) ds (fun _ _=>())=some (adv n cs K,w,valsE ((t,.bool (decide p))::new),true,()):=by kernel_rfl):J P f N R K env w:=by
  by_cases hp:p
  · exact J.h n cs new ds t _ _ (congrArg Value.bool (decide_eq_true hp)) (k1 hp) h
  · exact J.h n cs new ds t _ _ (congrArg Value.bool (decide_eq_false hp)) (k2 hp) h

theorem J.cn (n:Nat) (cs:List Bool) (new:Env) (ds:List Nat) (t:Nat) (p:Prop) [Decidable p] (k1:p→J P f N R (adv n cs K) ((t,.bool false)::appE new (eh ds env)) w)
    (k2:¬ p→J P f N R (adv n cs K) ((t,.bool true)::appE new (eh ds env)) w)
    (h:goF P N n K env w ((t,.bool (!decide p))::new) ds (fun _ _=>())=some (adv n cs K,w,valsE ((t,.bool (!decide p))::new),true,()):=by kernel_rfl):J P f N R K env w:=by
  by_cases hp:p
  · exact J.h n cs new ds t _ _ (congrArg Value.bool (by simp[hp])) (k1 hp) h
  · exact J.h n cs new ds t _ _ (congrArg Value.bool (by simp[hp])) (k2 hp) h

theorem J.b (n:Nat) (cs:List Bool) (new:Env) (ds:List Nat) (t:Nat) (e:Bool) (k1:e=true→J P f N R (adv n cs K) ((t,.bool true)::appE new (eh ds env)) w)
    (k2:e=false→J P f N R (adv n cs K) ((t,.bool false)::appE new (eh ds env)) w)
    (h:goF P N n K env w ((t,.bool e)::new) ds (fun _ _=>())=some (adv n cs K,w,valsE ((t,.bool e)::new),true,()):=by kernel_rfl):J P f N R K env w:=by
  cases e with
  | true=>exact J.go h fun _ hs _=>(k1 rfl).less hs
  | false=>exact J.go h fun _ hs _=>(k2 rfl).less hs

theorem J.bn (n:Nat) (cs:List Bool) (new:Env) (ds:List Nat) (t:Nat) (e:Bool) (k1:e=true→J P f N R (adv n cs K) ((t,.bool false)::appE new (eh ds env)) w)
    (k2:e=false→J P f N R (adv n cs K) ((t,.bool true)::appE new (eh ds env)) w)
    (h:goF P N n K env w ((t,.bool (!e))::new) ds (fun _ _=>())=some (adv n cs K,w,valsE ((t,.bool (!e))::new),true,()):=by kernel_rfl):J P f N R K env w:=by
  cases e with
  | true=>exact J.go h fun _ hs _=>(k1 rfl).less hs
  | false=>exact J.go h fun _ hs _=>(k2 rfl).less hs

def ldB (P:Program) (N:Nat) (cs:List Value) (K:List Item) (env:Env):Option (Nat×Nat×Value) :=
  match ldAt N K env with
  | some (some d,t,⟨b,off,none⟩)=>(ldV P t off cs).map fun v=>(d,b,v)
  | _=>none

theorem J.lb {w0:World} {L:List Claim} (n:Nat) (cs:List Bool) (new:Env) (ds:List Nat) (S:Sep w0 L w) (i:Nat) {b:Nat} {vs:List Value} {T:TypeId} (hi:L[i]? =some (box b vs T)) (d:Nat) (v:Value)
    (k:J P f N R (eO (adv n cs K)) ((d,v)::appE new (eh ds env)) w)
    (h:goF P N n K env w new ds (ldB P N vs)=some (adv n cs K,w,valsE new,true,some (d,b,v)):=by kernel_rfl):J P f N R K env w:=by
  refine J.go h fun env2 hs hb=>?_
  unfold ldB at hb
  split at hb
  · rename_i d' t b' off hl
    obtain ⟨v',hv,he⟩:=Option.map_eq_some_iff.1 hb
    simp only[Prod.mk.injEq] at he
    obtain ⟨rfl,rfl,rfl⟩:=he
    exact J.ok (OK.ldBox S i d' t off v' hl hi hv) (k.less (less_cons hs _ _))
  · cases hb

theorem J.nw {w0:World} {L:List Claim} (n:Nat) (cs:List Bool) (new:Env) (ds:List Nat) (S:Sep w0 L w) (d:Nat) (vs:List Value) (T:TypeId)
    (k:∀ b w',Sep w0 (box b vs T::L) w'→J P f N R (eO (adv n cs K)) ((d,.pointer (some ⟨b,0,none⟩))::appE new (eh ds env)) w')
    (h:goF P N n K env w new ds (fun K e=>opRun P N K e w)=some (adv n cs K,w,valsE new,true,some (some d,.ok (.value (.pointer (some ⟨w.heap.size,0,none⟩))) (w.alloc (.cells vs.toArray T)))):=by kernel_rfl):J P f N R K env w:=by
  refine J.go h fun env2 hs hb=>?_
  exact J.new S d vs T hb fun b w' S'=>(k b w' S').less (less_cons hs _ _)

def stB (P:Program) (N:Nat) (cs:List Value) (K:List Item) (env:Env):Option (Nat×List Value) :=
  match stAt N K env with
  | some (none,t,⟨b,off,none⟩,v) =>
    match P.info? t with
    | some i=>bif Nat.beq i.size v.cells.size then (stV off v.cells.toList cs).map fun c=>(b,c) else none
    | none=>none
  | _=>none

theorem J.sb {w0:World} {L:List Claim} (n:Nat) (cs:List Bool) (new:Env) (ds:List Nat) (S:Sep w0 L w) (i:Nat) {b:Nat} {vs:List Value} {T:TypeId} (hi:L[i]? =some (box b vs T)) (vs':List Value) {L':List Claim} (hL:L.set i (box b vs' T)=L')
    (k:∀ w',Sep w0 L' w'→J P f N R (eO (adv n cs K)) (appE new (eh ds env)) w')
    (h:goF P N n K env w new ds (stB P N vs)=some (adv n cs K,w,valsE new,true,some (b,vs')):=by kernel_rfl):J P f N R K env w:=by
  refine J.go h fun env2 hs hb=>?_
  unfold stB at hb
  split at hb
  · rename_i t b' off v hst
    split at hb
    · rename_i inf hin
      generalize hbe:Nat.beq inf.size v.cells.size=bb at hb
      cases bb with
      | false=>cases hb
      | true =>
        simp only[cond_true] at hb
        obtain ⟨c,hv,he⟩:=Option.map_eq_some_iff.1 hb
        simp only[Prod.mk.injEq] at he
        obtain ⟨rfl,rfl⟩:=he
        exact J.stBox S i t off v c L' hst hi (by rw[hin];exact congrArg some (Nat.eq_of_beq_eq_true hbe)) hv hL fun w' S'=>(k w' S').less hs
    · cases hb
  · cases hb

theorem J.cf (n:Nat) (cs:List Bool) (new:Env) (ds:List Nat) (d:Nat) {g:FuncId} {args:Array Value} (hb:af P g) {Q:Value→World→Prop} (hc:Ret P g args w Q)
    (k:∀ v w',Q v w'→J P f N R (eO (adv n cs K)) ((d,v)::appE new (eh ds env)) w')
    (h:goF P N n K env w new ds (callAt N)=some (adv n cs K,w,valsE new,true,some (some d,g,args)):=by kernel_rfl):J P f N R K env w:=by
  refine J.go h fun env2 hs hq=>?_
  exact J.callF d g args hb hq hc fun v w' q=>(k v w' q).less (less_cons hs _ _)

theorem J.cs {w0:World} {L M:List Claim} (n:Nat) (cs:List Bool) (new:Env) (ds:List Nat) (S:Sep w0 L w) (d:Nat) {g:FuncId} {args:Array Value} (hb:af P g) {V:Value}
    (hc:Ret P g args w fun v w'=>v=V∧Sep w M w') (k:∀ w',Sep w0 (M++L) w'→J P f N R (eO (adv n cs K)) ((d,V)::appE new (eh ds env)) w')
    (h:goF P N n K env w new ds (callAt N)=some (adv n cs K,w,valsE new,true,some (some d,g,args)):=by kernel_rfl):J P f N R K env w:=by
  refine J.cf n cs new ds d hb hc (fun v w' q=>?_) h
  obtain ⟨rfl,T⟩:=q
  exact k w' (S.trans T)

theorem J.c0 {w0:World} {L:List Claim} (n:Nat) (cs:List Bool) (new:Env) (ds:List Nat) (S:Sep w0 L w) (d:Nat) {g:FuncId} {args:Array Value} (hb:af P g) {V:Value}
    (hc:Ret P g args w fun v w'=>v=V∧Sep w [] w') (k:∀ w',Sep w0 L w'→J P f N R (eO (adv n cs K)) ((d,V)::appE new (eh ds env)) w')
    (h:goF P N n K env w new ds (callAt N)=some (adv n cs K,w,valsE new,true,some (some d,g,args)):=by kernel_rfl):J P f N R K env w :=
  J.cs n cs new ds S d hb hc k h

def retB (fn:Func) (K:List Item) (env:Env):Option (List (Option Value)) :=
  match K with
  | [] | .code .ret::_=>some (fn.results.toList.map fun r=>match r with | .tmp t=>cT env t | _=>none)
  | _=>none

theorem resRun_tmps {env:Env}:∀ (rs:List ResultVar) (vs:List Value),(rs.map fun r=>match r with | .tmp t=>cT env t | _=>none)=vs.map some→resRun P env w rs vs
  | [],[],_=>trivial
  | [],_::_,h=>by cases h
  | _::_,[],h=>by cases h
  | .tmp t::rs,v::vs,h=>by
    simp only[List.map_cons,List.cons.injEq] at h
    exact⟨h.1,resRun_tmps rs vs h.2⟩
  | .cell p t::rs,v::vs,h=>by
    simp only[List.map_cons,List.cons.injEq] at h
    cases h.1

theorem J.e (n:Nat) (vs:List Value) {fn:Func} (hfn:P.funcs[f]? =some fn) (hR:R (tup vs) w)
    (h:((Eng.exec P N n K env w).map fun s=>(s.2.2,retB fn s.1 s.2.1))=some (w,some (vs.map some)):=by kernel_rfl):J P f N R K env w:=by
  intro a hf
  cases he:Eng.exec P N n K env w with
  | none=>rw[he] at h;cases h
  | some s =>
    obtain ⟨K2,env2,w2⟩:=s
    rw[he] at h
    simp only[Option.map_some,Option.some.injEq,Prod.mk.injEq] at h
    obtain ⟨rfl,hb⟩:=h
    refine Ja.exec n hf he fun a' hf'=>?_
    unfold retB at hb
    split at hb
    · exact J.done fn vs hfn (resRun_tmps _ _ (Option.some.inj hb)) hR a' hf'
    · exact J.ret fn vs hfn (resRun_tmps _ _ (Option.some.inj hb)) hR a' hf'
    · cases hb

def enumE:Nat→List Value→Env
  | _,[]=>[]
  | i,v::vs=>(i,v)::enumE (i+1) vs

theorem Ret.st {g:FuncId} {fn:Func} {args:Array Value} {Q:Value→World→Prop} (hf:P.funcs[g]? =some fn)
    (k:∀ R:Value→World→Prop,(∀ v w',Q v w'→R v w')→Sep w [] w→J P g N R (bi fn) (enumE 0 args.toList) w)
    (h:(fn.body.isSome,fn.ntmps,Nat.ble args.size N,((enumE 0 args.toList).map fun p=>args[p.1]?))=(true,N,true,(enumE 0 args.toList).map fun p=>some p.2):=by kernel_rfl):Ret P g args w Q:=by
  simp only[Prod.mk.injEq] at h
  obtain ⟨h1,h2,h3,h4⟩:=h
  refine Ret.named fun R hR=>?_
  cases hb:fn.body with
  | none=>rw[hb] at h1;cases h1
  | some c=>exact Ret.of_J _ hf hb h2 (Nat.le_of_ble_eq_true h3) h4 (k R hR (Sep.refl w))

theorem SL.r {n i:Nat} (d:Nat) (v:Value) (k:SL P f N R K n (i+1) ((d,v)::env) w) (hn:Nat.ble (i+1) n=true:=by kernel_rfl)
    (h:opRun P N (cz (bL K) i) env w=some (some d,.ok (.value v) w):=by kernel_rfl):SL P f N R K n i env w :=
  SL.ok (Nat.le_of_ble_eq_true hn) (OK.run d v h) k

theorem SL.p {n i:Nat} (d:Option Nat) (k:SL P f N R K n (i+1) (put env d undef) w) (hn:Nat.ble (i+1) n=true:=by kernel_rfl)
    (h:passAt N (bL K) i env=some d:=by kernel_rfl):SL P f N R K n i env w :=
  SL.pass (Nat.le_of_ble_eq_true hn) h k

theorem TL.r {i:Nat} (d:Nat) (v:Value) (k:TL P f N R K (i+1) ((d,v)::env) w)
    (h:opRun P N (cz (bL K) i) env w=some (some d,.ok (.value v) w):=by kernel_rfl):TL P f N R K i env w :=
  TL.ok (OK.run d v h) k

theorem SL.lb {w0:World} {L:List Claim} {n i:Nat} (S:Sep w0 L w) (j:Nat) {b:Nat} {vs:List Value} {T:TypeId} (hi:L[j]? =some (box b vs T)) (d:Nat) (v:Value)
    (k:SL P f N R K n (i+1) ((d,v)::env) w) (hn:Nat.ble (i+1) n=true:=by kernel_rfl)
    (h:ldB P N vs (cz (bL K) i) env=some (d,b,v):=by kernel_rfl):SL P f N R K n i env w:=by
  unfold ldB at h
  split at h
  · rename_i d' t b' off hl
    obtain ⟨v',hv,he⟩:=Option.map_eq_some_iff.1 h
    simp only[Prod.mk.injEq] at he
    obtain ⟨rfl,rfl,rfl⟩:=he
    exact SL.ok (Nat.le_of_ble_eq_true hn) (OK.ldBox S j d' t off v' hl hi hv) k
  · cases h
end
end Go.Eng
