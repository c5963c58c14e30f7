/- The proof engine, eighth part: slices of the call's own in general, slice expressions. Conditions: none; it is generic in the program. -/
import Derived.Test.YtaoolgcddapegaaGreatDoorZrEng4
import Derived.Laws.OwnMore
import Derived.Lib.AppendZeros
set_option linter.unusedSimpArgs false
set_option linter.unusedVariables false
namespace Go.Eng
open Go.RowKit
variable {P:Program} {f:FuncId} {N:Nat} {R:Value→World→Prop}

abbrev di {α:Type} (g:α→Value) (x:α):List Value:=[g x]

theorem flatMap_enc1 {α:Type} (g:α→Value) (l:List α):l.flatMap (di g)=l.map g:=by
  induction l with
  | nil=>rfl
  | cons x l ih=>simp[List.flatMap_cons,ih]

theorem en {α:Type} {enc:α→List Value} {w:World} {a:Option Addr} {cap:Nat} {e:TypeId} {size:Nat} {l:List α} (h:(am enc a cap e size l).holds w):Cells w a (l.flatMap enc)∧(a=none→l=[])∧l.length≤cap:=by
  obtain ⟨a',cap',he,hc,h1,_⟩:=row_cells h
  cases he
  refine⟨hc,fun hn=>?_,h1⟩
  subst hn
  have h':w.ownsRow 0 e size (.slice none l.length cap) l.length (l.flatMap enc):=h
  rcases h'.2 with ⟨h2,_⟩ | ⟨g,c,cur,h2,_⟩
  · simp only[Value.slice.injEq] at h2;exact List.eq_nil_of_length_eq_zero h2.2.1
  · simp at h2

theorem aB {α:Type} {enc:α→List Value} {w:World} {a:Option Addr} {cap:Nat} {e:TypeId} {size:Nat} {l:List α} (h:(am enc a cap e size l).holds w):l.length≤9223372036854775807:=by
  obtain ⟨a',cap',he,hc,h1,h2,_⟩:=row_cells h
  simp only[maxLen] at h2;omega

theorem aD {α:Type} {g:α→Value} {w:World} {a:Option Addr} {cap:Nat} {e:TypeId} {l:List α} (h:(am (di g) a cap e 1 l).holds w) (n:Nat) (hn:l.length=n):Ones g w a n l :=
  ⟨hn,by rw[← flatMap_enc1];exact(en h).1⟩

theorem ck {α:Type} {g:α→Value} {w:World} {a:Option Addr} {cap:Nat} {e:TypeId} {l:List α} (h:(am (di g) a cap e 1 l).holds w) (hl:0<l.length):∃ p,a=some p:=by
  cases a with
  | some p=>exact⟨p,rfl⟩
  | none=>have:=(en h).2.1 rfl;subst this;simp at hl

theorem cQ {α:Type} {g:α→Value} {w0 w:World} {L:List Claim} (S:Sep w0 L w) (j:Nat) {a:Option Addr} {cap:Nat} {e:TypeId} {l:List α} (hj:L[j]? =some (am (di g) a cap e 1 l)) {p:Addr} (hp:a=some p) (d:α) (i:Nat) (hi:i<l.length) :
    w.cell? (p.add i)=some (g (l.getD i d)):=by
  obtain ⟨p',hp',hc⟩:=(aD (S.nth j hj) _ rfl).at d i hi
  rw[hp] at hp';cases hp'
  exact hc

theorem Sep.setRow1 {α:Type} (g:α→Value) (hg1:∀ x,(g x).cells=#[g x]∧(g x).oneCell'=true) {w0 w:World} {L:List Claim} (S:Sep w0 L w) (j:Nat) {a:Option Addr} {cap:Nat} {e:TypeId} {l:List α} (hj:L[j]? =some (am (di g) a cap e 1 l)) (i:Nat) (hi:i<l.length) (x:α) {t:TypeId} {p:Addr} (hp:a=some p)
    (ht:(P.info? t).map (·.size)=some 1):∃ w',(storeVar t (p.add i) (g x)).run P w=.ok () w'∧Sep w0 (L.set j (am (di g) a cap e 1 (l.set i x))) w':=by
  have hown:w.ownsRow 0 e 1 (.slice a l.length cap) l.length (l.flatMap (di g)):=S.nth j hj
  rcases hown.2 with ⟨h0,h1⟩ | ⟨gb,cap',cur,he,_,hg,hnc,hcm,hcs,htake⟩
  · omega
  · simp only[Value.slice.injEq] at he
    obtain ⟨rfl,_,rfl⟩:=he
    cases hp
    have hadd:(⟨gb,0,none⟩:Addr).add i=⟨gb,i,none⟩:=by unfold Addr.add;split<;>simp_all
    have hsz:cur.size=cap:=by rw[hcs];omega
    have hst:=run_storeVar (P:=P) (w:=w) (t:=t) (T:=e) (b:=gb) (off:=i) (cs:=cur.toList) (cs':=cur.toList.take i++[g x]++cur.toList.drop (i+1)) (v:=g x) (by simpa using hg) (by simpa [(hg1 x).1] using ht) (by
      have hle:Nat.ble (i+1) cap=true:=(by rw[Nat.ble_eq];omega)
      simp[stV,(hg1 x).1,(hg1 x).2,hsz,hle])
    rw[hadd]
    refine⟨_,hst,?_⟩
    have hnew:(cur.toList.take i++[g x]++cur.toList.drop (i+1))=cur.toList.set i (g x):=by
      rw[List.set_eq_take_append_cons_drop,if_pos (by simp;omega)]
      simp
    refine S.set j hj (fun b hb=>.inl hb) rfl rfl rfl (by simp) (fun b _ hb=>heap_setRow_ne _ _ _ _ fun e=>hb (by rw[e];rfl)) ?_
    show(w.setRow gb _).ownsRow 0 e 1 (.slice (some ⟨gb,0,none⟩) (l.set i x).length cap) (l.set i x).length ((l.set i x).flatMap (di g))
    refine⟨by simp[flatMap_enc1],.inr ⟨gb,cap,_,by simp,Nat.zero_le _,setRow_heap w gb cur _ e (0,0) hg,by simpa using hnc,hcm,?_,?_⟩⟩
    · rw[hnew];simp[hsz]
    · rw[hnew]
      simp only[flatMap_enc1,List.length_set,Nat.mul_one] at htake ⊢
      rw[List.take_set,htake,List.map_set]

theorem eU (k:IntKind) (x:Int):(Value.int k x).cells=#[.int k x]∧(Value.int k x).oneCell'=true:=⟨rfl,rfl⟩
theorem bool_one (x:Bool):(Value.bool x).cells=#[.bool x]∧(Value.bool x).oneCell'=true:=⟨rfl,rfl⟩
theorem box_row {α:Type} (enc:α→List Value) {w0 w:World} {L:List Claim} (S:Sep w0 L w) (i:Nat) {b:Nat} {cs:List Value} {e:TypeId} (l:List α) (size:Nat) (hi:L[i]? =some (box b cs e)) (hc:l.flatMap enc=cs) (hs:cs.length=l.length*size) (hm:l.length≤maxLen) (hb:b<w.heap.size∨True) :
    Sep w0 (L.set i (am enc (some ⟨b,0,none⟩) l.length e size l)) w:=by
  have h:w.heap[b]? =some (.cells cs.toArray e (0,0)):=S.nth i hi
  refine S.set i hi (fun b' hb'=>.inl ?_) rfl rfl rfl (Nat.le_refl _) (fun _ _ _=>rfl) ?_
  · simpa [am,row,Value.ownBlock,eq_comm,box] using hb'
  · show w.ownsRow 0 e size (.slice (some ⟨b,0,none⟩) l.length l.length) l.length (l.flatMap enc)
    refine⟨by rw[hc,hs],.inr ⟨b,l.length,cs.toArray,rfl,Nat.zero_le _,h,Nat.le_refl _,hm,by simp[hs],?_⟩⟩
    rw[hc,List.take_of_length_le (by simp[hs])]

theorem run_append_none (w:World) (t ty e:TypeId) (i:TypeInfo) (ht:P.underlying t=some (.slice e)) (hi:P.info? e=some i) (eJ:Option Addr) (n cap:Nat) (hb:eJ=none→n*i.size=0) (hn:n≤cap) (c:Nat) :
    (Builtin.append_ #[t,t] ty #[.slice eJ n cap,.slice none 0 c]).run P w=.ok (.slice eJ n cap) w:=by
  cases eJ with
  | none=>simp[Builtin.append_,run_underlying ht,sizeOf,typeInfo,hi,Builtin.lenOf,Builtin.firstCells,hn]
  | some a=>simp[Builtin.append_,run_underlying ht,sizeOf,typeInfo,hi,Builtin.lenOf,Builtin.firstCells,hn,storeCells]

theorem set_self {α:Type} {L:List α} {j:Nat} {c:α} (h:L[j]? =some c):L.set j c=L:=by
  apply List.ext_getElem?
  intro i
  rw[List.getElem?_set]
  split
  · rename_i e;subst e
    rw[h,if_pos (List.getElem?_eq_some_iff.1 h).1]
  · rfl
theorem OK.appendL {α:Type} (enc:α→List Value) {w0 w:World} {L:List Claim} (S:Sep w0 L w) (j:Nat) {a:Option Addr} {cap:Nat} {e:TypeId} {size:Nat} (l ys:List α) {K:List Item} {env:Env} (d:Nat) (t:TypeId) (z:Value) (bytes:Nat) (x:Option Addr) (c:Nat)
    (hj:L[j]? =some (am enc a cap e size l)) (h:appAt N K env=some (some d,t,.slice a l.length cap,.slice x ys.length c)) (ht:P.underlying t=some (.slice e))
    (hinfo:(P.info? e).map (fun i=>(i.zero,i.size,i.bytes))=some (some z,size,bytes)) (hzs:z.cells.size=size) (hsz:0<size)
    (hnews:Cells w x (ys.flatMap enc)) (hx:x=none→ys=[]) (hl:∀ y,(enc y).length=size) (h1:∀ y,(enc y).all (·.oneCell')=true) (hb:(l.length+ys.length)*bytes≤140737488355328∧l.length+ys.length≤140737488355328)
    : ∃ a' cap' w',OK P N K env w (some d) (.slice a' (l++ys).length cap') w'∧Sep w0 (L.set j (am enc a' cap' e size (l++ys))) w':=by
  obtain ⟨i,hi,hzz⟩:=Option.map_eq_some_iff.1 hinfo
  simp only[Prod.mk.injEq] at hzz
  obtain ⟨hz,hsize,hby⟩:=hzz
  have hown:w.ownsRow 0 e size (.slice a l.length cap) l.length (l.flatMap enc):=S.nth j hj
  have hlen:∀ zs:List α,(zs.flatMap enc).length=zs.length*size:=by
    intro zs
    induction zs with
    | nil=>simp
    | cons y zs ih=>simp[List.flatMap_cons,ih,hl,Nat.add_mul];omega
  have hall:∀ u ∈ ys.flatMap enc,u.oneCell'=true:=by
    intro u hu
    obtain ⟨y,_,hy⟩:=List.mem_flatMap.1 hu
    have:=h1 y
    rw[List.all_eq_true] at this
    exact this u hy
  unfold appAt at h
  split at h
  · rename_i o ho
    split at h
    · rename_i args argTypes hop
      split at h
      · rename_i xo yo t1 t2 hargs hts
        split at h
        · rename_i htt
          subst htt
          simp only[Option.some.injEq,Prod.mk.injEq] at h
          obtain ⟨hd,rfl,hx',hy⟩:=h
          have ea:args=#[xo,yo]:=by rw[← hargs]
          have et:argTypes=#[t1,t1]:=by rw[← hts]
          subst ea et
          cases x with
          | none =>
            have hys:=hx rfl
            subst hys
            have hcl:=en (S.nth j hj)
            have hr:=run_append_none (P:=P) w t1 o.type e i ht hi a l.length cap (fun hn=>by have:=hcl.2.1 hn;subst this;simp) hcl.2.2 c
            have hS:Sep w0 (L.set j (am enc a cap e size (l++[]))) w:=by
              have:L.set j (am enc a cap e size (l++[]))=L:=by
                rw[List.append_nil]
                exact set_self hj
              rw[this];exact S
            refine⟨a,cap,w,⟨_,ho,hd,.inl ?_⟩,hS⟩
            unfold execOp
            simp only[List.length_nil] at hy
            simp[hop,resolve,invoke,builtin,hx',hy,hr,Result.andThen]
          | some ad =>
            have hn:∀ q u,(ys.flatMap enc)[q]? =some u→w.cell? (ad.add q)=some u:=fun q u hq=>by
              obtain ⟨p,hp,hc⟩:=hnews q u hq
              cases hp;exact hc
            obtain ⟨v',w',hr,ho',hg,hblk⟩:=run_append_row (P:=P) w t1 o.type e i z size bytes ht hi hz hsize hby hzs hsz _ _ _ hown ad ys.length c (ys.flatMap enc) (hlen ys) hn hall (by simp only[maxLen];omega) hb.1
            have hlen:(l++ys).length=l.length+ys.length:=by simp
            have hfm:l.flatMap enc++ys.flatMap enc=(l++ys).flatMap enc:=by simp
            rw[hfm,← hlen] at ho'
            obtain ⟨a',cap',rfl,_,_,_,_⟩:=row_cells (v:=v') (e:=e) (size:=size) (n:=(l++ys).length) (xs:=(l++ys).flatMap enc) (w:=w') ho'
            have hS:Sep w0 (L.set j (am enc a' cap' e size (l++ys))) w':=by
              refine S.set j hj (fun b hb'=>?_) hg.os hg.tape hg.output hg.size (fun b hb1 hb2=>hg.block b hb1 fun e=>hb2 e.symm) ho'
              rcases hblk b hb' with h2 | h2
              · exact .inl h2
              · exact .inr ⟨h2,(ho'.lt b hb').2⟩
            refine⟨a',cap',w',⟨_,ho,hd,.inl ?_⟩,hS⟩
            unfold execOp
            simp[hop,resolve,invoke,builtin,hx',hy,hr,Result.andThen]
        · cases h
      · cases h
    · cases h
  · cases h

theorem front_perm {α:Type} {c:α}:∀ (L:List α) (j:Nat),L[j]? =some c→(c::L.eraseIdx j).Perm L:=by
  intro L
  induction L with
  | nil=>intro j h;simp at h
  | cons x L ih =>
    intro j h
    cases j with
    | zero=>simp at h;subst h;simp
    | succ j =>
      rw[List.eraseIdx_cons_succ]
      exact(List.Perm.swap x c _).trans ((ih j (by simpa using h)).cons x)
theorem Sep.front {w0 w:World} {L:List Claim} (S:Sep w0 L w) (j:Nat) {c:Claim} (hj:L[j]? =some c):Sep w0 (c::L.eraseIdx j) w:=by
  have hlt:=(List.getElem?_eq_some_iff.1 hj).1
  have hc:=(List.getElem?_eq_some_iff.1 hj).2
  have hp:(c::L.eraseIdx j).Perm L:=by
    clear hlt hc S
    exact front_perm L j hj
  refine⟨S.below,fun d hd=>S.all d (hp.mem_iff.1 hd),fun d hd=>S.fresh d (hp.mem_iff.1 hd),?_⟩
  exact hp.symm.pairwise S.apart fun h b hb hb'=>h b hb' hb

theorem Sep.pick {w0 w:World} {L:List Claim} (S:Sep w0 L w) (j:Nat) {c:Claim} (hj:L[j]? =some c):Sep w0 [c] w :=
  (S.front j hj).sub (List.Sublist.cons_cons _ (List.nil_sublist _))

theorem dI {w w':World} {b:Nat} {cs:List Value} {T:TypeId} (h:(box b cs T).holds w) (S:Sep w [] w'):(box b cs T).holds w':=by
  have h':w.heap[b]? =some (.cells cs.toArray T (0,0)):=h
  exact(box b cs T).stable w w' (fun b' hb'=>S.below.block b' (by have e:b'=b:=hb';rw[e];exact(Array.getElem?_eq_some_iff.1 h').1)) h

theorem OK.ldRo {w0 w:World} {L:List Claim} (S:Sep w0 L w) {b:Nat} {cs:List Value} {T:TypeId} (hb:(box b cs T).holds w0) {K:List Item} {env:Env} (d:Nat) (t:TypeId) (off:Nat) (v:Value)
    (h:ldAt N K env=some (some d,t,⟨b,off,none⟩)) (hv:ldV P t off cs=some v):OK P N K env w (some d) v w :=
  OK.load v h (aT (dI hb S.nil) hv)

theorem aX {α:Type} {l:List α} {Q:α→Prop} (h:∀ y ∈ l,Q y) {n:Nat} (d:α) (hn:n<l.length):Q (l.getD n d):=by
  have:l.getD n d=l[n]:=by simp[List.getD,hn]
  rw[this];exact h _ (List.getElem_mem hn)

def bR {α:Type} (q:α→Bool) (l:List α):Int:=match l.findIdx? q with | some i=>i | none=> -1
theorem dq {α:Type} {q:α→Bool} {l:List α} (d:α) (i:Nat) (hi:i<l.length) (h1:∀ j,j<i→q (l.getD j d)=false) (h2:q (l.getD i d)=true):bR q l=i:=by
  unfold bR
  have:l.findIdx? q=some i:=by
    rw[List.findIdx?_eq_some_iff_getElem]
    refine⟨hi,by simpa [List.getD,hi] using h2,fun j hj=>?_⟩
    have:=h1 j hj
    simp[List.getD,show j<l.length by omega] at this
    simp[this]
  rw[this]
theorem dH {α:Type} {q:α→Bool} {l:List α} (d:α) (h1:∀ j,j<l.length→q (l.getD j d)=false):bR q l= -1:=by
  unfold bR
  have:l.findIdx? q=none:=by
    rw[List.findIdx?_eq_none_iff]
    intro x hx
    obtain ⟨j,hj,rfl⟩:=List.mem_iff_getElem.1 hx
    have:=h1 j hj
    simpa [List.getD,hj] using this
  rw[this]
theorem cV {α:Type} {q:α→Bool} {l:List α}:decide (bR q l≥0)=l.any q:=by
  unfold bR
  cases h:l.findIdx? q with
  | none =>
    rw[List.findIdx?_eq_none_iff] at h
    have:l.any q=false:=by rw[List.any_eq_false];intro x hx;simp[h x hx]
    rw[this];decide
  | some i =>
    rw[List.findIdx?_eq_some_iff_getElem] at h
    obtain ⟨hi,h2,_⟩:=h
    have:l.any q=true:=List.any_eq_true.2 ⟨_,List.getElem_mem hi,h2⟩
    rw[this];simp
theorem indexF_at {α:Type} {q:α→Bool} {l:List α} (d:α) (h:0≤bR q l):bR q l<(l.length:Int)∧q (l.getD (bR q l).toNat d)=true∧∀ j,j<(bR q l).toNat→q (l.getD j d)=false:=by
  unfold bR at h ⊢
  cases hx:l.findIdx? q with
  | none=>rw[hx] at h;exact absurd h dE
  | some i =>
    rw[List.findIdx?_eq_some_iff_getElem] at hx
    obtain ⟨hi,h2,h3⟩:=hx
    refine⟨by simpa using hi,by simpa [List.getD,hi] using h2,fun j hj=>?_⟩
    simp only[Int.toNat_natCast] at hj
    have:=h3 j hj
    simpa [List.getD,show j<l.length by omega] using this
theorem indexF_bounds {α:Type} (q:α→Bool) (l:List α): -1≤bR q l∧bR q l<(l.length:Int)∨bR q l= -1:=by
  by_cases h:0≤bR q l
  · exact .inl ⟨om,by
      unfold bR at h ⊢
      cases hx:l.findIdx? q with
      | none=>rw[hx] at h;exact absurd h dE
      | some i =>
        rw[List.findIdx?_eq_some_iff_getElem] at hx
        obtain ⟨hi,_⟩:=hx
        simpa using hi⟩
  · right
    unfold bR at h ⊢
    cases hx:l.findIdx? q with
    | none=>rfl
    | some i=>rw[hx] at h;exact absurd (show(0:Int)≤(i:Int) by omega) h

def slAt (N:Nat) (K:List Item) (env:Env):Option (Option Nat×TypeId×Value×Option Value×Option Value) :=
  match opAt N K env with
  | some o=>match o.op with
    | .slice t x lo hi none=>some (o.dst,t,ev env x,lo.map (ev env),hi.map (ev env))
    | _=>none
  | none=>none

def subA (a:Option Addr) (cap l size:Nat):Option Addr:=if cap=l then a else a.map (·.add (l*size))

theorem subA_zero (a:Option Addr) (cap size:Nat):subA a cap 0 size=a:=by
  unfold subA
  split
  · rfl
  · cases a<;>simp[Addr.add]

theorem OK.slice {K:List Item} {env:Env} {w:World} (d:Nat) (t:TypeId) (size:Nat) (a:Option Addr) (len cap:Nat) (lo hi:Option Value) (l r:Nat) (h:slAt N K env=some (some d,t,.slice a len cap,lo,hi)) (hs:elemSize P t=some size)
    (hlo:(lo=none∧l=0)∨∃ k i,lo=some (.int k i)∧i=(l:Int)) (hhi:(hi=none∧r=len)∨∃ k i,hi=some (.int k i)∧i=(r:Int)) (hlr:l≤r) (hrc:r≤cap) :
    OK P N K env w (some d) (.slice (subA a cap l size) (r-l) (cap-l)) w:=by
  unfold slAt at h
  split at h
  · rename_i o ho
    split at h
    · rename_i t' x lo' hi' hop
      simp only[Option.some.injEq,Prod.mk.injEq] at h
      obtain ⟨hd,rfl,hx,rfl,rfl⟩:=h
      unfold elemSize at hs
      split at hs
      · rename_i e hu
        obtain ⟨info,hinfo,hsz⟩:=Option.map_eq_some_iff.1 hs
        refine⟨o,ho,hd,.inl ?_⟩
        unfold execOp
        have key:(Instr.sliceBounds true len cap (lo'.map (ev env)) (hi'.map (ev env)) none).run P w=.ok (l,r,cap) w:=by
          unfold Instr.sliceBounds
          rcases hlo with ⟨e1,rfl⟩ | ⟨k1,i1,e1,rfl⟩<;>rcases hhi with ⟨e2,rfl⟩ | ⟨k2,i2,e2,rfl⟩
          · simp[e1,e2]
          · have h2:(0:Int)≤(r:Int)∧(r:Int)≤(cap:Int):=by omega
            simp[e1,e2,Instr.sliceBound,asIntOf,h2,hrc]
          · have h2:(0:Int)≤(l:Int)∧(l:Int)≤(r:Int):=by omega
            simp[e1,e2,Instr.sliceBound,asIntOf,h2,hlr]
          · have h2:(0:Int)≤(r:Int)∧(r:Int)≤(cap:Int):=by omega
            have h3:(0:Int)≤(l:Int)∧(l:Int)≤(r:Int):=by omega
            simp[e1,e2,Instr.sliceBound,asIntOf,h2,h3,hrc,hlr]
        have hsub:(if cap-l=0∧cap=l then a else a)=a:=by split<;>rfl
        simp only[hop,hx,Instr.sliceAt,Instr.slice,Sem.run_bind,run_underlying hu w,Result.andThen_ok,Option.map_none,key,run_sizeOf hinfo w,Sem.run_pure,hsz,subA]
      · cases hs
    · cases h
  · cases h

theorem Ones.take {α:Type} {g:α→Value} {w:World} {a:Option Addr} {len:Nat} {l:List α} (h:Ones g w a len l) (n:Nat) (hn:n≤len):Ones g w a n (l.take n):=by
  refine⟨by rw[List.length_take,h.len_eq];omega,fun j v hj=>h.cells j v ?_⟩
  rw[List.map_take,List.getElem?_take] at hj
  split at hj
  · exact hj
  · cases hj

theorem Recs.take {α:Type} {g:α→List Value} {s:Nat} {w:World} {a:Option Addr} {len:Nat} {l:List α} (h:Recs g s w a len l) (n:Nat) (hn:n≤len):Recs g s w a n (l.take n):=by
  refine⟨by rw[List.length_take,h.len_eq];omega,h.size,h.pos,fun j v hj=>h.cells j v ?_⟩
  have hsplit:l.flatMap g=(l.take n).flatMap g++(l.drop n).flatMap g:=by rw[← List.flatMap_append,List.take_append_drop]
  rw[hsplit,List.getElem?_append_left (List.getElem?_eq_some_iff.1 hj).1]
  exact hj

def pixAt (N:Nat) (K:List Item) (env:Env):Option (Option Nat×TypeId×Addr×Int) :=
  match opAt N K env with
  | some o=>match o.op with
    | .indexAddr t x y=>match ev env x,ev env y with
      | .pointer (some a),.int _ i=>some (o.dst,t,a,i)
      | _,_=>none
    | _=>none
  | none=>none

def arrOf (P:Program) (t:TypeId):Option (Nat×Nat) :=
  match P.underlying t with
  | some (.array n e)=>(P.info? e).map fun i=>(n,i.size)
  | _=>none

theorem OK.indexP {K:List Item} {env:Env} {w:World} (d:Nat) (t:TypeId) (n s b:Nat) (off:Nat) (i:Nat) (ii:Int) (h:pixAt N K env=some (some d,t,⟨b,off,none⟩,ii)) (hs:arrOf P t=some (n,s))
    (hi:ii=i) (hl:i<n):OK P N K env w (some d) (.pointer (some ⟨b,off+i*s,none⟩)) w:=by
  unfold pixAt at h
  split at h
  · rename_i o ho
    split at h
    · rename_i t' x y hop
      split at h
      · rename_i a kk i' hx hy
        simp only[Option.some.injEq,Prod.mk.injEq] at h
        obtain ⟨hd,rfl,rfl,rfl⟩:=h
        subst hi
        unfold arrOf at hs
        split at hs
        · rename_i m e hu
          obtain ⟨info,hinfo,hsz⟩:=Option.map_eq_some_iff.1 hs
          simp only[Prod.mk.injEq] at hsz
          obtain ⟨rfl,hsz⟩:=hsz
          refine⟨o,ho,hd,.inl ?_⟩
          unfold execOp
          have h0:(0:Int)≤(i:Int)∧(i:Int)<(m:Int):=⟨om,om⟩
          have hadd:(⟨b,off,none⟩:Addr).add (i*s)=⟨b,off+i*s,none⟩:=by unfold Addr.add;split<;>simp_all
          simp only[hop,hx,hy,Instr.indexAt,Instr.sureAddr,asIntOf,Sem.run_bind,Sem.run_pure,Result.andThen_ok,run_underlying hu w,h0,and_self,if_true,run_sizeOf hinfo w,Int.toNat_natCast,hsz,hadd]
        · cases hs
      · cases h
    · cases h
  · cases h

theorem OK.ldArr {α:Type} (g:α→Value) {w0 w:World} {L:List Claim} (S:Sep w0 L w) (j:Nat) {b:Nat} {l:List α} {T:TypeId} {K:List Item} {env:Env} (d:Nat) (t:TypeId) (i:Nat) (x:α)
    (h:ldAt N K env=some (some d,t,⟨b,i,none⟩)) (ht:(P.underlying t).map aggB=some false) (hj:L[j]? =some (box b (l.map g) T)) (hi:i<l.length):OK P N K env w (some d) (g (l.getD i x)) w:=by
  refine OK.ldCell d t _ _ h ht ?_
  have hb:w.heap[b]? =some (.cells (l.map g).toArray T (0,0)):=S.nth j hj
  simp[World.cell?,hb,List.getD,hi]

theorem cell_zero {w:World} {p:Addr} {v:Value} (h:w.cell? (p.add 0)=some v):w.cell? p=some v:=by
  have:p.add 0=p:=by simp[Addr.add]
  rwa [this] at h
end Go.Eng

namespace Go.Eng
open Go.RowKit
variable {P:Program} {f:FuncId} {N:Nat} {R:Value→World→Prop}

def nilAt (N:Nat) (K:List Item) (env:Env):Option (Option Nat×Bool×TypeId×Option Addr) :=
  match opAt N K env with
  | some o=>match o.op with
    | .binOp .eql t x y _=>match ev env x,ev env y with
      | .slice a _ _,.slice none _ _=>some (o.dst,true,t,a)
      | _,_=>none
    | .binOp .neq t x y _=>match ev env x,ev env y with
      | .slice a _ _,.slice none _ _=>some (o.dst,false,t,a)
      | _,_=>none
    | _=>none
  | none=>none

theorem run_nil {w:World} {t e:TypeId} {a:Option Addr} {n c m k:Nat} (hu:P.underlying t=some (.slice e)):(Op.equal t (.slice a n c) (.slice none m k)).run P w=.ok a.isNone w:=by
  unfold Op.equal Op.maxDepth Op.equalIn
  cases a<;>simp[run_underlying hu]

theorem OK.nilS {K:List Item} {env:Env} {w:World} (d:Nat) (pos:Bool) (t:TypeId) (a:Option Addr) (h:nilAt N K env=some (some d,pos,t,a)) (hs:(elemSize P t).isSome=true) (r:Bool) (hr:(a.isNone==pos)=r):OK P N K env w (some d) (.bool r) w:=by
  unfold nilAt at h
  have hu:∃ e,P.underlying t=some (.slice e):=by
    unfold elemSize at hs
    split at hs
    · rename_i e he;exact⟨e,he⟩
    · cases hs
  obtain ⟨e,hu⟩:=hu
  split at h
  · rename_i o ho
    split at h
    · rename_i t' x y t2 hop
      split at h
      · rename_i a' n c m k hx hy
        simp only[Option.some.injEq,Prod.mk.injEq] at h
        obtain ⟨hd,rfl,rfl,rfl⟩:=h
        refine⟨o,ho,hd,.inl ?_⟩
        unfold execOp
        have:=run_nil (P:=P) (w:=w) (a:=a') (n:=n) (c:=c) (m:=m) (k:=k) hu
        subst hr
        simp[hop,hx,hy,eqGuard,binOp,this]
      · cases h
    · rename_i t' x y t2 hop
      split at h
      · rename_i a' n c m k hx hy
        simp only[Option.some.injEq,Prod.mk.injEq] at h
        obtain ⟨hd,rfl,rfl,rfl⟩:=h
        refine⟨o,ho,hd,.inl ?_⟩
        unfold execOp
        have:=run_nil (P:=P) (w:=w) (a:=a') (n:=n) (c:=c) (m:=m) (k:=k) hu
        subst hr
        simp[hop,hx,hy,eqGuard,binOp,this]
      · cases h
    · cases h
  · cases h

theorem Ones.nil {α:Type} {g:α→Value} {w:World} {len:Nat} {l:List α} (h:Ones g w none len l):l=[]:=by
  cases l with
  | nil=>rfl
  | cons x l =>
    obtain ⟨p,hp,_⟩:=h.cells 0 (g x) (by simp)
    cases hp

theorem Ones.enc {α:Type} {g:α→Value} {w:World} {a:Option Addr} {len:Nat} {l:List α} (h:Ones g w a len l):Cells w a (l.flatMap (di g)):=by
  rw[flatMap_enc1];exact h.cells

theorem made_replicate {α:Type} {enc:α→List Value} {x0:α} {z:Value} (hz:z.cells.toList=enc x0) (n:Nat):(madeCells z.cells (n*z.cells.size)).toList=(List.replicate n x0).flatMap enc:=by
  apply List.ext_getElem?
  intro i
  have hlen:((List.replicate n x0).flatMap enc).length=n*z.cells.size:=by
    induction n with
    | zero=>simp
    | succ n ih=>rw[List.replicate_succ,List.flatMap_cons,List.length_append,ih,← hz,Array.length_toList,Nat.add_mul];omega
  by_cases hi:i<n*z.cells.size
  · have hs:0<z.cells.size:=by
      rcases Nat.eq_zero_or_pos z.cells.size with h | h
      · rw[h] at hi;simp at hi
      · exact h
    have key:∀ (n i:Nat),i<n*z.cells.size→((List.replicate n x0).flatMap enc)[i]? =(enc x0)[i%z.cells.size]? :=by
      intro n
      induction n with
      | zero=>intro i hi;simp at hi
      | succ n ih =>
        intro i hi
        rw[List.replicate_succ,List.flatMap_cons]
        by_cases h:i<z.cells.size
        · rw[List.getElem?_append_left (by rw[← hz];simpa using h),Nat.mod_eq_of_lt h]
        · rw[List.getElem?_append_right (by rw[← hz];simp;omega),← hz,Array.length_toList,ih _ (by rw[Nat.add_mul] at hi;omega),← hz,← Nat.mod_eq_sub_mod om]
    rw[key n i hi,← hz]
    have hm:i%z.cells.size<z.cells.size:=Nat.mod_lt _ hs
    simp[madeCells,hi,hm]
  · rw[List.getElem?_eq_none (by simp[madeCells];omega),List.getElem?_eq_none om]

def mkAt (N:Nat) (K:List Item) (env:Env):Option (Option Nat×TypeId×Int×Int) :=
  match opAt N K env with
  | some o=>match o.op with
    | .makeSlice t x y=>match ev env x,ev env y with
      | .int _ n,.int _ m=>some (o.dst,t,n,m)
      | _,_=>none
    | _=>none
  | none=>none

theorem OK.make {α:Type} (enc:α→List Value) (x0:α) {w0 w:World} {L:List Claim} (S:Sep w0 L w) {K:List Item} {env:Env} (d:Nat) (t e:TypeId) (size:Nat) (ii jj:Int) (n:Nat) (z:Value) (bytes:Nat) (h:mkAt N K env=some (some d,t,ii,jj)) (hn:ii=n) (hm:jj=n) (ht:P.underlying t=some (.slice e))
    (hinfo:(P.info? e).map (fun i=>(i.zero,i.size,i.bytes))=some (some z,size,bytes)) (hzs:z.cells.size=size) (hz:z.cells.toList=enc x0) (hb:bytes*n≤281474976710656∧n≤9223372036854775807)
    : ∃ b w',OK P N K env w (some d) (.slice (some ⟨b,0,none⟩) (List.replicate n x0).length n) w'∧Sep w0 (am enc (some ⟨b,0,none⟩) n e size (List.replicate n x0)::L) w':=by
  obtain ⟨i,hi,hzz⟩:=Option.map_eq_some_iff.1 hinfo
  simp only[Prod.mk.injEq] at hzz
  obtain ⟨hz1,hsize,hby⟩:=hzz
  unfold mkAt at h
  split at h
  · rename_i o ho
    split at h
    · rename_i t' x y hop
      split at h
      · rename_i kl a kc b hx hy
        · subst hn hm
          simp only[Option.some.injEq,Prod.mk.injEq] at h
          obtain ⟨hd,rfl,rfl,rfl⟩:=h
          obtain ⟨w',hr,hown,hg⟩:=run_make_full (P:=P) w w.heap.size t' e i z size ht hi hz1 hsize kl kc n (by rw[hby];exact hb.1) (by simp only[maxLen];omega) (Nat.le_refl _)
          have hcells:(madeCells z.cells (n*size)).toList=(List.replicate n x0).flatMap enc:=by rw[← hzs];exact made_replicate hz n
          rw[hcells] at hown
          have hlen:(List.replicate n x0).length=n:=by simp
          have hS:Sep w0 (am enc (some ⟨w.heap.size,0,none⟩) n e size (List.replicate n x0)::L) w':=by
            have h1:Sep w [am enc (some ⟨w.heap.size,0,none⟩) n e size (List.replicate n x0)] w':=by
              refine⟨⟨hg.os,hg.tape,hg.output,hg.size,fun b hb=>hg.block b hb (by simp)⟩,fun c hc=>?_,fun c hc b hb=>?_,by simp⟩
              · simp only[List.mem_singleton] at hc;subst hc
                show w'.ownsRow 0 e size (.slice _ (List.replicate n x0).length n) (List.replicate n x0).length _
                rw[hlen]
                refine⟨hown.1,?_⟩
                rcases hown.2 with h2 | ⟨g,cap,cur,h3,_,h4⟩
                · exact .inl h2
                · exact .inr ⟨g,cap,cur,h3,Nat.zero_le _,h4⟩
              · simp only[List.mem_singleton] at hc;subst hc
                have hb':b=w.heap.size:=by
                  have:Value.ownBlock (.slice (some ⟨w.heap.size,0,none⟩) (List.replicate n x0).length n)=some b:=hb
                  simpa [Value.ownBlock,eq_comm] using this
                subst hb'
                have h5:=hown.lt w.heap.size (by simp[Value.ownBlock])
                exact⟨Nat.le_refl _,h5.2⟩
            exact S.trans h1
          refine⟨_,w',?_,hS⟩
          rw[hlen]
          refine⟨_,ho,hd,.inl ?_⟩
          unfold execOp
          simp[hop,hx,hy,hr,Result.andThen]
      · cases h
    · cases h
  · cases h

def appzAt (P:Program) (N:Nat) (K:List Item) (env:Env):Option (Option Nat×TypeId×TypeId×IntKind×Int) :=
  match opAt N K env with
  | some o=>match o.op with
    | .call { callee:=.builtin .append,args,argTypes } =>
      match args.toList,argTypes.toList with
      | [x,y],[t,t']=>match ev env x,ev env y with
        | .slice none 0 0,.int k n=>some (o.dst,t,t',k,n)
        | _,_=>none
      | _,_=>none
    | _=>none
  | none=>none

theorem zero_replicate {α:Type} {enc:α→List Value} {x0:α} {z:Value} (hz:z.cells.toList=enc x0) (n:Nat):(Builtin.zeroCells z.cells n).toList=(List.replicate n x0).flatMap enc:=by
  rw[← made_replicate hz n]
  rfl

theorem OK.appz {α:Type} (enc:α→List Value) (x0:α) {w0 w:World} {L:List Claim} (S:Sep w0 L w) {K:List Item} {env:Env} (d:Nat) (t t' e:TypeId) (size:Nat) (kk kn:IntKind) (ii:Int) (n:Nat) (z:Value) (bytes:Nat) (h:appzAt P N K env=some (some d,t,t',kk,ii)) (hn:ii=n) (h0:0<n) (ht:P.underlying t=some (.slice e)) (ht':P.underlying t'=some (.int kn))
    (hinfo:(P.info? e).map (fun i=>(i.zero,i.size,i.bytes))=some (some z,size,bytes)) (hzs:z.cells.size=size) (hsz:0<size) (hz:z.cells.toList=enc x0) (hb:n*bytes≤140737488355328∧n≤140737488355328)
    : ∃ b cap w',OK P N K env w (some d) (.slice (some ⟨b,0,none⟩) (List.replicate n x0).length cap) w'∧Sep w0 (am enc (some ⟨b,0,none⟩) cap e size (List.replicate n x0)::L) w':=by
  obtain ⟨i,hi,hzz⟩:=Option.map_eq_some_iff.1 hinfo
  simp only[Prod.mk.injEq] at hzz
  obtain ⟨hz1,hsize,hby⟩:=hzz
  subst hn
  unfold appzAt at h
  split at h
  · rename_i o ho
    split at h
    · rename_i args argTypes hop
      split at h
      · rename_i xo yo t1 t2 hargs hts
        split at h
        · rename_i k1 n1 hx hy
          simp only[Option.some.injEq,Prod.mk.injEq] at h
          obtain ⟨hd,rfl,rfl,rfl,rfl⟩:=h
          have hr:=Lib.run_append_nil_zeros (P:=P) w t1 t2 o.type e i z k1 kn ht ht' hi hz1 n h0 (by rw[hsize];exact hsz) om (by rw[hby];omega)
          have hlen:(List.replicate n x0).length=n:=by simp
          have hcap:n≤grownCap w n 0 e∧grownCap w n 0 e≤maxLen:=⟨grownCap_ge w n 0 e,grownCap_le_maxLen w n 0 e (by simp only[maxLen];omega)⟩
          have hS:Sep w0 (am enc (some ⟨w.heap.size,0,none⟩) (grownCap w n 0 e) e size (List.replicate n x0)::L) (w.drew.alloc (.cells (Builtin.zeroCells z.cells n++Builtin.zeroCells z.cells (grownCap w n 0 e-n)) e)):=by
            have hz1':(Builtin.zeroCells z.cells n).size=n*size:=by simp[Builtin.zeroCells,hzs]
            have hz2:(Builtin.zeroCells z.cells (grownCap w n 0 e-n)).size=(grownCap w n 0 e-n)*size:=by simp[Builtin.zeroCells,hzs]
            have h1:Sep w [am enc (some ⟨w.heap.size,0,none⟩) (grownCap w n 0 e) e size (List.replicate n x0)] (w.drew.alloc (.cells (Builtin.zeroCells z.cells n++Builtin.zeroCells z.cells (grownCap w n 0 e-n)) e)):=by
              refine⟨((Below.refl _ w).drew).alloc (Nat.le_refl _) _,fun c hc=>?_,fun c hc b hb=>?_,by simp⟩
              · simp only[List.mem_singleton] at hc;subst hc
                show World.ownsRow _ 0 e size (.slice _ (List.replicate n x0).length _) (List.replicate n x0).length _
                rw[hlen]
                refine⟨?_,.inr ⟨w.heap.size,grownCap w n 0 e,_,rfl,Nat.zero_le _,heap_alloc_new w.drew _,hcap.1,hcap.2,?_,?_⟩⟩
                · rw[← zero_replicate hz,Array.length_toList,hz1']
                · rw[Array.size_append,hz1',hz2,← Nat.add_mul];congr 1;omega
                · rw[← zero_replicate hz,Array.toList_append,List.take_append_of_le_length (by rw[Array.length_toList,hz1'];exact Nat.le_refl _),List.take_of_length_le (by rw[Array.length_toList,hz1'];exact Nat.le_refl _)]
              · simp only[List.mem_singleton] at hc;subst hc
                have hb':b=w.heap.size:=by
                  have:Value.ownBlock (.slice (some ⟨w.heap.size,0,none⟩) (List.replicate n x0).length (grownCap w n 0 e))=some b:=hb
                  simpa [Value.ownBlock,eq_comm] using this
                subst hb'
                refine⟨Nat.le_refl _,?_⟩
                have:(w.drew.alloc (.cells (Builtin.zeroCells z.cells n++Builtin.zeroCells z.cells (grownCap w n 0 e-n)) e)).heap.size=w.heap.size+1:=by simp
                omega
            exact S.trans h1
          refine⟨_,_,_,?_,hS⟩
          rw[hlen]
          refine⟨_,ho,hd,.inl ?_⟩
          have ea:args=#[xo,yo]:=by rw[← hargs]
          have et:argTypes=#[t1,t2]:=by rw[← hts]
          subst ea et
          unfold execOp
          simp[hop,resolve,invoke,builtin,hx,hy,hr,Result.andThen]
        · cases h
      · cases h
    · cases h
  · cases h

theorem Sep.cut {α:Type} {enc:α→List Value} {w0 w:World} {L:List Claim} (S:Sep w0 L w) (j:Nat) {a:Option Addr} {cap:Nat} {e:TypeId} {size:Nat} {l:List α} (hj:L[j]? =some (am enc a cap e size l)) (hs:∀ x,(enc x).length=size) (r:Nat) (hr:r≤l.length) :
    Sep w0 (L.set j (am enc a cap e size (l.take r))) w:=by
  have hown:w.ownsRow 0 e size (.slice a l.length cap) l.length (l.flatMap enc):=S.nth j hj
  have hlen:∀ zs:List α,(zs.flatMap enc).length=zs.length*size:=by
    intro zs
    induction zs with
    | nil=>simp
    | cons y zs ih=>simp[List.flatMap_cons,ih,hs,Nat.add_mul];omega
  have hl:(l.take r).length=r:=by rw[List.length_take];omega
  refine S.set j hj (fun b hb=>.inl ?_) rfl rfl rfl (Nat.le_refl _) (fun _ _ _=>rfl) ?_
  · have hb':Value.ownBlock (.slice a (l.take r).length cap)=some b:=hb
    show Value.ownBlock (.slice a l.length cap)=some b
    cases a with
    | none=>simp[Value.ownBlock] at hb'
    | some p=>simpa [Value.ownBlock] using hb'
  · show w.ownsRow 0 e size (.slice a (l.take r).length cap) (l.take r).length ((l.take r).flatMap enc)
    rw[hl]
    refine⟨by rw[hlen,hl],?_⟩
    rcases hown.2 with ⟨h1,h2⟩ | ⟨g,cap',cur,h3,h4,h5,h6,h7,h8,h9⟩
    · left
      simp only[Value.slice.injEq] at h1
      obtain ⟨rfl,h10,rfl⟩:=h1
      have:r=0:=by omega
      subst this
      exact⟨rfl,by simp⟩
    · right
      simp only[Value.slice.injEq] at h3
      obtain ⟨rfl,_,rfl⟩:=h3
      refine⟨g,cap,cur,rfl,h4,h5,om,h7,h8,?_⟩
      have hsplit:l.flatMap enc=(l.take r).flatMap enc++(l.drop r).flatMap enc:=by rw[← List.flatMap_append,List.take_append_drop]
      have h10:r*size≤l.length*size:=Nat.mul_le_mul_right _ hr
      have:cur.toList.take (r*size)=(cur.toList.take (l.length*size)).take (r*size):=by rw[List.take_take,Nat.min_eq_left h10]
      rw[this,h9,hsplit,List.take_append_of_le_length (by rw[hlen,hl];exact Nat.le_refl _),List.take_of_length_le (by rw[hlen,hl];exact Nat.le_refl _)]

theorem Sep.two {w0 w:World} {L:List Claim} (S:Sep w0 L w) (i j:Nat) {c d:Claim} (hi:L[i]? =some c) (hj:(c::L.eraseIdx i)[j]? =some d) (hne:j≠0):Sep w0 [d,c] w:=by
  have S2:=(S.front i hi).front j hj
  cases j with
  | zero=>exact absurd rfl hne
  | succ j =>
    rw[List.eraseIdx_cons_succ] at S2
    exact S2.sub (List.Sublist.cons_cons _ (List.Sublist.cons_cons _ (List.nil_sublist _)))


theorem J.newSlice {w0 w:World} {L:List Claim} (S:Sep w0 L w) (d n:Nat) (cs:List Value) (T:TypeId) {K:List Item} {env:Env}
    (h:opRun P N K env w=some (some d,.ok (.value (.slice (some ⟨w.heap.size,0,none⟩) n n)) (w.alloc (.cells cs.toArray T))))
    (k:∀ b w',Sep w0 (box b cs T::L) w'→J P f N R (eX K) ((d,.slice (some ⟨b,0,none⟩) n n)::env) w'):J P f N R K env w:=by
  obtain ⟨o,ho,hd,hr⟩:=cR h
  exact J.ok ⟨o,ho,hd,.inl hr⟩ (k _ _ (S.alloc cs T))

theorem J.append {α:Type} (enc:α→List Value) {w0 w:World} {L:List Claim} (S:Sep w0 L w) (j:Nat) {a:Option Addr} {cap:Nat} {e:TypeId} {size:Nat} (l:List α) (x:α) {K:List Item} {env:Env} (d:Nat) (t:TypeId) (z:Value) (bytes:Nat) (ad:Addr) (c:Nat)
    (hj:L[j]? =some (am enc a cap e size l)) (h:appAt N K env=some (some d,t,.slice a l.length cap,.slice (some ad) 1 c)) (ht:P.underlying t=some (.slice e))
    (hinfo:(P.info? e).map (fun i=>(i.zero,i.size,i.bytes))=some (some z,size,bytes)) (hzs:z.cells.size=size) (hsz:0<size)
    (hnews:Cells w (some ad) (enc x)) (hl:(enc x).length=size) (h1:(enc x).all (·.oneCell')=true) (hb:(l.length+1)*bytes≤140737488355328∧l.length<140737488355328)
    (k:∀ a' cap' w',Sep w0 (L.set j (am enc a' cap' e size (l++[x]))) w'→J P f N R (eX K) ((d,.slice a' (l++[x]).length cap')::env) w'):J P f N R K env w:=by
  obtain ⟨a',cap',w',hok,hS⟩:=OK.append enc S j l x d t z bytes ad c hj h ht hinfo hzs hsz hnews hl h1 hb
  exact J.ok hok (k a' cap' w' hS)

theorem J.appendN {α:Type} (enc:α→List Value) {w0 w:World} {L:List Claim} (S:Sep w0 L w) (j:Nat) {a:Option Addr} {cap:Nat} {e:TypeId} {size:Nat} (l ys:List α) (n:Nat) (hn:ys.length=n) {K:List Item} {env:Env} (d:Nat) (t:TypeId) (z:Value) (bytes:Nat) (x:Option Addr) (c:Nat)
    (hj:L[j]? =some (am enc a cap e size l)) (h:appAt N K env=some (some d,t,.slice a l.length cap,.slice x n c)) (ht:P.underlying t=some (.slice e))
    (hinfo:(P.info? e).map (fun i=>(i.zero,i.size,i.bytes))=some (some z,size,bytes)) (hzs:z.cells.size=size) (hsz:0<size)
    (hnews:Cells w x (ys.flatMap enc)) (hx:x=none→ys=[]) (hl:∀ y,(enc y).length=size) (h1:∀ y,(enc y).all (·.oneCell')=true) (hb:(l.length+ys.length)*bytes≤140737488355328∧l.length+ys.length≤140737488355328)
    (k:∀ a' cap' w',Sep w0 (L.set j (am enc a' cap' e size (l++ys))) w'→J P f N R (eX K) ((d,.slice a' (l++ys).length cap')::env) w'):J P f N R K env w:=by
  subst hn
  obtain ⟨a',cap',w',hok,hS⟩:=OK.appendL enc S j l ys d t z bytes x c hj h ht hinfo hzs hsz hnews hx hl h1 hb
  exact J.ok hok (k a' cap' w' hS)

theorem J.make {α:Type} (enc:α→List Value) (x0:α) {w0 w:World} {L:List Claim} (S:Sep w0 L w) {K:List Item} {env:Env} (d:Nat) (t e:TypeId) (size:Nat) (ii jj:Int) (n:Nat) (z:Value) (bytes:Nat) (h:mkAt N K env=some (some d,t,ii,jj)) (hn:ii=n) (hm:jj=n) (ht:P.underlying t=some (.slice e))
    (hinfo:(P.info? e).map (fun i=>(i.zero,i.size,i.bytes))=some (some z,size,bytes)) (hzs:z.cells.size=size) (hz:z.cells.toList=enc x0) (hb:bytes*n≤281474976710656∧n≤9223372036854775807)
    (k:∀ b w',Sep w0 (am enc (some ⟨b,0,none⟩) n e size (List.replicate n x0)::L) w'→J P f N R (eX K) ((d,.slice (some ⟨b,0,none⟩) (List.replicate n x0).length n)::env) w'):J P f N R K env w:=by
  obtain ⟨b,w',hok,hS⟩:=OK.make enc x0 S d t e size ii jj n z bytes h hn hm ht hinfo hzs hz hb
  exact J.ok hok (k b w' hS)

theorem J.appz {α:Type} (enc:α→List Value) (x0:α) {w0 w:World} {L:List Claim} (S:Sep w0 L w) {K:List Item} {env:Env} (d:Nat) (t t' e:TypeId) (size:Nat) (kk kn:IntKind) (ii:Int) (n:Nat) (z:Value) (bytes:Nat) (h:appzAt P N K env=some (some d,t,t',kk,ii)) (hn:ii=n) (h0:0<n) (ht:P.underlying t=some (.slice e)) (ht':P.underlying t'=some (.int kn))
    (hinfo:(P.info? e).map (fun i=>(i.zero,i.size,i.bytes))=some (some z,size,bytes)) (hzs:z.cells.size=size) (hsz:0<size) (hz:z.cells.toList=enc x0) (hb:n*bytes≤140737488355328∧n≤140737488355328)
    (k:∀ b cap w',Sep w0 (am enc (some ⟨b,0,none⟩) cap e size (List.replicate n x0)::L) w'→J P f N R (eX K) ((d,.slice (some ⟨b,0,none⟩) (List.replicate n x0).length cap)::env) w'):J P f N R K env w:=by
  obtain ⟨b,cap,w',hok,hS⟩:=OK.appz enc x0 S d t t' e size kk kn ii n z bytes h hn h0 ht ht' hinfo hzs hsz hz hb
  exact J.ok hok (k b cap w' hS)

theorem J.stRow1 {α:Type} (g:α→Value) (hg1:∀ x,(g x).cells=#[g x]∧(g x).oneCell'=true) {w0 w:World} {L:List Claim} (S:Sep w0 L w) (j:Nat) {a:Option Addr} {cap:Nat} {e:TypeId} (l:List α) {K:List Item} {env:Env} (t:TypeId) (p:Addr) (i:Nat) (x:α) (hj:L[j]? =some (am (di g) a cap e 1 l))
    (h:stAt N K env=some (none,t,p.add i,g x)) (hp:a=some p) (hi:i<l.length) (ht:(P.info? t).map (·.size)=some 1)
    (k:∀ w',Sep w0 (L.set j (am (di g) a cap e 1 (l.set i x))) w'→J P f N R (eX K) env w'):J P f N R K env w:=by
  obtain ⟨w',hr,hS⟩:=S.setRow1 (P:=P) g hg1 j hj i hi x hp ht
  exact J.ok (OK.store w' h hr) (k w' hS)

theorem TL.newSlice {w0 w:World} {L:List Claim} (S:Sep w0 L w) (d n:Nat) (cs:List Value) (T:TypeId) {K:List Item} {q:Nat} {env:Env}
    (h:opRun P N (cC (bV K) q) env w=some (some d,.ok (.value (.slice (some ⟨w.heap.size,0,none⟩) n n)) (w.alloc (.cells cs.toArray T))))
    (k:∀ b w',Sep w0 (box b cs T::L) w'→TL P f N R K (q+1) ((d,.slice (some ⟨b,0,none⟩) n n)::env) w'):TL P f N R K q env w:=by
  obtain ⟨o,ho,hd,hr⟩:=cR h
  exact TL.ok ⟨o,ho,hd,.inl hr⟩ (k _ _ (S.alloc cs T))

theorem TL.append {α:Type} (enc:α→List Value) {w0 w:World} {L:List Claim} (S:Sep w0 L w) (j:Nat) {a:Option Addr} {cap:Nat} {e:TypeId} {size:Nat} (l:List α) (x:α) {K:List Item} {q:Nat} {env:Env} (d:Nat) (t:TypeId) (z:Value) (bytes:Nat) (ad:Addr) (c:Nat)
    (hj:L[j]? =some (am enc a cap e size l)) (h:appAt N (cC (bV K) q) env=some (some d,t,.slice a l.length cap,.slice (some ad) 1 c)) (ht:P.underlying t=some (.slice e))
    (hinfo:(P.info? e).map (fun i=>(i.zero,i.size,i.bytes))=some (some z,size,bytes)) (hzs:z.cells.size=size) (hsz:0<size)
    (hnews:Cells w (some ad) (enc x)) (hl:(enc x).length=size) (h1:(enc x).all (·.oneCell')=true) (hb:(l.length+1)*bytes≤140737488355328∧l.length<140737488355328)
    (k:∀ a' cap' w',Sep w0 (L.set j (am enc a' cap' e size (l++[x]))) w'→TL P f N R K (q+1) ((d,.slice a' (l++[x]).length cap')::env) w'):TL P f N R K q env w:=by
  obtain ⟨a',cap',w',hok,hS⟩:=OK.append enc S j l x d t z bytes ad c hj h ht hinfo hzs hsz hnews hl h1 hb
  exact TL.ok hok (k a' cap' w' hS)

theorem TL.appendN {α:Type} (enc:α→List Value) {w0 w:World} {L:List Claim} (S:Sep w0 L w) (j:Nat) {a:Option Addr} {cap:Nat} {e:TypeId} {size:Nat} (l ys:List α) (n:Nat) (hn:ys.length=n) {K:List Item} {q:Nat} {env:Env} (d:Nat) (t:TypeId) (z:Value) (bytes:Nat) (x:Option Addr) (c:Nat)
    (hj:L[j]? =some (am enc a cap e size l)) (h:appAt N (cC (bV K) q) env=some (some d,t,.slice a l.length cap,.slice x n c)) (ht:P.underlying t=some (.slice e))
    (hinfo:(P.info? e).map (fun i=>(i.zero,i.size,i.bytes))=some (some z,size,bytes)) (hzs:z.cells.size=size) (hsz:0<size)
    (hnews:Cells w x (ys.flatMap enc)) (hx:x=none→ys=[]) (hl:∀ y,(enc y).length=size) (h1:∀ y,(enc y).all (·.oneCell')=true) (hb:(l.length+ys.length)*bytes≤140737488355328∧l.length+ys.length≤140737488355328)
    (k:∀ a' cap' w',Sep w0 (L.set j (am enc a' cap' e size (l++ys))) w'→TL P f N R K (q+1) ((d,.slice a' (l++ys).length cap')::env) w'):TL P f N R K q env w:=by
  subst hn
  obtain ⟨a',cap',w',hok,hS⟩:=OK.appendL enc S j l ys d t z bytes x c hj h ht hinfo hzs hsz hnews hx hl h1 hb
  exact TL.ok hok (k a' cap' w' hS)

theorem TL.make {α:Type} (enc:α→List Value) (x0:α) {w0 w:World} {L:List Claim} (S:Sep w0 L w) {K:List Item} {q:Nat} {env:Env} (d:Nat) (t e:TypeId) (size:Nat) (ii jj:Int) (n:Nat) (z:Value) (bytes:Nat) (h:mkAt N (cC (bV K) q) env=some (some d,t,ii,jj)) (hn:ii=n) (hm:jj=n) (ht:P.underlying t=some (.slice e))
    (hinfo:(P.info? e).map (fun i=>(i.zero,i.size,i.bytes))=some (some z,size,bytes)) (hzs:z.cells.size=size) (hz:z.cells.toList=enc x0) (hb:bytes*n≤281474976710656∧n≤9223372036854775807)
    (k:∀ b w',Sep w0 (am enc (some ⟨b,0,none⟩) n e size (List.replicate n x0)::L) w'→TL P f N R K (q+1) ((d,.slice (some ⟨b,0,none⟩) (List.replicate n x0).length n)::env) w'):TL P f N R K q env w:=by
  obtain ⟨b,w',hok,hS⟩:=OK.make enc x0 S d t e size ii jj n z bytes h hn hm ht hinfo hzs hz hb
  exact TL.ok hok (k b w' hS)

theorem TL.appz {α:Type} (enc:α→List Value) (x0:α) {w0 w:World} {L:List Claim} (S:Sep w0 L w) {K:List Item} {q:Nat} {env:Env} (d:Nat) (t t' e:TypeId) (size:Nat) (kk kn:IntKind) (ii:Int) (n:Nat) (z:Value) (bytes:Nat) (h:appzAt P N (cC (bV K) q) env=some (some d,t,t',kk,ii)) (hn:ii=n) (h0:0<n) (ht:P.underlying t=some (.slice e)) (ht':P.underlying t'=some (.int kn))
    (hinfo:(P.info? e).map (fun i=>(i.zero,i.size,i.bytes))=some (some z,size,bytes)) (hzs:z.cells.size=size) (hsz:0<size) (hz:z.cells.toList=enc x0) (hb:n*bytes≤140737488355328∧n≤140737488355328)
    (k:∀ b cap w',Sep w0 (am enc (some ⟨b,0,none⟩) cap e size (List.replicate n x0)::L) w'→TL P f N R K (q+1) ((d,.slice (some ⟨b,0,none⟩) (List.replicate n x0).length cap)::env) w'):TL P f N R K q env w:=by
  obtain ⟨b,cap,w',hok,hS⟩:=OK.appz enc x0 S d t t' e size kk kn ii n z bytes h hn h0 ht ht' hinfo hzs hsz hz hb
  exact TL.ok hok (k b cap w' hS)

theorem TL.stRow1 {α:Type} (g:α→Value) (hg1:∀ x,(g x).cells=#[g x]∧(g x).oneCell'=true) {w0 w:World} {L:List Claim} (S:Sep w0 L w) (j:Nat) {a:Option Addr} {cap:Nat} {e:TypeId} (l:List α) {K:List Item} {q:Nat} {env:Env} (t:TypeId) (p:Addr) (i:Nat) (x:α) (hj:L[j]? =some (am (di g) a cap e 1 l))
    (h:stAt N (cC (bV K) q) env=some (none,t,p.add i,g x)) (hp:a=some p) (hi:i<l.length) (ht:(P.info? t).map (·.size)=some 1)
    (k:∀ w',Sep w0 (L.set j (am (di g) a cap e 1 (l.set i x))) w'→TL P f N R K (q+1) env w'):TL P f N R K q env w:=by
  obtain ⟨w',hr,hS⟩:=S.setRow1 (P:=P) g hg1 j hj i hi x hp ht
  exact TL.ok (OK.store w' h hr) (k w' hS)

theorem WO.newSlice {w0 w:World} {L:List Claim} (S:Sep w0 L w) (d n:Nat) (cs:List Value) (T:TypeId) {K:List Item} {H:World→Prop} {fuel:Nat} {ar:Array Bool} {q:Nat} {env:Env}
    (h:opRun P N (cC (bV K) q) env w=some (some d,.ok (.value (.slice (some ⟨w.heap.size,0,none⟩) n n)) (w.alloc (.cells cs.toArray T))))
    (k:∀ b w',Sep w0 (box b cs T::L) w'→WB P f N R K H fuel ar ((d,.slice (some ⟨b,0,none⟩) n n)::env) w'):WO P f N R K H fuel ar q env w:=by
  obtain ⟨o,ho,hd,hr⟩:=cR h
  exact WO.ok ⟨o,ho,hd,.inl hr⟩ (k _ _ (S.alloc cs T))

theorem WO.append {α:Type} (enc:α→List Value) {w0 w:World} {L:List Claim} (S:Sep w0 L w) (j:Nat) {a:Option Addr} {cap:Nat} {e:TypeId} {size:Nat} (l:List α) (x:α) {K:List Item} {H:World→Prop} {fuel:Nat} {ar:Array Bool} {q:Nat} {env:Env} (d:Nat) (t:TypeId) (z:Value) (bytes:Nat) (ad:Addr) (c:Nat)
    (hj:L[j]? =some (am enc a cap e size l)) (h:appAt N (cC (bV K) q) env=some (some d,t,.slice a l.length cap,.slice (some ad) 1 c)) (ht:P.underlying t=some (.slice e))
    (hinfo:(P.info? e).map (fun i=>(i.zero,i.size,i.bytes))=some (some z,size,bytes)) (hzs:z.cells.size=size) (hsz:0<size)
    (hnews:Cells w (some ad) (enc x)) (hl:(enc x).length=size) (h1:(enc x).all (·.oneCell')=true) (hb:(l.length+1)*bytes≤140737488355328∧l.length<140737488355328)
    (k:∀ a' cap' w',Sep w0 (L.set j (am enc a' cap' e size (l++[x]))) w'→WB P f N R K H fuel ar ((d,.slice a' (l++[x]).length cap')::env) w'):WO P f N R K H fuel ar q env w:=by
  obtain ⟨a',cap',w',hok,hS⟩:=OK.append enc S j l x d t z bytes ad c hj h ht hinfo hzs hsz hnews hl h1 hb
  exact WO.ok hok (k a' cap' w' hS)

theorem WO.appendN {α:Type} (enc:α→List Value) {w0 w:World} {L:List Claim} (S:Sep w0 L w) (j:Nat) {a:Option Addr} {cap:Nat} {e:TypeId} {size:Nat} (l ys:List α) (n:Nat) (hn:ys.length=n) {K:List Item} {H:World→Prop} {fuel:Nat} {ar:Array Bool} {q:Nat} {env:Env} (d:Nat) (t:TypeId) (z:Value) (bytes:Nat) (x:Option Addr) (c:Nat)
    (hj:L[j]? =some (am enc a cap e size l)) (h:appAt N (cC (bV K) q) env=some (some d,t,.slice a l.length cap,.slice x n c)) (ht:P.underlying t=some (.slice e))
    (hinfo:(P.info? e).map (fun i=>(i.zero,i.size,i.bytes))=some (some z,size,bytes)) (hzs:z.cells.size=size) (hsz:0<size)
    (hnews:Cells w x (ys.flatMap enc)) (hx:x=none→ys=[]) (hl:∀ y,(enc y).length=size) (h1:∀ y,(enc y).all (·.oneCell')=true) (hb:(l.length+ys.length)*bytes≤140737488355328∧l.length+ys.length≤140737488355328)
    (k:∀ a' cap' w',Sep w0 (L.set j (am enc a' cap' e size (l++ys))) w'→WB P f N R K H fuel ar ((d,.slice a' (l++ys).length cap')::env) w'):WO P f N R K H fuel ar q env w:=by
  subst hn
  obtain ⟨a',cap',w',hok,hS⟩:=OK.appendL enc S j l ys d t z bytes x c hj h ht hinfo hzs hsz hnews hx hl h1 hb
  exact WO.ok hok (k a' cap' w' hS)

theorem WO.make {α:Type} (enc:α→List Value) (x0:α) {w0 w:World} {L:List Claim} (S:Sep w0 L w) {K:List Item} {H:World→Prop} {fuel:Nat} {ar:Array Bool} {q:Nat} {env:Env} (d:Nat) (t e:TypeId) (size:Nat) (ii jj:Int) (n:Nat) (z:Value) (bytes:Nat) (h:mkAt N (cC (bV K) q) env=some (some d,t,ii,jj)) (hn:ii=n) (hm:jj=n) (ht:P.underlying t=some (.slice e))
    (hinfo:(P.info? e).map (fun i=>(i.zero,i.size,i.bytes))=some (some z,size,bytes)) (hzs:z.cells.size=size) (hz:z.cells.toList=enc x0) (hb:bytes*n≤281474976710656∧n≤9223372036854775807)
    (k:∀ b w',Sep w0 (am enc (some ⟨b,0,none⟩) n e size (List.replicate n x0)::L) w'→WB P f N R K H fuel ar ((d,.slice (some ⟨b,0,none⟩) (List.replicate n x0).length n)::env) w'):WO P f N R K H fuel ar q env w:=by
  obtain ⟨b,w',hok,hS⟩:=OK.make enc x0 S d t e size ii jj n z bytes h hn hm ht hinfo hzs hz hb
  exact WO.ok hok (k b w' hS)

theorem WO.appz {α:Type} (enc:α→List Value) (x0:α) {w0 w:World} {L:List Claim} (S:Sep w0 L w) {K:List Item} {H:World→Prop} {fuel:Nat} {ar:Array Bool} {q:Nat} {env:Env} (d:Nat) (t t' e:TypeId) (size:Nat) (kk kn:IntKind) (ii:Int) (n:Nat) (z:Value) (bytes:Nat) (h:appzAt P N (cC (bV K) q) env=some (some d,t,t',kk,ii)) (hn:ii=n) (h0:0<n) (ht:P.underlying t=some (.slice e)) (ht':P.underlying t'=some (.int kn))
    (hinfo:(P.info? e).map (fun i=>(i.zero,i.size,i.bytes))=some (some z,size,bytes)) (hzs:z.cells.size=size) (hsz:0<size) (hz:z.cells.toList=enc x0) (hb:n*bytes≤140737488355328∧n≤140737488355328)
    (k:∀ b cap w',Sep w0 (am enc (some ⟨b,0,none⟩) cap e size (List.replicate n x0)::L) w'→WB P f N R K H fuel ar ((d,.slice (some ⟨b,0,none⟩) (List.replicate n x0).length cap)::env) w'):WO P f N R K H fuel ar q env w:=by
  obtain ⟨b,cap,w',hok,hS⟩:=OK.appz enc x0 S d t t' e size kk kn ii n z bytes h hn h0 ht ht' hinfo hzs hsz hz hb
  exact WO.ok hok (k b cap w' hS)

theorem WO.stRow1 {α:Type} (g:α→Value) (hg1:∀ x,(g x).cells=#[g x]∧(g x).oneCell'=true) {w0 w:World} {L:List Claim} (S:Sep w0 L w) (j:Nat) {a:Option Addr} {cap:Nat} {e:TypeId} (l:List α) {K:List Item} {H:World→Prop} {fuel:Nat} {ar:Array Bool} {q:Nat} {env:Env} (t:TypeId) (p:Addr) (i:Nat) (x:α) (hj:L[j]? =some (am (di g) a cap e 1 l))
    (h:stAt N (cC (bV K) q) env=some (none,t,p.add i,g x)) (hp:a=some p) (hi:i<l.length) (ht:(P.info? t).map (·.size)=some 1)
    (k:∀ w',Sep w0 (L.set j (am (di g) a cap e 1 (l.set i x))) w'→WB P f N R K H fuel ar env w'):WO P f N R K H fuel ar q env w:=by
  obtain ⟨w',hr,hS⟩:=S.setRow1 (P:=P) g hg1 j hj i hi x hp ht
  exact WO.ok (OK.store w' h hr) (k w' hS)

theorem PL.newSlice {w0 w:World} {L:List Claim} (S:Sep w0 L w) (d n:Nat) (cs:List Value) (T:TypeId) {K:List Item} {H:World→Prop} {plan:List (Nat×Bool)} {q:Nat} {env:Env}
    (h:opRun P N (cC (bV K) q) env w=some (some d,.ok (.value (.slice (some ⟨w.heap.size,0,none⟩) n n)) (w.alloc (.cells cs.toArray T))))
    (k:∀ b w',Sep w0 (box b cs T::L) w'→PB P f N R K H plan ((d,.slice (some ⟨b,0,none⟩) n n)::env) w'):PL P f N R K H ((q,false)::plan) env w:=by
  obtain ⟨o,ho,hd,hr⟩:=cR h
  exact PL.ok ⟨o,ho,hd,.inl hr⟩ (k _ _ (S.alloc cs T))

theorem PL.append {α:Type} (enc:α→List Value) {w0 w:World} {L:List Claim} (S:Sep w0 L w) (j:Nat) {a:Option Addr} {cap:Nat} {e:TypeId} {size:Nat} (l:List α) (x:α) {K:List Item} {H:World→Prop} {plan:List (Nat×Bool)} {q:Nat} {env:Env} (d:Nat) (t:TypeId) (z:Value) (bytes:Nat) (ad:Addr) (c:Nat)
    (hj:L[j]? =some (am enc a cap e size l)) (h:appAt N (cC (bV K) q) env=some (some d,t,.slice a l.length cap,.slice (some ad) 1 c)) (ht:P.underlying t=some (.slice e))
    (hinfo:(P.info? e).map (fun i=>(i.zero,i.size,i.bytes))=some (some z,size,bytes)) (hzs:z.cells.size=size) (hsz:0<size)
    (hnews:Cells w (some ad) (enc x)) (hl:(enc x).length=size) (h1:(enc x).all (·.oneCell')=true) (hb:(l.length+1)*bytes≤140737488355328∧l.length<140737488355328)
    (k:∀ a' cap' w',Sep w0 (L.set j (am enc a' cap' e size (l++[x]))) w'→PB P f N R K H plan ((d,.slice a' (l++[x]).length cap')::env) w'):PL P f N R K H ((q,false)::plan) env w:=by
  obtain ⟨a',cap',w',hok,hS⟩:=OK.append enc S j l x d t z bytes ad c hj h ht hinfo hzs hsz hnews hl h1 hb
  exact PL.ok hok (k a' cap' w' hS)

theorem PL.appendN {α:Type} (enc:α→List Value) {w0 w:World} {L:List Claim} (S:Sep w0 L w) (j:Nat) {a:Option Addr} {cap:Nat} {e:TypeId} {size:Nat} (l ys:List α) (n:Nat) (hn:ys.length=n) {K:List Item} {H:World→Prop} {plan:List (Nat×Bool)} {q:Nat} {env:Env} (d:Nat) (t:TypeId) (z:Value) (bytes:Nat) (x:Option Addr) (c:Nat)
    (hj:L[j]? =some (am enc a cap e size l)) (h:appAt N (cC (bV K) q) env=some (some d,t,.slice a l.length cap,.slice x n c)) (ht:P.underlying t=some (.slice e))
    (hinfo:(P.info? e).map (fun i=>(i.zero,i.size,i.bytes))=some (some z,size,bytes)) (hzs:z.cells.size=size) (hsz:0<size)
    (hnews:Cells w x (ys.flatMap enc)) (hx:x=none→ys=[]) (hl:∀ y,(enc y).length=size) (h1:∀ y,(enc y).all (·.oneCell')=true) (hb:(l.length+ys.length)*bytes≤140737488355328∧l.length+ys.length≤140737488355328)
    (k:∀ a' cap' w',Sep w0 (L.set j (am enc a' cap' e size (l++ys))) w'→PB P f N R K H plan ((d,.slice a' (l++ys).length cap')::env) w'):PL P f N R K H ((q,false)::plan) env w:=by
  subst hn
  obtain ⟨a',cap',w',hok,hS⟩:=OK.appendL enc S j l ys d t z bytes x c hj h ht hinfo hzs hsz hnews hx hl h1 hb
  exact PL.ok hok (k a' cap' w' hS)

theorem PL.make {α:Type} (enc:α→List Value) (x0:α) {w0 w:World} {L:List Claim} (S:Sep w0 L w) {K:List Item} {H:World→Prop} {plan:List (Nat×Bool)} {q:Nat} {env:Env} (d:Nat) (t e:TypeId) (size:Nat) (ii jj:Int) (n:Nat) (z:Value) (bytes:Nat) (h:mkAt N (cC (bV K) q) env=some (some d,t,ii,jj)) (hn:ii=n) (hm:jj=n) (ht:P.underlying t=some (.slice e))
    (hinfo:(P.info? e).map (fun i=>(i.zero,i.size,i.bytes))=some (some z,size,bytes)) (hzs:z.cells.size=size) (hz:z.cells.toList=enc x0) (hb:bytes*n≤281474976710656∧n≤9223372036854775807)
    (k:∀ b w',Sep w0 (am enc (some ⟨b,0,none⟩) n e size (List.replicate n x0)::L) w'→PB P f N R K H plan ((d,.slice (some ⟨b,0,none⟩) (List.replicate n x0).length n)::env) w'):PL P f N R K H ((q,false)::plan) env w:=by
  obtain ⟨b,w',hok,hS⟩:=OK.make enc x0 S d t e size ii jj n z bytes h hn hm ht hinfo hzs hz hb
  exact PL.ok hok (k b w' hS)

theorem PL.appz {α:Type} (enc:α→List Value) (x0:α) {w0 w:World} {L:List Claim} (S:Sep w0 L w) {K:List Item} {H:World→Prop} {plan:List (Nat×Bool)} {q:Nat} {env:Env} (d:Nat) (t t' e:TypeId) (size:Nat) (kk kn:IntKind) (ii:Int) (n:Nat) (z:Value) (bytes:Nat) (h:appzAt P N (cC (bV K) q) env=some (some d,t,t',kk,ii)) (hn:ii=n) (h0:0<n) (ht:P.underlying t=some (.slice e)) (ht':P.underlying t'=some (.int kn))
    (hinfo:(P.info? e).map (fun i=>(i.zero,i.size,i.bytes))=some (some z,size,bytes)) (hzs:z.cells.size=size) (hsz:0<size) (hz:z.cells.toList=enc x0) (hb:n*bytes≤140737488355328∧n≤140737488355328)
    (k:∀ b cap w',Sep w0 (am enc (some ⟨b,0,none⟩) cap e size (List.replicate n x0)::L) w'→PB P f N R K H plan ((d,.slice (some ⟨b,0,none⟩) (List.replicate n x0).length cap)::env) w'):PL P f N R K H ((q,false)::plan) env w:=by
  obtain ⟨b,cap,w',hok,hS⟩:=OK.appz enc x0 S d t t' e size kk kn ii n z bytes h hn h0 ht ht' hinfo hzs hsz hz hb
  exact PL.ok hok (k b cap w' hS)

theorem PL.stRow1 {α:Type} (g:α→Value) (hg1:∀ x,(g x).cells=#[g x]∧(g x).oneCell'=true) {w0 w:World} {L:List Claim} (S:Sep w0 L w) (j:Nat) {a:Option Addr} {cap:Nat} {e:TypeId} (l:List α) {K:List Item} {H:World→Prop} {plan:List (Nat×Bool)} {q:Nat} {env:Env} (t:TypeId) (p:Addr) (i:Nat) (x:α) (hj:L[j]? =some (am (di g) a cap e 1 l))
    (h:stAt N (cC (bV K) q) env=some (none,t,p.add i,g x)) (hp:a=some p) (hi:i<l.length) (ht:(P.info? t).map (·.size)=some 1)
    (k:∀ w',Sep w0 (L.set j (am (di g) a cap e 1 (l.set i x))) w'→PB P f N R K H plan env w'):PL P f N R K H ((q,false)::plan) env w:=by
  obtain ⟨w',hr,hS⟩:=S.setRow1 (P:=P) g hg1 j hj i hi x hp ht
  exact PL.ok (OK.store w' h hr) (k w' hS)
end Go.Eng
