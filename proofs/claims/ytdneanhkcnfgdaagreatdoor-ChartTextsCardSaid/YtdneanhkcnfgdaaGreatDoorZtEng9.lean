/- The proof engine, ninth part: slices that are made, slices compared with nil, an append of a slice that reads as a list. Conditions: none; it is generic in the program. -/
import Derived.Test.YtdneanhkcnfgdaaGreatDoorZtEng4
import Derived.Laws.OwnMore
import Derived.Lib.AppendZeros
set_option linter.unusedSimpArgs false
set_option linter.unusedVariables false
namespace Go.Eng
open Go.RowKit
variable {P:Program} {f:FuncId} {N:Nat} {R:Value→World→Prop}

theorem Ones.nil {α:Type} {g:α→Value} {w:World} {len:Nat} {l:List α} (h:Ones g w none len l):l=[]:=by
  cases l with
  | nil=>rfl
  | cons x l =>
    obtain ⟨p,hp,_⟩:=h.cells 0 (g x) (by simp)
    cases hp

theorem Ones.enc {α:Type} {g:α→Value} {w:World} {a:Option Addr} {len:Nat} {l:List α} (h:Ones g w a len l):Cells w a (l.flatMap (ah g)):=by
  rw[flatMap_enc1];exact h.cells

theorem Sep.back {w0 w:World} {c:Claim} {L:List Claim} (S:Sep w0 (c::L) w) (j:Nat):Sep w0 (L.take j++c::L.drop j) w:=by
  have hp:(L.take j++c::L.drop j).Perm (c::L):=by
    have:=List.perm_middle (a:=c) (l₁:=L.take j) (l₂:=L.drop j)
    rwa [List.take_append_drop] at this
  refine⟨S.below,fun d hd=>S.all d (hp.mem_iff.1 hd),fun d hd=>S.fresh d (hp.mem_iff.1 hd),?_⟩
  exact hp.symm.pairwise S.apart fun h b hb hb'=>h b hb' hb

theorem Sep.two {w0 w:World} {L:List Claim} (S:Sep w0 L w) (i j:Nat) {c d:Claim} (hi:L[i]? =some c) (hj:(c::L.eraseIdx i)[j]? =some d) (hne:j≠0):Sep w0 [d,c] w:=by
  have S2:=(S.front i hi).front j hj
  cases j with
  | zero=>exact absurd rfl hne
  | succ j =>
    rw[List.eraseIdx_cons_succ] at S2
    exact S2.sub (List.Sublist.cons_cons _ (List.Sublist.cons_cons _ (List.nil_sublist _)))


theorem J.newSlice {w0 w:World} {L:List Claim} (S:Sep w0 L w) (d n:Nat) (cs:List Value) (T:TypeId) {K:List Item} {env:Env}
    (h:opRun P N K env w=some (some d,.ok (.value (.slice (some ⟨w.heap.size,0,none⟩) n n)) (w.alloc (.cells cs.toArray T))))
    (k:∀ b w',Sep w0 (box b cs T::L) w'→J P f N R (aK K) ((d,.slice (some ⟨b,0,none⟩) n n)::env) w'):J P f N R K env w:=by
  obtain ⟨o,ho,hd,hr⟩:=bD h
  exact J.ok ⟨o,ho,hd,.inl hr⟩ (k _ _ (S.alloc cs T))

theorem J.append {α:Type} (enc:α→List Value) {w0 w:World} {L:List Claim} (S:Sep w0 L w) (j:Nat) {a:Option Addr} {cap:Nat} {e:TypeId} {size:Nat} (l:List α) (x:α) {K:List Item} {env:Env} (d:Nat) (t:TypeId) (z:Value) (bytes:Nat) (ad:Addr) (c:Nat)
    (hj:L[j]? =some (aa enc a cap e size l)) (h:appAt N K env=some (some d,t,.slice a l.length cap,.slice (some ad) 1 c)) (ht:P.underlying t=some (.slice e))
    (hinfo:(P.info? e).map (fun i=>(i.zero,i.size,i.bytes))=some (some z,size,bytes)) (hzs:z.cells.size=size) (hsz:0<size)
    (hnews:Cells w (some ad) (enc x)) (hl:(enc x).length=size) (h1:(enc x).all (·.oneCell')=true) (hb:(l.length+1)*bytes≤140737488355328∧l.length<140737488355328)
    (k:∀ a' cap' w',Sep w0 (L.set j (aa enc a' cap' e size (l++[x]))) w'→J P f N R (aK K) ((d,.slice a' (l++[x]).length cap')::env) w'):J P f N R K env w:=by
  obtain ⟨a',cap',w',hok,hS⟩:=OK.append enc S j l x d t z bytes ad c hj h ht hinfo hzs hsz hnews hl h1 hb
  exact J.ok hok (k a' cap' w' hS)

theorem TL.newSlice {w0 w:World} {L:List Claim} (S:Sep w0 L w) (d n:Nat) (cs:List Value) (T:TypeId) {K:List Item} {q:Nat} {env:Env}
    (h:opRun P N (bU (bq K) q) env w=some (some d,.ok (.value (.slice (some ⟨w.heap.size,0,none⟩) n n)) (w.alloc (.cells cs.toArray T))))
    (k:∀ b w',Sep w0 (box b cs T::L) w'→TL P f N R K (q+1) ((d,.slice (some ⟨b,0,none⟩) n n)::env) w'):TL P f N R K q env w:=by
  obtain ⟨o,ho,hd,hr⟩:=bD h
  exact TL.ok ⟨o,ho,hd,.inl hr⟩ (k _ _ (S.alloc cs T))

theorem TL.append {α:Type} (enc:α→List Value) {w0 w:World} {L:List Claim} (S:Sep w0 L w) (j:Nat) {a:Option Addr} {cap:Nat} {e:TypeId} {size:Nat} (l:List α) (x:α) {K:List Item} {q:Nat} {env:Env} (d:Nat) (t:TypeId) (z:Value) (bytes:Nat) (ad:Addr) (c:Nat)
    (hj:L[j]? =some (aa enc a cap e size l)) (h:appAt N (bU (bq K) q) env=some (some d,t,.slice a l.length cap,.slice (some ad) 1 c)) (ht:P.underlying t=some (.slice e))
    (hinfo:(P.info? e).map (fun i=>(i.zero,i.size,i.bytes))=some (some z,size,bytes)) (hzs:z.cells.size=size) (hsz:0<size)
    (hnews:Cells w (some ad) (enc x)) (hl:(enc x).length=size) (h1:(enc x).all (·.oneCell')=true) (hb:(l.length+1)*bytes≤140737488355328∧l.length<140737488355328)
    (k:∀ a' cap' w',Sep w0 (L.set j (aa enc a' cap' e size (l++[x]))) w'→TL P f N R K (q+1) ((d,.slice a' (l++[x]).length cap')::env) w'):TL P f N R K q env w:=by
  obtain ⟨a',cap',w',hok,hS⟩:=OK.append enc S j l x d t z bytes ad c hj h ht hinfo hzs hsz hnews hl h1 hb
  exact TL.ok hok (k a' cap' w' hS)

theorem WO.newSlice {w0 w:World} {L:List Claim} (S:Sep w0 L w) (d n:Nat) (cs:List Value) (T:TypeId) {K:List Item} {H:World→Prop} {fuel:Nat} {ar:Array Bool} {q:Nat} {env:Env}
    (h:opRun P N (bU (bq K) q) env w=some (some d,.ok (.value (.slice (some ⟨w.heap.size,0,none⟩) n n)) (w.alloc (.cells cs.toArray T))))
    (k:∀ b w',Sep w0 (box b cs T::L) w'→WB P f N R K H fuel ar ((d,.slice (some ⟨b,0,none⟩) n n)::env) w'):WO P f N R K H fuel ar q env w:=by
  obtain ⟨o,ho,hd,hr⟩:=bD h
  exact WO.ok ⟨o,ho,hd,.inl hr⟩ (k _ _ (S.alloc cs T))

theorem WO.append {α:Type} (enc:α→List Value) {w0 w:World} {L:List Claim} (S:Sep w0 L w) (j:Nat) {a:Option Addr} {cap:Nat} {e:TypeId} {size:Nat} (l:List α) (x:α) {K:List Item} {H:World→Prop} {fuel:Nat} {ar:Array Bool} {q:Nat} {env:Env} (d:Nat) (t:TypeId) (z:Value) (bytes:Nat) (ad:Addr) (c:Nat)
    (hj:L[j]? =some (aa enc a cap e size l)) (h:appAt N (bU (bq K) q) env=some (some d,t,.slice a l.length cap,.slice (some ad) 1 c)) (ht:P.underlying t=some (.slice e))
    (hinfo:(P.info? e).map (fun i=>(i.zero,i.size,i.bytes))=some (some z,size,bytes)) (hzs:z.cells.size=size) (hsz:0<size)
    (hnews:Cells w (some ad) (enc x)) (hl:(enc x).length=size) (h1:(enc x).all (·.oneCell')=true) (hb:(l.length+1)*bytes≤140737488355328∧l.length<140737488355328)
    (k:∀ a' cap' w',Sep w0 (L.set j (aa enc a' cap' e size (l++[x]))) w'→WB P f N R K H fuel ar ((d,.slice a' (l++[x]).length cap')::env) w'):WO P f N R K H fuel ar q env w:=by
  obtain ⟨a',cap',w',hok,hS⟩:=OK.append enc S j l x d t z bytes ad c hj h ht hinfo hzs hsz hnews hl h1 hb
  exact WO.ok hok (k a' cap' w' hS)

theorem PL.newSlice {w0 w:World} {L:List Claim} (S:Sep w0 L w) (d n:Nat) (cs:List Value) (T:TypeId) {K:List Item} {H:World→Prop} {plan:List (Nat×Bool)} {q:Nat} {env:Env}
    (h:opRun P N (bU (bq K) q) env w=some (some d,.ok (.value (.slice (some ⟨w.heap.size,0,none⟩) n n)) (w.alloc (.cells cs.toArray T))))
    (k:∀ b w',Sep w0 (box b cs T::L) w'→PB P f N R K H plan ((d,.slice (some ⟨b,0,none⟩) n n)::env) w'):PL P f N R K H ((q,false)::plan) env w:=by
  obtain ⟨o,ho,hd,hr⟩:=bD h
  exact PL.ok ⟨o,ho,hd,.inl hr⟩ (k _ _ (S.alloc cs T))

theorem PL.append {α:Type} (enc:α→List Value) {w0 w:World} {L:List Claim} (S:Sep w0 L w) (j:Nat) {a:Option Addr} {cap:Nat} {e:TypeId} {size:Nat} (l:List α) (x:α) {K:List Item} {H:World→Prop} {plan:List (Nat×Bool)} {q:Nat} {env:Env} (d:Nat) (t:TypeId) (z:Value) (bytes:Nat) (ad:Addr) (c:Nat)
    (hj:L[j]? =some (aa enc a cap e size l)) (h:appAt N (bU (bq K) q) env=some (some d,t,.slice a l.length cap,.slice (some ad) 1 c)) (ht:P.underlying t=some (.slice e))
    (hinfo:(P.info? e).map (fun i=>(i.zero,i.size,i.bytes))=some (some z,size,bytes)) (hzs:z.cells.size=size) (hsz:0<size)
    (hnews:Cells w (some ad) (enc x)) (hl:(enc x).length=size) (h1:(enc x).all (·.oneCell')=true) (hb:(l.length+1)*bytes≤140737488355328∧l.length<140737488355328)
    (k:∀ a' cap' w',Sep w0 (L.set j (aa enc a' cap' e size (l++[x]))) w'→PB P f N R K H plan ((d,.slice a' (l++[x]).length cap')::env) w'):PL P f N R K H ((q,false)::plan) env w:=by
  obtain ⟨a',cap',w',hok,hS⟩:=OK.append enc S j l x d t z bytes ad c hj h ht hinfo hzs hsz hnews hl h1 hb
  exact PL.ok hok (k a' cap' w' hS)

end Go.Eng

