/- The proof engine: results out of variables, carries, structs with an array in front that is indexed by a number that is not eo. Conditions: none; it is generic in the program. -/
import Derived.Test.YtaoolgcddapegaaGreatZqEng9
import Derived.Test.YtaoolgcddapegaaGreatZqEng4
import Derived.Laws.Externs
set_option linter.unusedSimpArgs false
set_option linter.unusedVariables false
namespace Go.Eng
open Go.RowKit
section
variable {P:Program} {f:FuncId} {N:Nat} {R:Value→World→Prop}

def Blk (w:World):List (Nat×List Value)→Prop
  | []=>True
  | (b,cs)::r=>(∃ T,w.heap[b]? =some (.cells cs.toArray T (0,0)))∧Blk w r

theorem bn {w:World}:Blk w []:=trivial
theorem bk {w:World} {b:Nat} {cs:List Value} {T:TypeId} {r:List (Nat×List Value)} (h:(box b cs T).holds w) (k:Blk w r):Blk w ((b,cs)::r):=⟨⟨T,h⟩,k⟩

def retZ (P:Program) (e:Env):List ResultVar→List (Nat×List Value)→Option (List (Option Nat×Value))
  | [],[]=>some []
  | .tmp t::r,bs=>match cT e t,retZ P e r bs with | some v,some l=>some ((none,v)::l) | _,_=>none
  | .cell p t::r,(_,cs)::bs=>match cT e p with
    | some (.pointer (some ⟨b,off,none⟩))=>match ldV P t off cs,retZ P e r bs with | some v,some l=>some ((some b,v)::l) | _,_=>none
    | _=>none
  | _,_=>none

def expZ:List ResultVar→List (Nat×List Value)→List Value→List (Option Nat×Value)
  | .tmp _::r,bs,v::vs=>(none,v)::expZ r bs vs
  | .cell _ _::r,(b,_)::bs,v::vs=>(some b,v)::expZ r bs vs
  | _,_,_=>[]

def retK (P:Program) (fn:Func) (bs:List (Nat×List Value)) (K:List Item) (e:Env):Option (List (Option Nat×Value)) :=
  match K with
  | [] | .code .ret::_=>retZ P e fn.results.toList bs
  | _=>none

theorem retZ_run {e:Env} {w:World}:∀ (rs:List ResultVar) (bs:List (Nat×List Value)) (vs:List Value),Blk w bs→retZ P e rs bs=some (expZ rs bs vs)→rs.length=vs.length→resRun P e w rs vs:=by
  intro rs
  induction rs with
  | nil=>intro bs vs _ _ hl;cases vs with | nil=>trivial | cons _ _=>cases hl
  | cons r rs ih =>
    intro bs vs hB h hl
    cases vs with
    | nil=>cases hl
    | cons v vs =>
      cases r with
      | tmp t =>
        simp only[retZ,expZ] at h
        split at h
        · rename_i u l hu hr
          simp only[Option.some.injEq,List.cons.injEq,Prod.mk.injEq,true_and] at h
          obtain ⟨rfl,rfl⟩:=h
          exact⟨hu,ih bs vs hB hr (by simpa using hl)⟩
        · cases h
      | cell p t =>
        cases bs with
        | nil=>simp[retZ] at h
        | cons x bs =>
          obtain ⟨b,cs⟩:=x
          obtain ⟨⟨T,hT⟩,hB'⟩:=hB
          simp only[retZ,expZ] at h
          split at h
          · rename_i b' off hp
            split at h
            · rename_i u l hu hr
              simp only[Option.some.injEq,List.cons.injEq,Prod.mk.injEq] at h
              obtain ⟨⟨rfl,rfl⟩,rfl⟩:=h
              exact⟨⟨_,hp,aS hT hu⟩,ih bs vs hB' hr (by simpa using hl)⟩
            · cases h
          · cases h

theorem J.ez {K:List Item} {env:Env} {w:World} (n:Nat) (vs:List Value) {fn:Func} (hfn:P.funcs[f]? =some fn) {bs:List (Nat×List Value)} (hB:Blk w bs) (hR:R (tup vs) w)
    (h:((Eng.exec P N n K env w).map fun s=>(s.2.2,retK P fn bs s.1 s.2.1,fn.results.toList.length))=some (w,some (expZ fn.results.toList bs vs),vs.length):=by kernel_rfl):J P f N R K env w:=by
  intro a hf
  cases he:Eng.exec P N n K env w with
  | none=>rw[he] at h;cases h
  | some s =>
    obtain ⟨K2,env2,w2⟩:=s
    rw[he] at h
    simp only[Option.map_some,Option.some.injEq,Prod.mk.injEq] at h
    obtain ⟨rfl,hb,hl⟩:=h
    refine Ja.exec n hf he fun a' hf'=>?_
    unfold retK at hb
    split at hb
    · exact J.done fn vs hfn (retZ_run _ _ _ hB hb hl) hR a' hf'
    · exact J.ret fn vs hfn (retZ_run _ _ _ hB hb hl) hR a' hf'
    · cases hb

theorem OK.ext {K:List Item} {env:Env} {w:World} (d:Nat) (g:FuncId) (args:Array Value) {v:Value} (hb:(callFunc g args).run P w=.ok (.value v) w) (h:callAt N K env=some (some d,g,args)):OK P N K env w (some d) v w:=by
  unfold callAt at h
  split at h
  · rename_i o ho
    split at h
    · rename_i x xs ts hop
      split at h
      · rename_i g' first captured hx
        simp only[Option.some.injEq,Prod.mk.injEq] at h
        obtain ⟨hd,rfl,rfl⟩:=h
        refine⟨o,ho,hd,.inl ?_⟩
        unfold execOp
        simp only[hop,resolve,Deferred.ofValue,hx,Sem.run_bind,Sem.run_pure,Result.andThen_ok,invoke]
        rw[← hb]
        congr 2
        apply Array.ext'
        simp
      · cases h
    · cases h
  · cases h

theorem OK.add64 {K:List Item} {env:Env} {w:World} (d:Nat) (g:FuncId) (x y c:Int) {fn:Func} (hf:P.funcs[g]? =some fn) (h:callAt N K env=some (some d,g,#[.int .u64 x,.int .u64 y,.int .u64 c]))
    (hn:(fn.name== "runtime.NumGoroutine")=false) (hb:fn.body.isNone=true) (hx:Extern.findNext fn=none) (he:Extern.find fn=some add64Entry) (hr:0≤x∧0≤y∧0≤c∧c≤1) :
    OK P N K env w (some d) (.tuple #[.int .u64 ((x+y+c)%18446744073709551616),.int .u64 ((x+y+c)/18446744073709551616)]) w:=by
  refine OK.ext d g _ ?_ h
  rw[run_callFunc_extern hf hn hb hx he,run_add64 x y c hr.1 hr.2.1 hr.2.2.1 hr.2.2.2]
  rfl
end

def mxC (l:List Int) (tl:List Value):List Value:=l.map (Value.int .i64)++tl
abbrev mxA (l:List Int) (tl:List Value):Array Value:=(mxC l tl).toArray

theorem mx_len {l:List Int} {tl:List Value} {n k:Nat} (h:l.length=n) (hk:n+tl.length=k):(mxC l tl).length=k:=by
  unfold mxC;rw[List.length_append,List.length_map];omega

section
variable {P:Program}
theorem ldV_one {t:TypeId} (ht:(P.underlying t).map aggB=some false) (hs:(P.info? t).isSome=true) (off:Nat) (cs:List Value):ldV P t off cs=cs[off]? :=by
  obtain ⟨td,hu,hd⟩:=Option.map_eq_some_iff.1 ht
  obtain ⟨i,hi⟩:=Option.isSome_iff_exists.1 hs
  unfold ldV
  rw[hu,hi]
  cases td<;>first | rfl | cases hd

theorem ldV_all {t:TypeId} {cs:List Value} {n:Nat} (ht:(P.underlying t).map aggB=some true) (hs:(P.info? t).map (·.size)=some n) (hl:cs.length=n):ldV P t 0 cs=some (.agg cs.toArray):=by
  obtain ⟨td,hu,hd⟩:=Option.map_eq_some_iff.1 ht
  obtain ⟨i,hi,hz⟩:=Option.map_eq_some_iff.1 hs
  have hz':i.size=cs.length:=hz.trans hl.symm
  have e:Nat.ble (0+i.size) cs.length=true:=by rw[hz',Nat.zero_add];exact Nat.ble_self_eq_true _
  have key:(bif Nat.ble (0+i.size) cs.length then some (Value.agg ((cs.drop 0).take i.size).toArray) else none)=some (.agg cs.toArray):=by
    rw[e,hz',List.drop_zero,List.take_length];rfl
  unfold ldV
  rw[hu,hi]
  cases td<;>first | exact key | cases hd

theorem ldV_mi {t:TypeId} {l:List Int} {tl:List Value} {i:Nat} (ht:(P.underlying t).map aggB=some false) (hs:(P.info? t).isSome=true) (hi:i<l.length):ldV P t i (mxC l tl)=some (.int .i64 (l.getD i 0)):=by
  rw[ldV_one ht hs]
  unfold mxC
  rw[List.getElem?_append_left (by simpa using hi),List.getElem?_map,List.getElem?_eq_getElem hi,List.getD_eq_getElem?_getD,List.getElem?_eq_getElem hi];rfl

theorem ldV_mt {t:TypeId} {l:List Int} {tl:List Value} {n k:Nat} {v:Value} (ht:(P.underlying t).map aggB=some false) (hs:(P.info? t).isSome=true) (hl:l.length=n) (hn:n≤k) (hv:tl[k-n]? =some v):ldV P t k (mxC l tl)=some v:=by
  rw[ldV_one ht hs]
  unfold mxC
  rw[List.getElem?_append_right (by simpa using om),List.length_map,hl,hv]

theorem eJ {t:TypeId} {l:List Int} {tl:List Value} {n:Nat} (ht:(P.underlying t).map aggB=some true) (hs:(P.info? t).map (·.size)=some (n+tl.length)) (hl:l.length=n):ldV P t 0 (mxC l tl)=some (.agg (mxA l tl)) :=
  ldV_all ht hs (mx_len hl rfl)
end

theorem all_int (l:List Int):(l.map (Value.int .i64)).all (·.oneCell')=true:=by
  rw[List.all_eq_true];intro v hv
  obtain ⟨x,_,rfl⟩:=List.mem_map.1 hv
  rfl

theorem stV_mi {l:List Int} {tl:List Value} {i:Nat} (x:Int) (hi:i<l.length):stV i (Value.int .i64 x).cells.toList (mxC l tl)=some (mxC (l.set i x) tl):=by
  have e:(Value.int .i64 x).cells.toList=[.int .i64 x]:=rfl
  have hle:Nat.ble (i+1) (mxC l tl).length=true:=by rw[Nat.ble_eq,mx_len rfl rfl];omega
  unfold stV
  rw[e]
  simp only[List.length_singleton,hle,List.all_cons,List.all_nil]
  have h1:(mxC (l.set i x) tl)=(mxC l tl).set i (.int .i64 x):=by
    unfold mxC
    rw[List.map_set,List.set_append_left _ _ (by simpa using hi)]
  rw[h1,List.set_eq_take_append_cons_drop,if_pos (by rw[mx_len rfl rfl];omega)]
  simp[Value.oneCell']

theorem stV_mall {vs cs:List Value} (hl:vs.length=cs.length) (ho:vs.all (·.oneCell')=true):stV 0 vs cs=some vs:=by
  have hle:Nat.ble (0+vs.length) cs.length=true:=by rw[Nat.ble_eq];omega
  unfold stV
  rw[hle,ho]
  simp[List.drop_eq_nil_of_le,hl]

theorem stV_ma {l l':List Int} {tl tl':List Value} {n:Nat} (h:l.length=n) (h':l'.length=n) (ht:tl'.length=tl.length) (ho:tl'.all (·.oneCell')=true) :
    stV 0 (Value.agg (mxA l' tl')).cells.toList (mxC l tl)=some (mxC l' tl'):=by
  refine stV_mall ?_ ?_
  · rw[mx_len h rfl];exact mx_len h' om
  · show(mxC l' tl').all _=true
    unfold mxC;rw[List.all_append,all_int,ho];rfl

theorem stV_mr {l l':List Int} {tl:List Value} (h:l'.length=l.length):stV 0 (l'.map (Value.int .i64)) (mxC l tl)=some (mxC l' tl):=by
  have hle:Nat.ble (0+(l'.map (Value.int .i64)).length) (mxC l tl).length=true:=by rw[Nat.ble_eq,mx_len rfl rfl,List.length_map];omega
  unfold stV
  rw[hle,all_int]
  unfold mxC
  simp[List.drop_append,h]

theorem stV_mt {l:List Int} {u v:Value} {n:Nat} (hl:l.length=n) (ho:v.oneCell'=true):stV n [v] (mxC l [u])=some (mxC l [v]):=by
  have hle:Nat.ble (n+1) (mxC l [u]).length=true:=by rw[Nat.ble_eq,mx_len hl rfl];exact Nat.le_refl _
  unfold stV
  rw[List.length_singleton,hle]
  unfold mxC
  simp[List.take_append,List.drop_append,hl,ho]

theorem mx_size {l:List Int} {tl:List Value} {n k:Nat} (h:l.length=n) (hk:n+tl.length=k):(Value.agg (mxA l tl)).cells.size=k:=mx_len h hk
section
variable {P:Program} {f:FuncId} {N:Nat} {R:Value→World→Prop}
theorem OK.ldM {w0 w:World} {L:List Claim} (S:Sep w0 L w) (i:Nat) {b:Nat} {rs:List Int} {tl:List Value} {T:TypeId} {K:List Item} {env:Env} (hi:L[i]? =some (box b (mxC rs tl) T)) (d:Nat) (t:TypeId) (n:Nat) (hl:rs.length=n)
    (h:ldAt N K env=some (some d,t,⟨b,0,none⟩):=by kernel_rfl) (ht:(P.underlying t).map aggB=some true:=by kernel_rfl) (hs:(P.info? t).map (·.size)=some (n+tl.length):=by kernel_rfl):OK P N K env w (some d) (.agg (mxA rs tl)) w :=
  OK.ldBox S i d t 0 _ h hi (eJ ht hs hl)
theorem OK.ldMi {w0 w:World} {L:List Claim} (S:Sep w0 L w) (i:Nat) {b:Nat} {rs:List Int} {tl:List Value} {T:TypeId} {K:List Item} {env:Env} (hi:L[i]? =some (box b (mxC rs tl) T)) (d:Nat) (t:TypeId) (k:Nat)
    (h:ldAt N K env=some (some d,t,⟨b,k,none⟩):=by kernel_rfl) (ht:(P.underlying t).map aggB=some false:=by kernel_rfl) (hs:(P.info? t).isSome=true:=by kernel_rfl) (hk:k<rs.length:=by first | omega | (simp;omega)):OK P N K env w (some d) (.int .i64 (rs.getD k 0)) w :=
  OK.ldBox S i d t k _ h hi (ldV_mi ht hs hk)
theorem OK.ldMt {w0 w:World} {L:List Claim} (S:Sep w0 L w) (i:Nat) {b:Nat} {rs:List Int} {v:Value} {T:TypeId} {K:List Item} {env:Env} (hi:L[i]? =some (box b (mxC rs [v]) T)) (d:Nat) (t:TypeId) (n:Nat) (hl:rs.length=n)
    (h:ldAt N K env=some (some d,t,⟨b,n,none⟩):=by kernel_rfl) (ht:(P.underlying t).map aggB=some false:=by kernel_rfl) (hs:(P.info? t).isSome=true:=by kernel_rfl):OK P N K env w (some d) v w :=
  OK.ldBox S i d t n _ h hi (ldV_mt ht hs hl (Nat.le_refl _) (by rw[Nat.sub_self];rfl))
theorem J.stM {w0 w:World} {L:List Claim} (S:Sep w0 L w) (i:Nat) {b:Nat} {rs:List Int} {tl:List Value} {T:TypeId} {K:List Item} {env:Env} (hi:L[i]? =some (box b (mxC rs tl) T)) (n:Nat) (rs':List Int) (tl':List Value) {L':List Claim} (hL:L.set i (box b (mxC rs' tl') T)=L') (hl:rs.length=n) (hl':rs'.length=n)
    (k:∀ w',Sep w0 L' w'→J P f N R (eO K) env w') (h:stAt N K env=some (none,T,⟨b,0,none⟩,.agg (mxA rs' tl')):=by kernel_rfl) (hs:(P.info? T).map (·.size)=some (n+tl'.length):=by kernel_rfl) (ht:tl'.length=tl.length:=by rfl) (ho:tl'.all (·.oneCell')=true:=by rfl):J P f N R K env w :=
  J.stBox S i T 0 _ (mxC rs' tl') L' h hi (by rw[mx_size hl' rfl];exact hs) (stV_ma hl hl' ht ho) hL k
theorem J.stMi {w0 w:World} {L:List Claim} (S:Sep w0 L w) (i:Nat) {b:Nat} {rs:List Int} {tl:List Value} {T:TypeId} {K:List Item} {env:Env} (hi:L[i]? =some (box b (mxC rs tl) T)) (t:TypeId) (j:Nat) (x:Int) {L':List Claim} (hL:L.set i (box b (mxC (rs.set j x) tl) T)=L')
    (k:∀ w',Sep w0 L' w'→J P f N R (eO K) env w') (h:stAt N K env=some (none,t,⟨b,j,none⟩,.int .i64 x):=by kernel_rfl) (hs:(P.info? t).map (·.size)=some 1:=by kernel_rfl) (hj:j<rs.length:=by first | omega | (simp;omega)):J P f N R K env w :=
  J.stBox S i t j _ (mxC (rs.set j x) tl) L' h hi hs (stV_mi x hj) hL k
theorem J.stMt {w0 w:World} {L:List Claim} (S:Sep w0 L w) (i:Nat) {b:Nat} {rs:List Int} {u:Value} {T:TypeId} {K:List Item} {env:Env} (hi:L[i]? =some (box b (mxC rs [u]) T)) (t:TypeId) (n:Nat) (a:Option Addr) (m c:Nat) {L':List Claim} (hL:L.set i (box b (mxC rs [.slice a m c]) T)=L') (hl:rs.length=n)
    (k:∀ w',Sep w0 L' w'→J P f N R (eO K) env w') (h:stAt N K env=some (none,t,⟨b,n,none⟩,.slice a m c):=by kernel_rfl) (hs:(P.info? t).map (·.size)=some 1:=by kernel_rfl):J P f N R K env w :=
  J.stBox S i t n _ (mxC rs [.slice a m c]) L' h hi hs (stV_mt hl rfl) hL k
end
end Go.Eng

