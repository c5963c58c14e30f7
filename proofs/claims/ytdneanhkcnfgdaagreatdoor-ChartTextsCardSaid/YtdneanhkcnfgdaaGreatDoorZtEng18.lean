/- The proof engine, short forms: a run and what follows it in one step; what is cF of the frame only grows. Conditions: none; it is generic in the program. -/
import Derived.Test.YtdneanhkcnfgdaaGreatDoorZtEng
set_option linter.unusedSimpArgs false
set_option linter.unusedVariables false
namespace Go.Eng
open Go.RowKit

def appE:Env→Env→Env
  | [],e=>e
  | p::l,e=>p::appE l e

def cq:List Nat→Env→Env
  | [],e=>e
  | d::ds,e=>cq ds (e.filter fun p=> !(Nat.beq p.1 d))

def inE (t:Nat) (l:Env):Bool:=l.any fun q=>Nat.beq q.1 t

def valsE (new:Env):List (Option Value):=new.map fun p=>some p.2

theorem appE_eq (l e:Env):appE l e=l++e:=by
  induction l with
  | nil=>rfl
  | cons p l ih=>simp[appE,ih]

theorem dropE_sub (ds:List Nat):∀ (e:Env) {t:Nat} {v:Value},bF (cq ds e) t=some v→bF e t=some v∧inE t (cq ds e)=true:=by
  have key:∀ (e:Env) {t:Nat} {v:Value},bF e t=some v→inE t e=true:=by
    intro e
    induction e with
    | nil=>intro t v h;cases h
    | cons p e ih =>
      intro t v h
      obtain ⟨s,u⟩:=p
      rw[bO] at h
      simp only[inE,List.any_cons,Bool.or_eq_true]
      by_cases hs:s=t
      · exact .inl (by subst hs;simp)
      · rw[if_neg hs] at h;exact .inr (ih h)
  have one:∀ (d:Nat) (e:Env) {t:Nat} {v:Value},bF (e.filter fun p=> !(Nat.beq p.1 d)) t=some v→bF e t=some v:=by
    intro d e
    induction e with
    | nil=>intro t v h;cases h
    | cons p e ih =>
      intro t v h
      obtain ⟨s,u⟩:=p
      rw[bO]
      simp only[List.filter_cons] at h
      split at h
      · rw[bO] at h
        by_cases hs:s=t
        · rw[if_pos hs] at h ⊢;exact h
        · rw[if_neg hs] at h ⊢;exact ih h
      · rename_i hd
        have:s=d:=by simpa using hd
        by_cases hs:s=t
        · subst hs;subst this
          have hn:∀ (e:Env),bF (e.filter fun p=> !(Nat.beq p.1 s)) s=none:=by
            intro e
            induction e with
            | nil=>rfl
            | cons q e ih2 =>
              obtain ⟨a,b⟩:=q
              simp only[List.filter_cons]
              split
              · rename_i hq
                rw[bO,if_neg (fun e_=>by rw[e_] at hq;simp at hq)];exact ih2
              · exact ih2
          rw[hn] at h;cases h
        · rw[if_neg hs];exact ih h
  have all:∀ (ds:List Nat) (e:Env) {t:Nat} {v:Value},bF (cq ds e) t=some v→bF e t=some v:=by
    intro ds
    induction ds with
    | nil=>intro e t v h;exact h
    | cons d ds ih=>intro e t v h;exact one d e (ih _ h)
  intro e t v h
  exact⟨all ds e h,key _ h⟩

section
variable {P:Program} {f:FuncId} {N:Nat} {R:Value→World→Prop}

theorem cond_some {α:Type} {c:Bool} {x:Option α} {y:α} (h:(bif c then x else none)=some y):c=true∧x=some y:=by
  cases c with
  | true=>exact⟨rfl,h⟩
  | false=>cases h

theorem micro_puts {K K':List Item} {env env':Env} {w w':World} (h:micro P N K env w=some (K',env',w')):∃ ps,env'=ps++env:=by
  unfold micro at h
  split at h
  all_goals first
    | (simp only[Option.some.injEq,Prod.mk.injEq] at h;obtain ⟨_,rfl,_⟩:=h;exact⟨[],rfl⟩)
    | skip
  · cases hk:cF env _<;>rw[hk] at h
    · cases h
    · simp only[cond_true] at h
      split at h
      · simp only[Option.some.injEq,Prod.mk.injEq] at h;obtain ⟨_,rfl,_⟩:=h;exact⟨[],rfl⟩
      · cases h
  · split at h
    · simp only[Option.some.injEq,Prod.mk.injEq] at h;obtain ⟨_,rfl,_⟩:=h;exact⟨[],rfl⟩
    · cases h
  · have hp:∀ (d:Option Nat) (v:Value),∃ ps,put env d v=ps++env:=fun d v=>by
      cases d with
      | none=>exact⟨[],rfl⟩
      | some t=>exact⟨[(t,v)],rfl⟩
    split at h
    · cases h
    · rename_i o ho
      obtain ⟨_,h⟩:=cond_some h
      split at h
      · cases h
      · simp only[Option.some.injEq,Prod.mk.injEq] at h;obtain ⟨_,rfl,_⟩:=h;exact hp _ _
      · obtain ⟨_,h⟩:=cond_some h
        split at h
        · simp only[Option.some.injEq,Prod.mk.injEq] at h;obtain ⟨_,rfl,_⟩:=h;exact hp _ _
        · simp only[Option.some.injEq,Prod.mk.injEq] at h;obtain ⟨_,rfl,_⟩:=h;exact hp _ _
        · cases h
  · cases h

theorem exec_puts:∀ (n:Nat) {K K':List Item} {env env':Env} {w w':World},exec P N n K env w=some (K',env',w')→∃ ps,env'=ps++env:=by
  intro n
  induction n with
  | zero=>intro K K' env env' w w' h;simp only[exec,Option.some.injEq,Prod.mk.injEq] at h;obtain ⟨_,rfl,_⟩:=h;exact⟨[],rfl⟩
  | succ n ih =>
    intro K K' env env' w w' h
    simp only[exec] at h
    split at h
    · rename_i k' e' w2 hm
      obtain ⟨p1,h1⟩:=micro_puts hm
      obtain ⟨p2,h2⟩:=ih h
      exact⟨p2++p1,by rw[h2,h1,List.append_assoc]⟩
    · cases h

def safeE (new old ps:Env):Bool:=ps.all fun p=>inE p.1 new|| !(inE p.1 old)

def goF {β:Type} (P:Program) (N n:Nat) (K:List Item) (env:Env) (w:World) (new:Env) (ds:List Nat) (F:List Item→Env→β):Option (List Item×World×List (Option Value)×Bool×β) :=
  (exec P N n K env w).map fun s=>(s.1,s.2.2,new.map (fun p=>bF s.2.1 p.1),safeE new (cq ds env) (s.2.1.take (s.2.1.length-env.length)),F s.1 s.2.1)

theorem look_app {l e:Env} {t:Nat} {v:Value} (h:bF (l++e) t=some v):bF l t=some v∨inE t l=false∧bF e t=some v:=by
  induction l with
  | nil=>exact .inr ⟨rfl,h⟩
  | cons p l ih =>
    obtain ⟨s,u⟩:=p
    rw[List.cons_append,bO] at h
    rw[bO]
    by_cases hs:s=t
    · rw[if_pos hs] at h ⊢;exact .inl h
    · rw[if_neg hs] at h ⊢
      rcases ih h with h1 | ⟨h1,h2⟩
      · exact .inl h1
      · refine .inr ⟨?_,h2⟩
        have:inE t ((s,u)::l)=(Nat.beq s t||inE t l):=rfl
        rw[this,h1,Bool.or_false]
        cases hx:Nat.beq s t with
        | false=>rfl
        | true=>exact absurd (Nat.eq_of_beq_eq_true hx) hs

theorem look_app_ne {l e:Env} {t:Nat} (h:inE t l=false):bF (l++e) t=bF e t:=by
  induction l with
  | nil=>rfl
  | cons p l ih =>
    obtain ⟨s,u⟩:=p
    have e1:inE t ((s,u)::l)=(Nat.beq s t||inE t l):=rfl
    rw[e1,Bool.or_eq_false_iff] at h
    rw[List.cons_append,bO,if_neg (fun hs=>by rw[hs] at h;simp at h),ih h.2]

theorem J.go {β:Type} {n:Nat} {K:List Item} {env:Env} {w:World} {new:Env} {ds:List Nat} {F:List Item→Env→β} {b:β} {K':List Item} 
    (h:goF P N n K env w new ds F=some (K',w,valsE new,true,b))
    (k:∀ env2,(∀ t v,bF (appE new (cq ds env)) t=some v→bF env2 t=some v)→F K' env2=b→J P f N R K' env2 w):J P f N R K env w:=by
  intro a hf
  unfold goF at h
  cases he:Eng.exec P N n K env w with
  | none=>rw[he] at h;cases h
  | some s =>
    obtain ⟨K2,env2,w2⟩:=s
    rw[he] at h
    simp only[Option.map_some,Option.some.injEq,Prod.mk.injEq] at h
    obtain ⟨rfl,rfl,hv,hs,hb⟩:=h
    refine Ja.exec n hf he fun a' hf'=>k env2 (fun t v ht=>?_) hb a' hf'
    rw[appE_eq] at ht
    rcases look_app ht with h1 | ⟨h1,h2⟩
    · have key:∀ (l:Env),(l.map fun p=>bF env2 p.1)=l.map (fun p=>some p.2)→∀ t v,bF l t=some v→bF env2 t=some v:=by
        intro l
        induction l with
        | nil=>intro _ t v h;cases h
        | cons p l ih =>
          intro e t v hl
          obtain ⟨s,u⟩:=p
          simp only[List.map_cons,List.cons.injEq] at e
          rw[bO] at hl
          by_cases hst:s=t
          · subst hst;rw[if_pos rfl] at hl;cases hl;exact e.1
          · rw[if_neg hst] at hl;exact ih e.2 t v hl
      exact key new hv t v h1
    · obtain ⟨h3,h4⟩:=dropE_sub ds env h2
      obtain ⟨ps,rfl⟩:=exec_puts n he
      have e1:(ps++env).take ((ps++env).length-env.length)=ps:=by simp
      rw[e1] at hs
      cases hp:inE t ps with
      | false=>rw[look_app_ne hp];exact h3
      | true =>
        have:∃ q ∈ ps,Nat.beq q.1 t=true:=List.any_eq_true.1 hp
        obtain ⟨q,hq,hqt⟩:=this
        have hqt:=Nat.eq_of_beq_eq_true hqt
        have:=List.all_eq_true.1 hs q hq
        rw[hqt,h1,h4] at this
        cases this

theorem J.less {K:List Item} {env env':Env} {w:World} (h:∀ t v,bF env' t=some v→bF env t=some v) (k:J P f N R K env' w):J P f N R K env w :=
  fun a hf=>k a ⟨hf.size,hf.defers,fun t v ht=>hf.slot t v (h t v ht)⟩

theorem less_cons {env env':Env} (h:∀ t v,bF env' t=some v→bF env t=some v) (d:Nat) (u:Value):∀ t v,bF ((d,u)::env') t=some v→bF ((d,u)::env) t=some v:=by
  intro t v ht
  rw[bO] at ht ⊢
  split at ht
  · rename_i e;rw[if_pos e];exact ht
  · rename_i e;rw[if_neg e];exact h t v ht

variable {K:List Item} {env:Env} {w:World}

theorem J.r (n:Nat) (cs:List Bool) (new:Env) (ds:List Nat) (k:J P f N R (adv n cs K) (appE new (cq ds env)) w)
    (h:goF P N n K env w new ds (fun _ _=>())=some (adv n cs K,w,valsE new,true,()):=by kernel_rfl):J P f N R K env w :=
  J.go h fun _ hs _=>k.less hs

theorem J.t (n:Nat) {K':List Item} {env':Env} {w':World} (k:J P f N R K' env' w')
    (h:((Eng.exec P N n K env w).map fun s=>(s.1,(env'.map fun p=>bF s.2.1 p.1),s.2.2))=some (K',env'.map (fun p=>some p.2),w'):=by kernel_rfl):J P f N R K env w :=
  J.run n K' env' w' h k

theorem J.h (n:Nat) (cs:List Bool) (new:Env) (ds:List Nat) (t:Nat) (v v':Value) (hv:v=v') (k:J P f N R (adv n cs K) ((t,v')::appE new (cq ds env)) w)
    (h:goF P N n K env w ((t,v)::new) ds (fun _ _=>())=some (adv n cs K,w,valsE ((t,v)::new),true,()):=by kernel_rfl):J P f N R K env w:=by
  subst hv
  exact J.go h fun _ hs _=>k.less hs

theorem J.wi (n:Nat) (cs:List Bool) (new:Env) (ds:List Nat) (t:Nat) (x:Int) (k:J P f N R (adv n cs K) ((t,.int .i64 x)::appE new (cq ds env)) w)
    (hx: -9223372036854775808≤x∧x≤9223372036854775807:=by omega)
    (h:goF P N n K env w ((t,.int .i64 (IntKind.wrap .i64 x))::new) ds (fun _ _=>())=some (adv n cs K,w,valsE ((t,.int .i64 (IntKind.wrap .i64 x))::new),true,()):=by kernel_rfl):J P f N R K env w :=
  J.h n cs new ds t _ _ (congrArg (Value.int .i64) (IntWalk.i64_in _ hx)) k h

theorem J.c (n:Nat) (cs:List Bool) (new:Env) (ds:List Nat) (t:Nat) (p:Prop) [Decidable p] (k1:p→J P f N R (adv n cs K) ((t,.bool true)::appE new (cq ds env)) w)
    (k2:¬ p→J P f N R (adv n cs K) ((t,.bool false)::appE new (cq ds env)) w)
    (h:goF P N n K env w ((t,.bool (decide p))::new) ds (fun _ _=>())=some (adv n cs K,w,valsE ((t,.bool (decide p))::new),true,()):=by kernel_rfl):J P f N R K env w:=by
  by_cases hp:p
  · exact J.h n cs new ds t _ _ (congrArg Value.bool (decide_eq_true hp)) (k1 hp) h
  · exact J.h n cs new ds t _ _ (congrArg Value.bool (decide_eq_false hp)) (k2 hp) h

theorem J.cn (n:Nat) (cs:List Bool) (new:Env) (ds:List Nat) (t:Nat) (p:Prop) [Decidable p] (k1:p→J P f N R (adv n cs K) ((t,.bool false)::appE new (cq ds env)) w)
    (k2:¬ p→J P f N R (adv n cs K) ((t,.bool true)::appE new (cq ds env)) w)
    (h:goF P N n K env w ((t,.bool (!decide p))::new) ds (fun _ _=>())=some (adv n cs K,w,valsE ((t,.bool (!decide p))::new),true,()):=by kernel_rfl):J P f N R K env w:=by
  by_cases hp:p
  · exact J.h n cs new ds t _ _ (congrArg Value.bool (by simp[hp])) (k1 hp) h
  · exact J.h n cs new ds t _ _ (congrArg Value.bool (by simp[hp])) (k2 hp) h

theorem J.b (n:Nat) (cs:List Bool) (new:Env) (ds:List Nat) (t:Nat) (e:Bool) (k1:e=true→J P f N R (adv n cs K) ((t,.bool true)::appE new (cq ds env)) w)
    (k2:e=false→J P f N R (adv n cs K) ((t,.bool false)::appE new (cq ds env)) w)
    (h:goF P N n K env w ((t,.bool e)::new) ds (fun _ _=>())=some (adv n cs K,w,valsE ((t,.bool e)::new),true,()):=by kernel_rfl):J P f N R K env w:=by
  cases e with
  | true=>exact J.go h fun _ hs _=>(k1 rfl).less hs
  | false=>exact J.go h fun _ hs _=>(k2 rfl).less hs

theorem J.bn (n:Nat) (cs:List Bool) (new:Env) (ds:List Nat) (t:Nat) (e:Bool) (k1:e=true→J P f N R (adv n cs K) ((t,.bool false)::appE new (cq ds env)) w)
    (k2:e=false→J P f N R (adv n cs K) ((t,.bool true)::appE new (cq ds env)) w)
    (h:goF P N n K env w ((t,.bool (!e))::new) ds (fun _ _=>())=some (adv n cs K,w,valsE ((t,.bool (!e))::new),true,()):=by kernel_rfl):J P f N R K env w:=by
  cases e with
  | true=>exact J.go h fun _ hs _=>(k1 rfl).less hs
  | false=>exact J.go h fun _ hs _=>(k2 rfl).less hs

def ldB (P:Program) (N:Nat) (cs:List Value) (K:List Item) (env:Env):Option (Nat×Nat×Value) :=
  match ldAt N K env with
  | some (some d,t,⟨b,off,none⟩)=>(ldV P t off cs).map fun v=>(d,b,v)
  | _=>none

theorem J.lb {w0:World} {L:List Claim} (n:Nat) (cs:List Bool) (new:Env) (ds:List Nat) (S:Sep w0 L w) (i:Nat) {b:Nat} {vs:List Value} {T:TypeId} (hi:L[i]? =some (box b vs T)) (d:Nat) (v:Value)
    (k:J P f N R (aK (adv n cs K)) ((d,v)::appE new (cq ds env)) w)
    (h:goF P N n K env w new ds (ldB P N vs)=some (adv n cs K,w,valsE new,true,some (d,b,v)):=by kernel_rfl):J P f N R K env w:=by
  refine J.go h fun env2 hs hb=>?_
  unfold ldB at hb
  split at hb
  · rename_i d' t b' off hl
    obtain ⟨v',hv,he⟩:=Option.map_eq_some_iff.1 hb
    simp only[Prod.mk.injEq] at he
    obtain ⟨rfl,rfl,rfl⟩:=he
    exact J.ok (OK.ldBox S i d' t off v' hl hi hv) (k.less (less_cons hs _ _))
  · cases hb

theorem J.nw {w0:World} {L:List Claim} (n:Nat) (cs:List Bool) (new:Env) (ds:List Nat) (S:Sep w0 L w) (d:Nat) (vs:List Value) (T:TypeId)
    (k:∀ b w',Sep w0 (box b vs T::L) w'→J P f N R (aK (adv n cs K)) ((d,.pointer (some ⟨b,0,none⟩))::appE new (cq ds env)) w')
    (h:goF P N n K env w new ds (fun K e=>opRun P N K e w)=some (adv n cs K,w,valsE new,true,some (some d,.ok (.value (.pointer (some ⟨w.heap.size,0,none⟩))) (w.alloc (.cells vs.toArray T)))):=by kernel_rfl):J P f N R K env w:=by
  refine J.go h fun env2 hs hb=>?_
  exact J.new S d vs T hb fun b w' S'=>(k b w' S').less (less_cons hs _ _)

def stB (P:Program) (N:Nat) (cs:List Value) (K:List Item) (env:Env):Option (Nat×List Value) :=
  match stAt N K env with
  | some (none,t,⟨b,off,none⟩,v) =>
    match P.info? t with
    | some i=>bif Nat.beq i.size v.cells.size then (stV off v.cells.toList cs).map fun c=>(b,c) else none
    | none=>none
  | _=>none

theorem J.sb {w0:World} {L:List Claim} (n:Nat) (cs:List Bool) (new:Env) (ds:List Nat) (S:Sep w0 L w) (i:Nat) {b:Nat} {vs:List Value} {T:TypeId} (hi:L[i]? =some (box b vs T)) (vs':List Value) {L':List Claim} (hL:L.set i (box b vs' T)=L')
    (k:∀ w',Sep w0 L' w'→J P f N R (aK (adv n cs K)) (appE new (cq ds env)) w')
    (h:goF P N n K env w new ds (stB P N vs)=some (adv n cs K,w,valsE new,true,some (b,vs')):=by kernel_rfl):J P f N R K env w:=by
  refine J.go h fun env2 hs hb=>?_
  unfold stB at hb
  split at hb
  · rename_i t b' off v hst
    split at hb
    · rename_i inf hin
      generalize hbe:Nat.beq inf.size v.cells.size=bb at hb
      cases bb with
      | false=>cases hb
      | true =>
        simp only[cond_true] at hb
        obtain ⟨c,hv,he⟩:=Option.map_eq_some_iff.1 hb
        simp only[Prod.mk.injEq] at he
        obtain ⟨rfl,rfl⟩:=he
        exact J.stBox S i t off v c L' hst hi (by rw[hin];exact congrArg some (Nat.eq_of_beq_eq_true hbe)) hv hL fun w' S'=>(k w' S').less hs
    · cases hb
  · cases hb

theorem J.cf (n:Nat) (cs:List Bool) (new:Env) (ds:List Nat) (d:Nat) {g:FuncId} {args:Array Value} (hb:aJ P g) {Q:Value→World→Prop} (hc:Ret P g args w Q)
    (k:∀ v w',Q v w'→J P f N R (aK (adv n cs K)) ((d,v)::appE new (cq ds env)) w')
    (h:goF P N n K env w new ds (callAt N)=some (adv n cs K,w,valsE new,true,some (some d,g,args)):=by kernel_rfl):J P f N R K env w:=by
  refine J.go h fun env2 hs hq=>?_
  exact J.callF d g args hb hq hc fun v w' q=>(k v w' q).less (less_cons hs _ _)

theorem J.cs {w0:World} {L M:List Claim} (n:Nat) (cs:List Bool) (new:Env) (ds:List Nat) (S:Sep w0 L w) (d:Nat) {g:FuncId} {args:Array Value} (hb:aJ P g) {V:Value}
    (hc:Ret P g args w fun v w'=>v=V∧Sep w M w') (k:∀ w',Sep w0 (M++L) w'→J P f N R (aK (adv n cs K)) ((d,V)::appE new (cq ds env)) w')
    (h:goF P N n K env w new ds (callAt N)=some (adv n cs K,w,valsE new,true,some (some d,g,args)):=by kernel_rfl):J P f N R K env w:=by
  refine J.cf n cs new ds d hb hc (fun v w' q=>?_) h
  obtain ⟨rfl,T⟩:=q
  exact k w' (S.trans T)

theorem J.c0 {w0:World} {L:List Claim} (n:Nat) (cs:List Bool) (new:Env) (ds:List Nat) (S:Sep w0 L w) (d:Nat) {g:FuncId} {args:Array Value} (hb:aJ P g) {V:Value}
    (hc:Ret P g args w fun v w'=>v=V∧Sep w [] w') (k:∀ w',Sep w0 L w'→J P f N R (aK (adv n cs K)) ((d,V)::appE new (cq ds env)) w')
    (h:goF P N n K env w new ds (callAt N)=some (adv n cs K,w,valsE new,true,some (some d,g,args)):=by kernel_rfl):J P f N R K env w :=
  J.cs n cs new ds S d hb hc k h

def retB (fn:Func) (K:List Item) (env:Env):Option (List (Option Value)) :=
  match K with
  | [] | .code .ret::_=>some (fn.results.toList.map fun r=>match r with | .tmp t=>bF env t | _=>none)
  | _=>none

theorem resRun_tmps {env:Env}:∀ (rs:List ResultVar) (vs:List Value),(rs.map fun r=>match r with | .tmp t=>bF env t | _=>none)=vs.map some→resRun P env w rs vs
  | [],[],_=>trivial
  | [],_::_,h=>by cases h
  | _::_,[],h=>by cases h
  | .tmp t::rs,v::vs,h=>by
    simp only[List.map_cons,List.cons.injEq] at h
    exact⟨h.1,resRun_tmps rs vs h.2⟩
  | .cell p t::rs,v::vs,h=>by
    simp only[List.map_cons,List.cons.injEq] at h
    cases h.1

theorem J.e (n:Nat) (vs:List Value) {fn:Func} (hfn:P.funcs[f]? =some fn) (hR:R (tup vs) w)
    (h:((Eng.exec P N n K env w).map fun s=>(s.2.2,retB fn s.1 s.2.1))=some (w,some (vs.map some)):=by kernel_rfl):J P f N R K env w:=by
  intro a hf
  cases he:Eng.exec P N n K env w with
  | none=>rw[he] at h;cases h
  | some s =>
    obtain ⟨K2,env2,w2⟩:=s
    rw[he] at h
    simp only[Option.map_some,Option.some.injEq,Prod.mk.injEq] at h
    obtain ⟨rfl,hb⟩:=h
    refine Ja.exec n hf he fun a' hf'=>?_
    unfold retB at hb
    split at hb
    · exact J.done fn vs hfn (resRun_tmps _ _ (Option.some.inj hb)) hR a' hf'
    · exact J.ret fn vs hfn (resRun_tmps _ _ (Option.some.inj hb)) hR a' hf'
    · cases hb

def enumE:Nat→List Value→Env
  | _,[]=>[]
  | i,v::vs=>(i,v)::enumE (i+1) vs

theorem Ret.st {g:FuncId} {fn:Func} {args:Array Value} {Q:Value→World→Prop} (hf:P.funcs[g]? =some fn)
    (k:∀ R:Value→World→Prop,(∀ v w',Q v w'→R v w')→Sep w [] w→J P g N R (aY fn) (enumE 0 args.toList) w)
    (h:(fn.body.isSome,fn.ntmps,Nat.ble args.size N,((enumE 0 args.toList).map fun p=>args[p.1]?))=(true,N,true,(enumE 0 args.toList).map fun p=>some p.2):=by kernel_rfl):Ret P g args w Q:=by
  simp only[Prod.mk.injEq] at h
  obtain ⟨h1,h2,h3,h4⟩:=h
  refine Ret.named fun R hR=>?_
  cases hb:fn.body with
  | none=>rw[hb] at h1;cases h1
  | some c=>exact Ret.of_J _ hf hb h2 (Nat.le_of_ble_eq_true h3) h4 (k R hR (Sep.refl w))

theorem SL.r {n i:Nat} (d:Nat) (v:Value) (k:SL P f N R K n (i+1) ((d,v)::env) w) (hn:Nat.ble (i+1) n=true:=by kernel_rfl)
    (h:opRun P N (bU (bq K) i) env w=some (some d,.ok (.value v) w):=by kernel_rfl):SL P f N R K n i env w :=
  SL.ok (Nat.le_of_ble_eq_true hn) (OK.run d v h) k

theorem SL.p {n i:Nat} (d:Option Nat) (k:SL P f N R K n (i+1) (put env d undef) w) (hn:Nat.ble (i+1) n=true:=by kernel_rfl)
    (h:passAt N (bq K) i env=some d:=by kernel_rfl):SL P f N R K n i env w :=
  SL.pass (Nat.le_of_ble_eq_true hn) h k

theorem TL.r {i:Nat} (d:Nat) (v:Value) (k:TL P f N R K (i+1) ((d,v)::env) w)
    (h:opRun P N (bU (bq K) i) env w=some (some d,.ok (.value v) w):=by kernel_rfl):TL P f N R K i env w :=
  TL.ok (OK.run d v h) k

theorem SL.lb {w0:World} {L:List Claim} {n i:Nat} (S:Sep w0 L w) (j:Nat) {b:Nat} {vs:List Value} {T:TypeId} (hi:L[j]? =some (box b vs T)) (d:Nat) (v:Value)
    (k:SL P f N R K n (i+1) ((d,v)::env) w) (hn:Nat.ble (i+1) n=true:=by kernel_rfl)
    (h:ldB P N vs (bU (bq K) i) env=some (d,b,v):=by kernel_rfl):SL P f N R K n i env w:=by
  unfold ldB at h
  split at h
  · rename_i d' t b' off hl
    obtain ⟨v',hv,he⟩:=Option.map_eq_some_iff.1 h
    simp only[Prod.mk.injEq] at he
    obtain ⟨rfl,rfl,rfl⟩:=he
    exact SL.ok (Nat.le_of_ble_eq_true hn) (OK.ldBox S j d' t off v' hl hi hv) k
  · cases h
end
end Go.Eng

