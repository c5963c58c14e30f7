/- The proof engine of these claims: symbolic execution of a function's code over a partial frame ('Env'), checked by the kernel. Conditions: none; it is generic in the program. -/
import Derived.Calls
import Derived.Orders
import Derived.Scope
import Derived.KernelRfl
import Derived.WalkKit
import Derived.PlainAid
import Derived.StillTail
import Derived.Deep.Quiet
import Derived.ChangeKeysEq
set_option linter.unusedSimpArgs false
set_option linter.unusedVariables false
namespace Go.Eng
theorem kr {p:Prop} (h:p:=by kernel_rfl):p:=h
theorem om {p:Prop} (h:p:=by omega):p:=h
theorem oz {p:Prop} (h:p:=by first | omega | (simp;omega)):p:=h
theorem dE {p:Prop} (h:p:=by decide):p:=h
theorem cO {p:Prop} (h:p:=by constructor<;>omega):p:=h
theorem nO {p:Prop} (h:p:=by rw[Nat.mul_one]):p:=h
theorem rO {p:Prop} (h:p:=by first | rfl | omega | simp):p:=h
theorem zO {p:Prop} (h:p:=by first | rfl | (rw[Nat.zero_add,Nat.mul_one])):p:=h
theorem rF {p:Prop} (h:p:=by rfl):p:=h
theorem aS0 {p:Prop} (h:p:=by assumption):p:=h
theorem sA {p:Prop} (h:p:=by simpa):p:=h

abbrev Env:=List (Nat×Value)

def cT:List (Nat×Value)→Nat→Option Value
  | [],_=>none
  | (s,v)::r,t=>bif Nat.beq s t then some v else cT r t

def ev (env:Env):Operand→Value
  | .tmp t=>match cT env t with | some v=>v | none=>undef
  | .const v=>v
  | .global g=>.pointer (some ⟨g,0,none⟩)
  | .func f=>.func (.func f) #[] #[]

def eo (env:Env):Operand→Bool
  | .tmp t=>(cT env t).isSome
  | _=>true

def put (env:Env) (d:Option Nat) (v:Value):Env:=match d with | some t=>(t,v)::env | none=>env

structure Fits (N:Nat) (env:Env) (a:Act):Prop where
  size:a.tmps.size=N
  defers:a.defers=[]
  slot:∀ t v,cT env t=some v→a.tmps[t]? =some v

theorem dr (s:Nat) (v:Value) (r:Env) (t:Nat):cT ((s,v)::r) t=if s=t then some v else cT r t:=by
  by_cases h:s=t
  · subst h;simp[cT]
  · have hb:Nat.beq s t=false:=by cases hx:Nat.beq s t with | false=>rfl | true=>exact absurd (Nat.eq_of_beq_eq_true hx) h
    simp[cT,h,hb]

theorem Fits.ev_eq {N:Nat} {env:Env} {a:Act} (h:Fits N env a) {x:Operand} (hx:eo env x=true):a.eval x=ev env x:=by
  cases x with
  | tmp t =>
    simp only[eo] at hx
    cases hl:cT env t with
    | none=>rw[hl] at hx;cases hx
    | some v=>simp[Act.eval,ev,hl,h.slot t v hl]
  | const v=>rfl
  | global g=>rfl
  | func f=>rfl

theorem Fits.put {N:Nat} {env:Env} {a:Act} (h:Fits N env a) (d:Option Nat) (v:Value) (hd:∀ t,d=some t→t<N):Fits N (Eng.put env d v) (a.put d v):=by
  cases d with
  | none=>exact h
  | some t =>
    have ht:=hd t rfl
    refine⟨by simp[Act.put,h.size],h.defers,fun s u hs=>?_⟩
    simp only[Eng.put,dr] at hs
    simp only[Act.put]
    by_cases e:t=s
    · subst e;simp at hs;subst hs
      simp[h.size,ht]
    · rw[if_neg e] at hs
      rw[Array.getElem?_setIfInBounds_ne e]
      exact h.slot s u hs

def wantE (ops:Array Oper) (env:Env) (o:Oper):Option Bool :=
  match o.guard with
  | none=>some true
  | some (j,want) =>
    match ops[j]? with
    | none=>some false
    | some p =>
      match p.dst with
      | none=>some false
      | some t =>
        match cT env t with
        | some (.bool b)=>some (b==want)
        | some (.tuple _)=>some false
        | _=>none

theorem wantE_spec {N:Nat} {ops:Array Oper} {env:Env} {o:Oper} {a:Act} {b:Bool} (hf:Fits N env a) (h:wantE ops env o=some b) :
    Region.wanted o (yielded ops a.tmps)=b:=by
  unfold wantE at h
  unfold Region.wanted
  cases hg:o.guard with
  | none=>rw[hg] at h;simpa using h
  | some jw =>
    obtain ⟨j,want⟩:=jw
    rw[hg] at h
    simp only at h ⊢
    unfold yielded
    cases hp:ops[j]? with
    | none=>rw[hp] at h;simp at h;subst h;rfl
    | some p =>
      rw[hp] at h
      simp only at h
      cases ht:p.dst with
      | none=>rw[ht] at h;simp at h;subst h;simp[ht]
      | some t =>
        rw[ht] at h
        simp only at h
        cases hl:cT env t with
        | none=>rw[hl] at h;cases h
        | some v =>
          rw[hl] at h
          have hs:=hf.slot t v hl
          simp only[Option.bind_some,ht,hs]
          cases v<;>simp_all<;>(subst h;rfl)

def noSel:Op→Bool | .select .. =>false | _=>true

def micro (P:Program) (N:Nat):List Item→Env→World→Option (List Item×Env×World)
  | .code .skip::k,env,w | .code (.label _)::k,env,w | .inBlock _::k,env,w | .inScope _::k,env,w=>some (k,env,w)
  | .code (.seq x y)::k,env,w=>some (.code x::.code y::k,env,w)
  | .code (.cond c x y)::k,env,w=>bif eo env c then (match ev env c with | .bool b=>some (.code (if b then x else y)::k,env,w) | _=>none) else none
  | .code (.block id c)::k,env,w=>some (.code c::.inBlock id::k,env,w)
  | .code (.scope c)::k,env,w=>some (.code c::.inScope c::k,env,w)
  | .code (.loop c)::k,env,w | .inLoop c::k,env,w=>some (.code c::.inLoop c::k,env,w)
  | .code (.exit id)::k,env,w=>match exitTo id k with | some k'=>some (k',env,w) | none=>none
  | .code (.region _ ops false)::k,env,w=>some (.inRegion ops (List.range ops.size)::k,env,w)
  | .inRegion _ []::k,env,w=>some (k,env,w)
  | .inRegion ops (i::rest)::k,env,w =>
    match ops[i]? with
    | none=>none
    | some o =>
      bif (match o.dst with | some t=>Nat.ble (t+1) N | none=>true) then
        match wantE ops env o with
        | none=>none
        | some false=>some (.inRegion ops rest::k,put env o.dst undef,w)
        | some true =>
          bif (noSel o.op&&o.op.operands.toList.all (eo env)) then
            match (execOp (ev env) o).run P w with
            | .ok (.value v) w'=>some (.inRegion ops rest::k,put env o.dst v,w')
            | .ok .skip w'=>some (.inRegion ops rest::k,put env o.dst undef,w')
            | _=>none
          else none
      else none
  | _,_,_=>none

def exec (P:Program) (N:Nat):Nat→List Item→Env→World→Option (List Item×Env×World)
  | 0,k,env,w=>some (k,env,w)
  | n+1,k,env,w=>match micro P N k env w with | some (k',env',w')=>exec P N n k' env' w' | none=>none

def adv:Nat→List Bool→List Item→List Item
  | 0,_,k=>k
  | n+1,cs,.code .skip::k | n+1,cs,.code (.label _)::k | n+1,cs,.inBlock _::k | n+1,cs,.inScope _::k=>adv n cs k
  | n+1,cs,.code (.seq x y)::k=>adv n cs (.code x::.code y::k)
  | n+1,c::cs,.code (.cond _ x y)::k=>adv n cs (.code (bif c then x else y)::k)
  | n+1,cs,.code (.block id c)::k=>adv n cs (.code c::.inBlock id::k)
  | n+1,cs,.code (.scope c)::k=>adv n cs (.code c::.inScope c::k)
  | n+1,cs,.code (.loop c)::k | n+1,cs,.inLoop c::k=>adv n cs (.code c::.inLoop c::k)
  | n+1,cs,.code (.exit id)::k=>match exitTo id k with | some k'=>adv n cs k' | none=>[]
  | n+1,cs,.code (.region _ ops _)::k=>adv n cs (.inRegion ops (List.range ops.size)::k)
  | n+1,cs,.inRegion _ []::k=>adv n cs k
  | n+1,cs,.inRegion ops (_::rest)::k=>adv n cs (.inRegion ops rest::k)
  | _+1,_,_=>[]

def bi (f:Func):List Item:=match f.body with | some c=>[.code c] | none=>[]

def base (f:FuncId):Frame:={ (default:Frame) with fn:=f,kind:=.normal }

def Ja (P:Program) (f:FuncId) (R:Value→World→Prop) (K:List Item) (a:Act) (w:World):Prop :=
  ∀ cs,∃ v w' fr,R v w'∧Steps P (lone ((base f).at a K) cs w) (lone fr cs w')∧fr.fn=f∧fr.leaving P w' (.returned v)

def J (P:Program) (f:FuncId) (N:Nat) (R:Value→World→Prop) (K:List Item) (env:Env) (w:World):Prop :=
  ∀ a,Fits N env a→Ja P f R K a w

section
variable {P:Program} {f:FuncId} {N:Nat} {R:Value→World→Prop}

theorem Ja.step {K K':List Item} {a a':Act} {w w':World} (hs:∀ cs,step P (lone ((base f).at a K) cs w)=.next (lone ((base f).at a' K') cs w'))
    (h:Ja P f R K' a' w'):Ja P f R K a w:=fun cs =>
  let ⟨v,w2,fr,hR,hst,hfn,hl⟩:=h cs
  ⟨v,w2,fr,hR,.head (hs cs) hst,hfn,hl⟩

theorem Ja.op {ops:Array Oper} {i:Nat} {rest:List Nat} {k:List Item} {o:Oper} {a:Act} {w w':World} {v:Value} (ho:ops[i]? =some o)
    (hw:Region.wanted o (yielded ops a.tmps)=true) (hr:(execOp a.eval o).run P w=.ok (.value v) w') (h:Ja P f R (.inRegion ops rest::k) (a.put o.dst v) w') :
    Ja P f R (.inRegion ops (i::rest)::k) a w:=by
  refine Ja.step (fun cs=>step_lone_go ?_) h
  rw[stepG_op ho hw]
  have hfin:((base f).at a (.inRegion ops (i::rest)::k)).finish v=(base f).at (a.put o.dst v) (.inRegion ops rest::k):=by rw[Frame.finish_at,ho];rfl
  rw[← hfin]
  simp[stepG.apply,hr]

theorem Ja.op_skip {ops:Array Oper} {i:Nat} {rest:List Nat} {k:List Item} {o:Oper} {a:Act} {w w':World} (ho:ops[i]? =some o)
    (hw:Region.wanted o (yielded ops a.tmps)=true) (hr:(execOp a.eval o).run P w=.ok .skip w') (h:Ja P f R (.inRegion ops rest::k) (a.put o.dst undef) w') :
    Ja P f R (.inRegion ops (i::rest)::k) a w:=by
  refine Ja.step (fun cs=>step_lone_go ?_) h
  rw[stepG_op ho hw]
  have hfin:((base f).at a (.inRegion ops (i::rest)::k)).finish undef=(base f).at (a.put o.dst undef) (.inRegion ops rest::k):=by rw[Frame.finish_at,ho];rfl
  rw[← hfin]
  simp[stepG.apply,hr]

theorem Ja.op_pass {ops:Array Oper} {i:Nat} {rest:List Nat} {k:List Item} {o:Oper} {a:Act} {w:World} (ho:ops[i]? =some o)
    (hw:Region.wanted o (yielded ops a.tmps)=false) (h:Ja P f R (.inRegion ops rest::k) (a.put o.dst undef) w) :
    Ja P f R (.inRegion ops (i::rest)::k) a w:=by
  refine Ja.step (fun cs=>?_) h
  have:=step_op_skip (P:=P) (b:=base f) (a:=a) (k:=k) (cs:=cs) (w:=w) (ops:=ops) (i:=i) (rest:=rest) (by simp[ho,hw])
  simpa [ho] using this

theorem known_all {env:Env} {a:Act} (hf:Fits N env a) {o:Oper} (h:(noSel o.op&&o.op.operands.toList.all (eo env))=true) :
    execOp a.eval o=execOp (ev env) o:=by
  simp only[Bool.and_eq_true,List.all_eq_true] at h
  refine execOp_congr o (fun cs b e=>?_) (fun x hx=>hf.ev_eq (h.2 x (by simpa using hx)))
  have:=h.1
  rw[e] at this
  cases this

theorem Ja.micro {K K':List Item} {env env':Env} {a:Act} {w w':World} (hf:Fits N env a) (h:micro P N K env w=some (K',env',w')) 
    (hk:∀ a',Fits N env' a'→Ja P f R K' a' w'):Ja P f R K a w:=by
  unfold Eng.micro at h
  split at h
  · simp only[Option.some.injEq,Prod.mk.injEq] at h;obtain ⟨rfl,rfl,rfl⟩:=h
    exact Ja.step (fun _=>step_skip) (hk a hf)
  · simp only[Option.some.injEq,Prod.mk.injEq] at h;obtain ⟨rfl,rfl,rfl⟩:=h
    exact Ja.step (fun _=>step_label) (hk a hf)
  · simp only[Option.some.injEq,Prod.mk.injEq] at h;obtain ⟨rfl,rfl,rfl⟩:=h
    exact Ja.step (fun _=>step_inBlock) (hk a hf)
  · simp only[Option.some.injEq,Prod.mk.injEq] at h;obtain ⟨rfl,rfl,rfl⟩:=h
    exact Ja.step (fun _=>step_inScope) (hk a hf)
  · simp only[Option.some.injEq,Prod.mk.injEq] at h;obtain ⟨rfl,rfl,rfl⟩:=h
    exact Ja.step (fun _=>step_seq) (hk a hf)
  · rename_i c x y k
    cases hkn:eo env c with
    | false=>rw[hkn] at h;cases h
    | true =>
      rw[hkn] at h
      simp only[cond_true] at h
      have he:=hf.ev_eq hkn
      cases hv:ev env c<;>rw[hv] at h<;>simp only[reduceCtorEq,Option.some.injEq,Prod.mk.injEq] at h
      rename_i b
      obtain ⟨rfl,rfl,rfl⟩:=h
      exact Ja.step (fun _=>step_cond (he.trans hv)) (hk a hf)
  · simp only[Option.some.injEq,Prod.mk.injEq] at h;obtain ⟨rfl,rfl,rfl⟩:=h
    exact Ja.step (fun _=>step_block) (hk a hf)
  · simp only[Option.some.injEq,Prod.mk.injEq] at h;obtain ⟨rfl,rfl,rfl⟩:=h
    exact Ja.step (fun _=>step_scope) (hk a hf)
  · simp only[Option.some.injEq,Prod.mk.injEq] at h;obtain ⟨rfl,rfl,rfl⟩:=h
    exact Ja.step (fun _=>step_loop) (hk a hf)
  · simp only[Option.some.injEq,Prod.mk.injEq] at h;obtain ⟨rfl,rfl,rfl⟩:=h
    exact Ja.step (fun _=>step_inLoop) (hk a hf)
  · split at h
    · rename_i k' hx
      simp only[Option.some.injEq,Prod.mk.injEq] at h;obtain ⟨rfl,rfl,rfl⟩:=h
      exact Ja.step (fun _=>step_exit hx) (hk a hf)
    · cases h
  · simp only[Option.some.injEq,Prod.mk.injEq] at h;obtain ⟨rfl,rfl,rfl⟩:=h
    exact Ja.step (fun _=>step_region) (hk a hf)
  · simp only[Option.some.injEq,Prod.mk.injEq] at h;obtain ⟨rfl,rfl,rfl⟩:=h
    exact Ja.step (fun _=>step_region_end) (hk a hf)
  · split at h
    · cases h
    · rename_i o ho
      cases hd:(match o.dst with | some t=>Nat.ble (t+1) N | none=>true) with
      | false=>rw[hd] at h;cases h
      | true =>
        rw[hd] at h
        simp only[cond_true] at h
        have hdl:∀ t,o.dst=some t→t<N:=fun t ht=>by
          rw[ht] at hd
          exact Nat.le_of_ble_eq_true hd
        split at h
        · cases h
        · rename_i hwt
          simp only[Option.some.injEq,Prod.mk.injEq] at h;obtain ⟨rfl,rfl,rfl⟩:=h
          exact Ja.op_pass ho (wantE_spec hf hwt) (hk _ (hf.put _ _ hdl))
        · rename_i hwt
          cases hkn:(noSel o.op&&o.op.operands.toList.all (eo env)) with
          | false=>rw[hkn] at h;cases h
          | true =>
            rw[hkn] at h
            simp only[cond_true] at h
            have he:=known_all hf hkn
            split at h
            · rename_i v w2 hr
              simp only[Option.some.injEq,Prod.mk.injEq] at h;obtain ⟨rfl,rfl,rfl⟩:=h
              exact Ja.op ho (wantE_spec hf hwt) (by rw[he];exact hr) (hk _ (hf.put _ _ hdl))
            · rename_i w2 hr
              simp only[Option.some.injEq,Prod.mk.injEq] at h;obtain ⟨rfl,rfl,rfl⟩:=h
              exact Ja.op_skip ho (wantE_spec hf hwt) (by rw[he];exact hr) (hk _ (hf.put _ _ hdl))
            · cases h
  · cases h

theorem Ja.exec:∀ (n:Nat) {K K':List Item} {env env':Env} {a:Act} {w w':World} (_:Fits N env a) (_:exec P N n K env w=some (K',env',w'))
    (_:∀ a',Fits N env' a'→Ja P f R K' a' w'),Ja P f R K a w:=by
  intro n
  induction n with
  | zero =>
    intro K K' env env' a w w' hf h hk
    simp only[Eng.exec,Option.some.injEq,Prod.mk.injEq] at h
    obtain ⟨rfl,rfl,rfl⟩:=h
    exact hk a hf
  | succ n ih =>
    intro K K' env env' a w w' hf h hk
    simp only[Eng.exec] at h
    split at h
    · rename_i k' e' w2 hm
      exact Ja.micro hf hm fun a' hf'=>ih hf' h hk
    · cases h

theorem Fits.sub {env env':Env} {a:Act} (h:Fits N env a) (hs:(env'.map fun p=>cT env p.1)=env'.map fun p=>some p.2):Fits N env' a:=by
  refine⟨h.size,h.defers,?_⟩
  have key:∀ (l:Env),(l.map fun p=>cT env p.1)=l.map (fun p=>some p.2)→∀ t v,cT l t=some v→cT env t=some v:=by
    intro l
    induction l with
    | nil=>intro _ t v h;cases h
    | cons p l ih =>
      intro e t v hl
      obtain ⟨s,u⟩:=p
      simp only[List.map_cons,List.cons.injEq] at e
      rw[dr] at hl
      by_cases hst:s=t
      · subst hst;rw[if_pos rfl] at hl;cases hl;exact e.1
      · rw[if_neg hst] at hl;exact ih e.2 t v hl
  exact fun t v hl=>h.slot t v (key env' hs t v hl)

theorem J.run (n:Nat) {K:List Item} (K':List Item) {env:Env} (env':Env) {w:World} (w':World)
    (h:((Eng.exec P N n K env w).map fun s=>(s.1,(env'.map fun p=>cT s.2.1 p.1),s.2.2))=some (K',env'.map (fun p=>some p.2),w'))
    (k:J P f N R K' env' w'):J P f N R K env w:=by
  intro a hf
  cases he:Eng.exec P N n K env w with
  | none=>rw[he] at h;cases h
  | some s =>
    obtain ⟨K2,env2,w2⟩:=s
    rw[he] at h
    simp only[Option.map_some,Option.some.injEq,Prod.mk.injEq] at h
    obtain ⟨rfl,hs,rfl⟩:=h
    exact Ja.exec n hf he fun a' hf'=>k a' (hf'.sub hs)

theorem J.head {K:List Item} {t:Nat} {v:Value} (v':Value) {env:Env} {w:World} (hv:v=v') (k:J P f N R K ((t,v')::env) w):J P f N R K ((t,v)::env) w:=by
  subst hv;exact k

def opAt (N:Nat):List Item→Env→Option (Oper)
  | .inRegion ops (i::_)::_,env =>
    match ops[i]? with
    | none=>none
    | some o =>
      bif (match o.dst with | some t=>Nat.ble (t+1) N | none=>true) then
        match wantE ops env o with
        | some true=>bif (noSel o.op&&o.op.operands.toList.all (eo env)) then some o else none
        | _=>none
      else none
  | _,_=>none

def eO:List Item→List Item
  | .inRegion ops (_::rest)::k=>.inRegion ops rest::k
  | k=>k

theorem opAt_spec {K:List Item} {env:Env} {o:Oper} (h:opAt N K env=some o) {a:Act} (hf:Fits N env a) :
    ∃ ops i rest k,K=.inRegion ops (i::rest)::k∧eO K=.inRegion ops rest::k∧ops[i]? =some o∧Region.wanted o (yielded ops a.tmps)=true∧execOp a.eval o=execOp (ev env) o ∧
      (∀ v,Fits N (Eng.put env o.dst v) (a.put o.dst v)):=by
  unfold opAt at h
  split at h
  · rename_i ops i rest k
    split at h
    · cases h
    · rename_i o' ho
      cases hd:(match o'.dst with | some t=>Nat.ble (t+1) N | none=>true) with
      | false=>rw[hd] at h;cases h
      | true =>
        rw[hd] at h
        simp only[cond_true] at h
        split at h
        · rename_i hwt
          cases hkn:(noSel o'.op&&o'.op.operands.toList.all (eo env)) with
          | false=>rw[hkn] at h;cases h
          | true =>
            rw[hkn] at h
            simp only[cond_true,Option.some.injEq] at h
            subst h
            refine⟨ops,i,rest,k,rfl,rfl,ho,wantE_spec hf hwt,known_all hf hkn,fun v=>hf.put _ _ fun t ht=>?_⟩
            rw[ht] at hd
            exact Nat.le_of_ble_eq_true hd
        · cases h
  · cases h

theorem J.op {K:List Item} {env:Env} {w:World} {o:Oper} (v:Value) (w':World) (h:opAt N K env=some o)
    (hr:(execOp (ev env) o).run P w=.ok (.value v) w') (k:J P f N R (eO K) (put env o.dst v) w'):J P f N R K env w:=by
  intro a hf
  obtain ⟨ops,i,rest,k',rfl,hp,ho,hw,he,hfit⟩:=opAt_spec h hf
  rw[hp] at k
  exact Ja.op ho hw (by rw[he];exact hr) (k _ (hfit v))

theorem J.opSkip {K:List Item} {env:Env} {w:World} {o:Oper} (w':World) (h:opAt N K env=some o)
    (hr:(execOp (ev env) o).run P w=.ok .skip w') (k:J P f N R (eO K) (put env o.dst undef) w'):J P f N R K env w:=by
  intro a hf
  obtain ⟨ops,i,rest,k',rfl,hp,ho,hw,he,hfit⟩:=opAt_spec h hf
  rw[hp] at k
  exact Ja.op_skip ho hw (by rw[he];exact hr) (k _ (hfit undef))

def Ret (P:Program) (g:FuncId) (args:Array Value) (w:World) (Q:Value→World→Prop):Prop :=
  Calls P g args w fun e w'=>∃ v,e=.returned v∧Q v w'

theorem Ret.mono {g:FuncId} {args:Array Value} {w:World} {Q Q':Value→World→Prop} (h:Ret P g args w Q) (hq:∀ v w',Q v w'→Q' v w'):Ret P g args w Q' :=
  Calls.mono h fun _ _ ⟨v,e,q⟩=>⟨v,e,hq _ _ q⟩

theorem J.call {K:List Item} {env:Env} {w:World} {o:Oper} {g:FuncId} {args:Array Value} {Q:Value→World→Prop} (h:opAt N K env=some o)
    (hr:(execOp (ev env) o).run P w=.ok (.enter g args) w) (hc:Ret P g args w Q) (k:∀ v w',Q v w'→J P f N R (eO K) (put env o.dst v) w'):J P f N R K env w:=by
  intro a hf
  obtain ⟨ops,i,rest,k',rfl,hp,ho,hw,he,hfit⟩:=opAt_spec h hf
  rw[hp] at k
  intro cs
  have hg:=stepG_op (P:=P) (b:=base f) (k:=k') (cs:=cs) (w:=w) (rest:=rest) ho hw
  obtain ⟨e,w'',fr,⟨v,rfl,hq⟩,hsteps,_,hleave⟩:=hc ((base f).at a (.inRegion ops (i::rest)::k')::cs)
  have henter:step P (lone ((base f).at a (.inRegion ops (i::rest)::k')) cs w) =
      .next (lone (Frame.enter P g args .normal) ((base f).at a (.inRegion ops (i::rest)::k')::cs) w) :=
    step_lone_go (by rw[hg,he];simp[stepG.apply,hr,Frame.at,base])
  have hfin:((base f).at a (.inRegion ops (i::rest)::k')).finish v=(base f).at (a.put o.dst v) (.inRegion ops rest::k'):=by rw[Frame.finish_at,ho];rfl
  obtain ⟨v2,w2,fr2,hR,hst,hfn,hl⟩:=k v w'' hq _ (hfit v) cs
  refine⟨v2,w2,fr2,hR,.head henter (Steps.trans hsteps (.head ?_ hst)),hfn,hl⟩
  rw[← hfin]
  exact step_leave_returned hleave

def resRun (P:Program) (env:Env) (w:World):List ResultVar→List Value→Prop
  | [],[]=>True
  | .tmp t::r,v::vs=>cT env t=some v∧resRun P env w r vs
  | .cell p t::r,v::vs=>(∃ a,cT env p=some (.pointer (some a))∧(loadVar t a).run P w=.ok v w)∧resRun P env w r vs
  | _,_=>False

def tup (vs:List Value):Value:=match vs with | [v]=>v | _=>.tuple vs.toArray

theorem cw (v:Value):tup [v]=v:=rfl
theorem dX (u v:Value):tup [u,v]=.tuple #[u,v]:=rfl
theorem tup_three (t u v:Value):tup [t,u,v]=.tuple #[t,u,v]:=rfl

theorem results_run {fn:Func} {env:Env} {a:Act} {w:World} (hf:Fits N env a) {vs:List Value} (h:resRun P env w fn.results.toList vs):(results fn a.tmps).run P w=.ok (tup vs) w:=by
  have hget:∀ t v,cT env t=some v→a.tmps.getD t undef=v:=fun t v hl=>by
    have hs:=hf.slot t v hl
    simp[Array.getD_eq_getD_getElem?,hs]
  unfold results
  rw[Array.mapM_eq_mapM_toList]
  have key:∀ (F:ResultVar→Sem Value),(∀ t,F (.tmp t)=pure (a.tmps.getD t undef))→(∀ p t,F (.cell p t)=(do loadVar t (← asAddr (a.tmps.getD p undef)))) →
      ∀ (l:List ResultVar) (us:List Value),resRun P env w l us→(l.mapM F).run P w=.ok us w:=by
    intro F hF1 hF2 l
    induction l with
    | nil =>
      intro us h
      cases us with
      | nil=>rfl
      | cons _ _=>exact h.elim
    | cons x l ih =>
      intro us h
      cases us with
      | nil=>cases x<;>exact h.elim
      | cons v us =>
        cases x with
        | tmp t =>
          obtain ⟨h1,h2⟩:=h
          have:=ih us h2
          simp only[List.mapM_cons,hF1,hget t v h1,Sem.run_bind,Sem.run_pure,Result.andThen_ok,this]
        | cell p t =>
          obtain ⟨⟨ad,h1,h3⟩,h2⟩:=h
          have:=ih us h2
          have e:asAddr (a.tmps.getD p undef)=pure ad:=by rw[hget p _ h1];rfl
          simp only[List.mapM_cons,hF2,e,Sem.run_bind,Sem.run_pure,Result.andThen_ok,h3,this]
  simp only[map_eq_pure_bind,Sem.run_bind]
  rw[key _ ?_ ?_ _ vs h]
  · simp only[Result.andThen_ok,Sem.run_pure]
    cases vs with
    | nil=>rfl
    | cons v vs=>cases vs with
      | nil=>rfl
      | cons u us=>simp[tup]
  · intro t;rfl
  · intro p t;rfl

theorem J.ret {k:List Item} {env:Env} {w:World} (fn:Func) (vs:List Value) (hfn:P.funcs[f]? =some fn) (hr:resRun P env w fn.results.toList vs) (hR:R (tup vs) w) :
    J P f N R (.code .ret::k) env w:=by
  intro a hf cs
  exact⟨tup vs,w,_,hR,.one step_ret,rfl,rfl,hf.defers,rfl,fn,hfn,results_run hf hr⟩

theorem J.done {env:Env} {w:World} (fn:Func) (vs:List Value) (hfn:P.funcs[f]? =some fn) (hr:resRun P env w fn.results.toList vs) (hR:R (tup vs) w) :
    J P f N R [] env w:=by
  intro a hf cs
  exact⟨tup vs,w,_,hR,.one step_end,rfl,rfl,hf.defers,rfl,fn,hfn,results_run hf hr⟩

theorem Ret.of_J {g:FuncId} {fn:Func} {c:Code} {args:Array Value} {w:World} {Q:Value→World→Prop} (env:Env) (hf:P.funcs[g]? =some fn) (hb:fn.body=some c)
    (hn:fn.ntmps=N) (hs:args.size≤N) (he:(env.map fun p=>args[p.1]?)=env.map fun p=>some p.2) 
    (h:J P g N Q (bi fn) env w):Ret P g args w Q:=by
  intro cs
  have henter:Frame.enter P g args .normal=(base g).at { tmps:=args++Array.replicate (fn.ntmps-args.size) undef,defers:=[] } [.code c]:=by
    simp[Frame.enter,Frame.at,hf,hb,base]
  have hfit:Fits N env { tmps:=args++Array.replicate (fn.ntmps-args.size) undef,defers:=[] }:=by
    refine⟨by simp;omega,rfl,?_⟩
    have key:∀ (l:Env),(l.map fun p=>args[p.1]?)=l.map (fun p=>some p.2)→∀ t v,cT l t=some v→args[t]? =some v:=by
      intro l
      induction l with
      | nil=>intro _ t v h;cases h
      | cons p l ih =>
        intro e t v hl
        obtain ⟨s,u⟩:=p
        simp only[List.map_cons,List.cons.injEq] at e
        rw[dr] at hl
        by_cases hst:s=t
        · subst hst;rw[if_pos rfl] at hl;cases hl;exact e.1
        · rw[if_neg hst] at hl;exact ih e.2 t v hl
    intro t v hl
    have:=key env he t v hl
    have hlt:t<args.size:=(Array.getElem?_eq_some_iff.1 this).1
    show(args++_)[t]? =some v
    rw[Array.getElem?_append_left hlt]
    exact this
  have hb':bi fn=[.code c]:=by simp[bi,hb]
  rw[hb'] at h
  obtain ⟨v,w',fr,hR,hst,hfn,hl⟩:=h _ hfit cs
  rw[henter]
  exact⟨.returned v,w',fr,⟨v,rfl,hR⟩,hst,hfn,hl⟩
end
end Go.Eng

namespace Go.Eng
open Go.RowKit

structure Claim where
  foot:Nat→Prop
  holds:World→Prop
  stable:∀ w w',(∀ b,foot b→w'.heap[b]? =w.heap[b]?)→holds w→holds w'

def box (b:Nat) (cs:List Value) (T:TypeId):Claim :=
  ⟨(· =b),fun w=>w.heap[b]? =some (.cells cs.toArray T (0,0)),fun w w' h hw=>by rw[h b rfl];exact hw⟩

def row (v:Value) (e:TypeId) (size n:Nat) (xs:List Value):Claim :=
  ⟨fun b=>v.ownBlock=some b,fun w=>w.ownsRow 0 e size v n xs,fun w w' h hw=>by
    refine⟨hw.1,?_⟩
    rcases hw.2 with hn | ⟨g,cap,cur,rfl,hb,hg,rest⟩
    · exact .inl hn
    · exact .inr ⟨g,cap,cur,rfl,hb,by rw[h g rfl];exact hg,rest⟩⟩

structure Sep (w0:World) (L:List Claim) (w:World):Prop where
  below:Below w0.heap.size w0 w
  all:∀ c ∈ L,c.holds w
  fresh:∀ c ∈ L,∀ b,c.foot b→w0.heap.size≤b∧b<w.heap.size
  apart:L.Pairwise fun c d=>∀ b,c.foot b→¬ d.foot b

theorem Sep.refl (w:World):Sep w [] w:=⟨Below.refl _ _,by simp,by simp,.nil⟩

theorem Sep.nth {w0 w:World} {L:List Claim} (h:Sep w0 L w) (i:Nat) {c:Claim} (hi:L[i]? =some c):c.holds w:=h.all c (List.mem_of_getElem? hi)

theorem Sep.nil {w0 w:World} {L:List Claim} (h:Sep w0 L w):Sep w0 [] w:=⟨h.below,by simp,by simp,.nil⟩

theorem Sep.sub {w0 w:World} {L L':List Claim} (h:Sep w0 L w) (hs:L'.Sublist L):Sep w0 L' w :=
  ⟨h.below,fun c hc=>h.all c (hs.subset hc),fun c hc=>h.fresh c (hs.subset hc),h.apart.sublist hs⟩

theorem Sep.trans {w0 w w':World} {L L':List Claim} (h:Sep w0 L w) (h':Sep w L' w'):Sep w0 (L'++L) w':=by
  have hsz:=h.below.size
  have hsz':=h'.below.size
  refine⟨h.below.trans (h'.below.mono hsz),fun c hc=>?_,fun c hc b hb=>?_,?_⟩
  · rcases List.mem_append.1 hc with hc | hc
    · exact h'.all c hc
    · exact c.stable w w' (fun b hb=>h'.below.block b (h.fresh c hc b hb).2) (h.all c hc)
  · rcases List.mem_append.1 hc with hc | hc
    · have:=h'.fresh c hc b hb;omega
    · have:=h.fresh c hc b hb;omega
  · refine List.pairwise_append.2 ⟨h'.apart,h.apart,fun c hc d hd b hb hb'=>?_⟩
    have h1:=h'.fresh c hc b hb
    have h2:=h.fresh d hd b hb'
    omega

theorem Sep.alloc {w0 w:World} {L:List Claim} (h:Sep w0 L w) (cs:List Value) (T:TypeId):Sep w0 (box w.heap.size cs T::L) (w.alloc (.cells cs.toArray T)):=by
  have h1:Sep w [box w.heap.size cs T] (w.alloc (.cells cs.toArray T)):=by
    refine⟨(Below.refl _ _).alloc (Nat.le_refl _) _,fun c hc=>?_,fun c hc b hb=>?_,by simp⟩
    · simp only[List.mem_singleton] at hc;subst hc
      exact heap_alloc_new w _
    · simp only[List.mem_singleton] at hc;subst hc
      have:b=w.heap.size:=hb
      subst this
      exact⟨Nat.le_refl _,by simp⟩
  exact h.trans h1

theorem Sep.set {w0 w w':World} {L:List Claim} (h:Sep w0 L w) (i:Nat) {c d:Claim} (hi:L[i]? =some c) (hfoot:∀ b,d.foot b→c.foot b∨w.heap.size≤b∧b<w'.heap.size)
    (hos:w'.os=w.os) (htape:w'.tape=w.tape) (hout:w'.output=w.output) (hsize:w.heap.size≤w'.heap.size) (hblock:∀ b,b<w.heap.size→¬ c.foot b→w'.heap[b]? =w.heap[b]?) (hd:d.holds w'):Sep w0 (L.set i d) w':=by
  have hc:=List.mem_of_getElem? hi
  have hlt:i<L.length:=(List.getElem?_eq_some_iff.1 hi).1
  have hci:L[i]=c:=(List.getElem?_eq_some_iff.1 hi).2
  have hpw:=List.pairwise_iff_getElem.1 h.apart
  refine⟨⟨hos.trans h.below.os,htape.trans h.below.tape,hout.trans h.below.output,Nat.le_trans h.below.size hsize,fun b hb=>?_⟩,fun e he=>?_,fun e he b hb=>?_,?_⟩
  · have hle:=h.below.size
    rw[hblock b om fun hf=>by have:=h.fresh c hc b hf;omega]
    exact h.below.block b hb
  · rcases List.mem_iff_getElem.1 he with ⟨j,hj,hje⟩
    simp only[List.length_set] at hj
    rw[List.getElem_set] at hje
    split at hje
    · subst hje;exact hd
    · rename_i hne
      subst hje
      refine(L[j]).stable w w' (fun b hb=>hblock b (h.fresh _ (List.getElem_mem hj) b hb).2 fun hf=>?_) (h.all _ (List.getElem_mem hj))
      rcases Nat.lt_or_gt_of_ne hne with hlt' | hgt
      · exact hpw i j hlt hj hlt' b (by rw[hci];exact hf) hb
      · exact hpw j i hj hlt hgt b hb (by rw[hci];exact hf)
  · rcases List.mem_iff_getElem.1 he with ⟨j,hj,hje⟩
    simp only[List.length_set] at hj
    rw[List.getElem_set] at hje
    split at hje
    · subst hje
      rcases hfoot b hb with hf | ⟨h1,h2⟩
      · have:=h.fresh c hc b hf;omega
      · have:=h.below.size;omega
    · subst hje
      have:=h.fresh _ (List.getElem_mem hj) b hb;omega
  · refine List.pairwise_iff_getElem.2 fun j k hj hk hjk b hb hb'=>?_
    simp only[List.length_set] at hj hk
    rw[List.getElem_set] at hb hb'
    split at hb<;>split at hb'
    · omega
    · rename_i h1 h2
      subst h1
      rcases hfoot b hb with hf | ⟨h3,h4⟩
      · exact hpw i k hj hk hjk b (by rw[hci];exact hf) hb'
      · have:=h.fresh _ (List.getElem_mem hk) b hb';omega
    · rename_i h1 h2
      subst h2
      rcases hfoot b hb' with hf | ⟨h3,h4⟩
      · exact hpw j i hj hk hjk b hb (by rw[hci];exact hf)
      · have:=h.fresh _ (List.getElem_mem hj) b hb;omega
    · exact hpw j k hj hk hjk b hb hb'

def Cells (w:World) (a:Option Addr) (xs:List Value):Prop:=∀ j v,xs[j]? =some v→∃ p,a=some p∧w.cell? (p.add j)=some v

theorem Cells.below {w w':World} {a:Option Addr} {xs:List Value} (h:Cells w a xs) (hb:Below w.heap.size w w'):Cells w' a xs:=fun j v hj=>by
  obtain ⟨p,hp,hc⟩:=h j v hj
  exact⟨p,hp,by rw[hb.cell (World.block_lt_of_cell? _ _ hc)];exact hc⟩

theorem Cells.sep {w0 w:World} {L:List Claim} {a:Option Addr} {xs:List Value} (h:Cells w0 a xs) (hs:Sep w0 L w):Cells w a xs:=h.below hs.below

theorem row_cells {v:Value} {e:TypeId} {size n:Nat} {xs:List Value} {w:World} (h:(row v e size n xs).holds w):∃ a cap,v=.slice a n cap∧Cells w a xs∧n≤cap∧cap≤maxLen∧xs.length=n*size:=by
  have h':w.ownsRow 0 e size v n xs:=h
  rcases h'.2 with ⟨rfl,rfl⟩ | ⟨g,cap,cur,rfl,hb,hg,h1,h2,h3,h4⟩
  · refine⟨none,0,rfl,fun j v hj=>?_,Nat.le_refl _,by simp[maxLen],h'.1⟩
    have:xs=[]:=by have:=h'.1;simpa using this
    subst this;cases hj
  · exact⟨some ⟨g,0,none⟩,cap,rfl,fun j v hj=>⟨_,rfl,World.ownsRow.cells h' rfl j v hj⟩,h1,h2,h'.1⟩

theorem de (p:Addr) (i j:Nat):(p.add i).add j=p.add (i+j):=by
  unfold Addr.add
  by_cases hi:i=0<;>by_cases hj:j=0<;>simp_all [Nat.add_assoc]

section
variable {P:Program} {f:FuncId} {N:Nat} {R:Value→World→Prop}

def opRun (P:Program) (N:Nat) (K:List Item) (env:Env) (w:World):Option (Option Nat×Result Next) :=
  match opAt N K env with
  | some o=>some (o.dst,(execOp (ev env) o).run P w)
  | none=>none

theorem cK {K:List Item} {env:Env} {w:World} {d:Option Nat} {r:Result Next} (h:opRun P N K env w=some (d,r)) :
    ∃ o,opAt N K env=some o∧o.dst=d∧(execOp (ev env) o).run P w=r:=by
  unfold opRun at h
  split at h
  · rename_i o ho
    simp only[Option.some.injEq,Prod.mk.injEq] at h
    exact⟨o,ho,h.1,h.2⟩
  · cases h

def OK (P:Program) (N:Nat) (K:List Item) (env:Env) (w:World) (d:Option Nat) (v:Value) (w':World):Prop :=
  ∃ o,opAt N K env=some o∧o.dst=d∧((execOp (ev env) o).run P w=.ok (.value v) w'∨v=undef∧(execOp (ev env) o).run P w=.ok .skip w')

theorem J.ok {K:List Item} {env:Env} {w w':World} {d:Option Nat} {v:Value} (h:OK P N K env w d v w') (k:J P f N R (eO K) (put env d v) w'):J P f N R K env w:=by
  obtain ⟨o,ho,rfl,hr | ⟨rfl,hr⟩⟩:=h
  · exact J.op v w' ho hr k
  · exact J.opSkip w' ho hr k

theorem OK.run {K:List Item} {env:Env} {w:World} (d:Nat) (v:Value) (h:opRun P N K env w=some (some d,.ok (.value v) w)):OK P N K env w (some d) v w:=by
  obtain ⟨o,ho,hd,hr⟩:=cK h
  exact⟨o,ho,hd,.inl hr⟩

theorem J.new {w0 w:World} {L:List Claim} (S:Sep w0 L w) (d:Nat) (cs:List Value) (T:TypeId) {K:List Item} {env:Env}
    (h:opRun P N K env w=some (some d,.ok (.value (.pointer (some ⟨w.heap.size,0,none⟩))) (w.alloc (.cells cs.toArray T))))
    (k:∀ b w',Sep w0 (box b cs T::L) w'→J P f N R (eO K) ((d,.pointer (some ⟨b,0,none⟩))::env) w'):J P f N R K env w:=by
  obtain ⟨o,ho,hd,hr⟩:=cK h
  have:=k _ _ (S.alloc cs T)
  exact J.op _ _ ho hr (by rw[hd];exact this)

def aggB:TypeDesc→Bool | .struct _ | .array _ _=>true | _=>false

def ldV (P:Program) (t:TypeId) (off:Nat) (cs:List Value):Option Value :=
  match P.underlying t,P.info? t with
  | some (.struct _),some i | some (.array _ _),some i=>bif Nat.ble (off+i.size) cs.length then some (.agg ((cs.drop off).take i.size).toArray) else none
  | some _,some _=>cs[off]?
  | _,_=>none

theorem run_isAgg {t:TypeId} {d:TypeDesc} (h:P.underlying t=some d) (w:World):(isAgg t).run P w=.ok (aggB d) w:=by
  unfold isAgg
  rw[Sem.run_bind,run_underlying h w]
  cases d<;>rfl

theorem run_sizeOf {t:TypeId} {i:TypeInfo} (h:P.info? t=some i) (w:World):(sizeOf t).run P w=.ok i.size w:=by
  simp[sizeOf,typeInfo,h]

theorem run_loadVar_agg {w:World} {t:TypeId} {i:TypeInfo} {d:TypeDesc} {a:Addr} (hu:P.underlying t=some d) (hd:(aggB d)=true) (hi:P.info? t=some i)
    (cs:List Value) (hl:cs.length=i.size) (hc:∀ j v,cs[j]? =some v→w.cell? (a.add j)=some v):(loadVar t a).run P w=.ok (.agg cs.toArray) w:=by
  have h1:=run_loadCells_list (P:=P) w a cs hc
  rw[hl] at h1
  unfold loadVar
  simp only[Sem.run_bind,run_isAgg hu w,hd,Result.andThen_ok,if_true,run_sizeOf hi w,h1,Sem.run_pure]

theorem run_loadVar_one {w:World} {t:TypeId} {d:TypeDesc} {a:Addr} {v:Value} (hu:P.underlying t=some d) (hd:(aggB d)=false)
    (hc:w.cell? a=some v):(loadVar t a).run P w=.ok v w:=by
  unfold loadVar
  rw[Sem.run_bind,run_isAgg hu w,hd]
  simp[Result.andThen,run_load,hc]

theorem aS {w:World} {t T:TypeId} {b off:Nat} {cs:List Value} {v:Value} (hb:w.heap[b]? =some (.cells cs.toArray T (0,0))) (h:ldV P t off cs=some v) :
    (loadVar t ⟨b,off,none⟩).run P w=.ok v w:=by
  have hcell:∀ j,w.cell? ⟨b,j,none⟩=cs[j]? :=fun j=>by simp[World.cell?,hb]
  have hadd:∀ j,(⟨b,off,none⟩:Addr).add j=⟨b,off+j,none⟩:=fun j=>by unfold Addr.add;split<;>simp_all
  have agg:∀ (i:TypeInfo) d,P.underlying t=some d→(aggB d)=true→P.info? t=some i →
      (bif Nat.ble (off+i.size) cs.length then some (Value.agg ((cs.drop off).take i.size).toArray) else none)=some v→(loadVar t ⟨b,off,none⟩).run P w=.ok v w:=by
    intro i d hu hd hi h
    cases hle:Nat.ble (off+i.size) cs.length with
    | false=>rw[hle] at h;cases h
    | true =>
      rw[hle] at h
      simp only[cond_true,Option.some.injEq] at h
      subst h
      have hle':=Nat.le_of_ble_eq_true hle
      refine run_loadVar_agg hu hd hi _ (by simp;omega) fun j u hj=>?_
      rw[hadd,hcell]
      rw[List.getElem?_take] at hj
      split at hj
      · simpa using hj
      · cases hj
  unfold ldV at h
  split at h
  · rename_i fs i hu hi;exact agg i _ hu rfl hi h
  · rename_i n e i hu hi;exact agg i _ hu rfl hi h
  · rename_i d i hn1 hn2 hu hi
    refine run_loadVar_one hu ?_ ((hcell off).trans h)
    cases d<;>first | rfl | exact(hn1 _ rfl).elim | exact(hn2 _ _ rfl).elim
  · cases h

def ldAt (N:Nat) (K:List Item) (env:Env):Option (Option Nat×TypeId×Addr) :=
  match opAt N K env with
  | some o=>match o.op with
    | .load t x=>match ev env x with
      | .pointer (some a)=>some (o.dst,t,a)
      | _=>none
    | _=>none
  | none=>none

theorem OK.load {K:List Item} {env:Env} {w:World} {d:Option Nat} {t:TypeId} {a:Addr} (v:Value) (h:ldAt N K env=some (d,t,a)) (hr:(loadVar t a).run P w=.ok v w) :
    OK P N K env w d v w:=by
  unfold ldAt at h
  split at h
  · rename_i o ho
    split at h
    · rename_i t' x hop
      split at h
      · rename_i a' hx
        simp only[Option.some.injEq,Prod.mk.injEq] at h
        obtain ⟨rfl,rfl,rfl⟩:=h
        refine⟨o,ho,rfl,.inl ?_⟩
        unfold execOp
        simp only[hop,hx,Instr.loadAt,Instr.sureAddr,Sem.run_bind,Sem.run_pure,Result.andThen_ok,hr]
      · cases h
    · cases h
  · cases h

theorem OK.ldBox {w0 w:World} {L:List Claim} (S:Sep w0 L w) (i:Nat) {b:Nat} {cs:List Value} {T:TypeId} {K:List Item} {env:Env} (d:Nat) (t:TypeId) (off:Nat) (v:Value)
    (h:ldAt N K env=some (some d,t,⟨b,off,none⟩)) (hi:L[i]? =some (box b cs T)) (hv:ldV P t off cs=some v):OK P N K env w (some d) v w :=
  OK.load v h (aS (S.nth i hi) hv)

theorem J.ldBox {w0 w:World} {L:List Claim} (S:Sep w0 L w) (i:Nat) {b:Nat} {cs:List Value} {T:TypeId} {K:List Item} {env:Env} (d:Nat) (t:TypeId) (off:Nat) (v:Value)
    (h:ldAt N K env=some (some d,t,⟨b,off,none⟩)) (hi:L[i]? =some (box b cs T)) (hv:ldV P t off cs=some v)
    (k:J P f N R (eO K) ((d,v)::env) w):J P f N R K env w :=
  J.ok (OK.ldBox S i d t off v h hi hv) k

theorem OK.ldCell {w:World} {K:List Item} {env:Env} (d:Nat) (t:TypeId) (a:Addr) (v:Value) (h:ldAt N K env=some (some d,t,a))
    (ht:(P.underlying t).map aggB=some false) (hc:w.cell? a=some v):OK P N K env w (some d) v w:=by
  obtain ⟨td,hu,hd⟩:=Option.map_eq_some_iff.1 ht
  exact OK.load v h (run_loadVar_one hu hd hc)

theorem OK.ldCells {w:World} {K:List Item} {env:Env} (d:Nat) (t:TypeId) (a:Addr) (cs:List Value) (h:ldAt N K env=some (some d,t,a))
    (ht:(P.underlying t).map aggB=some true) (hs:(P.info? t).map (·.size)=some cs.length) (hc:∀ j v,cs[j]? =some v→w.cell? (a.add j)=some v):OK P N K env w (some d) (.agg cs.toArray) w:=by
  obtain ⟨td,hu,hd⟩:=Option.map_eq_some_iff.1 ht
  obtain ⟨i,hi,hs⟩:=Option.map_eq_some_iff.1 hs
  exact OK.load _ h (run_loadVar_agg hu hd hi cs hs.symm hc)

theorem J.ldCell {w:World} {K:List Item} {env:Env} (d:Nat) (t:TypeId) (a:Addr) (v:Value) (h:ldAt N K env=some (some d,t,a))
    (ht:(P.underlying t).map aggB=some false) (hc:w.cell? a=some v)
    (k:J P f N R (eO K) ((d,v)::env) w):J P f N R K env w:=by
  exact J.ok (OK.ldCell d t a v h ht hc) k

theorem J.ldCells {w:World} {K:List Item} {env:Env} (d:Nat) (t:TypeId) (a:Addr) (cs:List Value) (h:ldAt N K env=some (some d,t,a))
    (ht:(P.underlying t).map aggB=some true) (hs:(P.info? t).map (·.size)=some cs.length) (hc:∀ j v,cs[j]? =some v→w.cell? (a.add j)=some v)
    (k:J P f N R (eO K) ((d,.agg cs.toArray)::env) w):J P f N R K env w:=by
  exact J.ok (OK.ldCells d t a cs h ht hs hc) k

def stAt (N:Nat) (K:List Item) (env:Env):Option (Option Nat×TypeId×Addr×Value) :=
  match opAt N K env with
  | some o=>match o.op with
    | .store t x y=>match ev env x with
      | .pointer (some a)=>some (o.dst,t,a,ev env y)
      | _=>none
    | _=>none
  | none=>none

theorem OK.store {K:List Item} {env:Env} {w:World} {t:TypeId} {a:Addr} {v:Value} (w':World) (h:stAt N K env=some (none,t,a,v)) (hr:(storeVar t a v).run P w=.ok () w') :
    OK P N K env w none undef w':=by
  unfold stAt at h
  split at h
  · rename_i o ho
    split at h
    · rename_i t' x y hop
      split at h
      · rename_i a' hx
        simp only[Option.some.injEq,Prod.mk.injEq] at h
        obtain ⟨hd,rfl,rfl,rfl⟩:=h
        refine⟨o,ho,hd,.inr ⟨rfl,?_⟩⟩
        unfold execOp
        simp only[hop,hx,Instr.storeAt,Instr.sureAddr,Sem.run_bind,Sem.run_pure,Result.andThen_ok,hr]
      · cases h
    · cases h
  · cases h

def stV (off:Nat) (vs cs:List Value):Option (List Value) :=
  bif Nat.ble (off+vs.length) cs.length&&vs.all (·.oneCell') then some (cs.take off++vs++cs.drop (off+vs.length)) else none

theorem run_storeVar {w:World} {t T:TypeId} {b off:Nat} {cs cs':List Value} {v:Value} (hb:w.heap[b]? =some (.cells cs.toArray T (0,0))) (hs:(P.info? t).map (·.size)=some v.cells.size)
    (h:stV off v.cells.toList cs=some cs'):(storeVar t ⟨b,off,none⟩ v).run P w=.ok () (w.setRow b cs'.toArray):=by
  obtain ⟨i,hi,hsz⟩:=Option.map_eq_some_iff.1 hs
  unfold stV at h
  cases hc:(Nat.ble (off+v.cells.toList.length) cs.length&&v.cells.toList.all (·.oneCell')) with
  | false=>rw[hc] at h;cases h
  | true =>
    rw[hc] at h
    simp only[cond_true,Option.some.injEq] at h
    simp only[Bool.and_eq_true,List.all_eq_true] at hc
    have hle:=Nat.le_of_ble_eq_true hc.1
    have:=run_storeCells_at P b off T v.cells.toList 0 cs.toArray w hb (by simpa using hle) hc.2
    unfold storeVar
    simp only[Sem.run_bind,run_sizeOf hi w,Result.andThen_ok,hsz,ne_eq,not_true_eq_false,if_false,this]
    simp only[Nat.add_zero] at this ⊢
    rw[← h]

theorem heap_setRow_ne (w:World) (g:Nat) (cs:Array Value) (k:Nat) (h:k≠g):(w.setRow g cs).heap[k]? =w.heap[k]? :=by
  unfold World.setRow
  simp only[Array.getElem?_modify]
  rw[if_neg (fun e=>h e.symm)]

theorem Sep.setBox {w0 w:World} {L:List Claim} (S:Sep w0 L w) (i:Nat) {b:Nat} {cs:List Value} {T:TypeId} (cs':List Value) (hi:L[i]? =some (box b cs T)) :
    Sep w0 (L.set i (box b cs' T)) (w.setRow b cs'.toArray):=by
  have hb:w.heap[b]? =some (.cells cs.toArray T (0,0)):=S.nth i hi
  refine S.set i hi (fun b' hb'=>.inl hb') rfl rfl rfl (by simp) (fun b' _ hn=>heap_setRow_ne _ _ _ _ hn) ?_
  show(w.setRow b cs'.toArray).heap[b]? =_
  exact setRow_heap w b cs.toArray cs'.toArray T (0,0) hb

theorem J.stBox {w0 w:World} {L:List Claim} (S:Sep w0 L w) (i:Nat) {b:Nat} {cs:List Value} {T:TypeId} {K:List Item} {env:Env} (t:TypeId) (off:Nat) (v:Value) (cs':List Value) (L':List Claim)
    (h:stAt N K env=some (none,t,⟨b,off,none⟩,v)) (hi:L[i]? =some (box b cs T)) (hs:(P.info? t).map (·.size)=some v.cells.size) (hv:stV off v.cells.toList cs=some cs')
    (hL:L.set i (box b cs' T)=L')
    (k:∀ w',Sep w0 L' w'→J P f N R (eO K) env w'):J P f N R K env w:=by
  subst hL
  exact J.ok (OK.store _ h (run_storeVar (S.nth i hi) hs hv)) (k _ (S.setBox i cs' hi))

def callAt (N:Nat) (K:List Item) (env:Env):Option (Option Nat×FuncId×Array Value) :=
  match opAt N K env with
  | some o=>match o.op with
    | .call { callee:=.value x,args,.. }=>match ev env x with
      | .func (.func g) first captured=>some (o.dst,g,(first.toList++args.toList.map (ev env)++captured.toList).toArray)
      | _=>none
    | _=>none
  | none=>none

def af (P:Program) (g:FuncId):Prop:=∀ (args:Array Value) (w:World),(callFunc g args).run P w=.ok (.enter g args) w

theorem J.callF {K:List Item} {env:Env} {w:World} (d:Nat) (g:FuncId) (args:Array Value) (hb:af P g) (h:callAt N K env=some (some d,g,args)) {Q:Value→World→Prop}
    (hc:Ret P g args w Q) (k:∀ v w',Q v w'→J P f N R (eO K) ((d,v)::env) w'):J P f N R K env w:=by
  unfold callAt at h
  split at h
  · rename_i o ho
    split at h
    · rename_i x as ts hop
      split at h
      · rename_i g' first captured hx
        simp only[Option.some.injEq,Prod.mk.injEq] at h
        obtain ⟨hd,rfl,rfl⟩:=h
        refine J.call ho ?_ hc (by rw[hd];exact k)
        unfold execOp
        have:=hb ((first.toList++as.toList.map (ev env)++captured.toList).toArray) w
        simp only[hop,resolve,Deferred.ofValue,hx,Sem.run_bind,Sem.run_pure,Result.andThen_ok,invoke]
        rw[← this]
        congr 2
        apply Array.ext'
        simp
      · cases h
    · cases h
  · cases h

def ixAt (N:Nat) (K:List Item) (env:Env):Option (Option Nat×TypeId×Option Addr×Nat×Int) :=
  match opAt N K env with
  | some o=>match o.op with
    | .indexAddr t x y=>match ev env x,ev env y with
      | .slice a len _,.int _ i=>some (o.dst,t,a,len,i)
      | _,_=>none
    | _=>none
  | none=>none

def elemSize (P:Program) (t:TypeId):Option Nat :=
  match P.underlying t with
  | some (.slice e)=>(P.info? e).map (·.size)
  | _=>none

theorem OK.index {K:List Item} {env:Env} {w:World} (d:Nat) (t:TypeId) (s:Nat) (a:Option Addr) (p:Addr) (len i:Nat) (ii:Int) (q:Addr) (h:ixAt N K env=some (some d,t,a,len,ii)) (hs:elemSize P t=some s)
    (ha:a=some p) (hi:ii=i) (hl:i<len) (hq:p.add (i*s)=q):OK P N K env w (some d) (.pointer (some q)) w:=by
  unfold ixAt at h
  split at h
  · rename_i o ho
    split at h
    · rename_i t' x y hop
      split at h
      · rename_i a' len' cap kk i' hx hy
        simp only[Option.some.injEq,Prod.mk.injEq] at h
        obtain ⟨hd,rfl,rfl,rfl,rfl⟩:=h
        subst ha hi hq
        unfold elemSize at hs
        split at hs
        · rename_i e hu
          obtain ⟨info,hinfo,hsz⟩:=Option.map_eq_some_iff.1 hs
          refine⟨o,ho,hd,.inl ?_⟩
          unfold execOp
          have h0:(0:Int)≤(i:Int)∧(i:Int)<(len':Int):=⟨om,om⟩
          simp only[hop,hx,hy,Instr.indexAt,asIntOf,Sem.run_bind,Sem.run_pure,Result.andThen_ok,run_underlying hu w,h0,and_self,if_true,run_sizeOf hinfo w,Int.toNat_natCast,hsz]
        · cases hs
      · cases h
    · cases h
  · cases h

theorem J.index {K:List Item} {env:Env} {w:World} (d:Nat) (t:TypeId) (s:Nat) (a:Option Addr) (p:Addr) (len i:Nat) (ii:Int) (q:Addr) (h:ixAt N K env=some (some d,t,a,len,ii)) (hs:elemSize P t=some s)
    (ha:a=some p) (hi:ii=i) (hl:i<len) (hq:p.add (i*s)=q) (k:J P f N R (eO K) ((d,.pointer (some q))::env) w):J P f N R K env w :=
  J.ok (OK.index d t s a p len i ii q h hs ha hi hl hq) k

def binAt (N:Nat) (K:List Item) (env:Env):Option (Option Nat×BinOp×IntKind×Int×Int) :=
  match opAt N K env with
  | some o=>match o.op with
    | .binOp op _ x y _=>match ev env x,ev env y with
      | .int k a,.int k' b=>if k=k' then some (o.dst,op,k,a,b) else none
      | _,_=>none
    | _=>none
  | none=>none

theorem OK.quo {K:List Item} {env:Env} {w:World} (d:Nat) (kk:IntKind) (x y:Int) (h:binAt N K env=some (some d,.quo,kk,x,y)) (hy:y≠0) :
    OK P N K env w (some d) (.int kk (kk.wrap (x.tdiv y))) w:=by
  unfold binAt at h
  split at h
  · rename_i o ho
    split at h
    · rename_i op t xo yo t' hop
      split at h
      · rename_i k1 a k2 b hx hy'
        split at h
        · rename_i hk
          simp only[Option.some.injEq,Prod.mk.injEq] at h
          obtain ⟨hd,rfl,rfl,rfl,rfl⟩:=h
          subst hk
          refine⟨o,ho,hd,.inl ?_⟩
          unfold execOp
          simp[hop,hx,hy',eqGuard,binOp,Op.intDiv,hy]
        · cases h
      · cases h
    · cases h
  · cases h

theorem OK.rem {K:List Item} {env:Env} {w:World} (d:Nat) (kk:IntKind) (x y:Int) (h:binAt N K env=some (some d,.rem,kk,x,y)) (hy:y≠0) :
    OK P N K env w (some d) (.int kk (x.tmod y)) w:=by
  unfold binAt at h
  split at h
  · rename_i o ho
    split at h
    · rename_i op t xo yo t' hop
      split at h
      · rename_i k1 a k2 b hx hy'
        split at h
        · rename_i hk
          simp only[Option.some.injEq,Prod.mk.injEq] at h
          obtain ⟨hd,rfl,rfl,rfl,rfl⟩:=h
          subst hk
          refine⟨o,ho,hd,.inl ?_⟩
          unfold execOp
          simp[hop,hx,hy',eqGuard,binOp,Op.intDiv,hy]
        · cases h
      · cases h
    · cases h
  · cases h

theorem J.quo {K:List Item} {env:Env} {w:World} (d:Nat) (kk:IntKind) (x y:Int) (h:binAt N K env=some (some d,.quo,kk,x,y)) (hy:y≠0)
    (k:J P f N R (eO K) ((d,.int kk (kk.wrap (x.tdiv y)))::env) w):J P f N R K env w:=J.ok (OK.quo d kk x y h hy) k

theorem J.rem {K:List Item} {env:Env} {w:World} (d:Nat) (kk:IntKind) (x y:Int) (h:binAt N K env=some (some d,.rem,kk,x,y)) (hy:y≠0)
    (k:J P f N R (eO K) ((d,.int kk (x.tmod y))::env) w):J P f N R K env w:=J.ok (OK.rem d kk x y h hy) k

theorem Ret.named {g:FuncId} {args:Array Value} {w:World} {Q:Value→World→Prop} (h:∀ R:Value→World→Prop,(∀ v w',Q v w'→R v w')→Ret P g args w R):Ret P g args w Q :=
  h Q fun _ _ q=>q

theorem Sep.cell {w0 w:World} {L:List Claim} (S:Sep w0 L w) {a:Addr} {v:Value} (h:w0.cell? a=some v):w.cell? a=some v:=by
  rw[S.below.cell (World.block_lt_of_cell? _ _ h)];exact h

structure Ones {α:Type} (g:α→Value) (w:World) (a:Option Addr) (len:Nat) (l:List α):Prop where
  len_eq:l.length=len
  cells:Cells w a (l.map g)

theorem Ones.at {α:Type} {g:α→Value} {w:World} {a:Option Addr} {len:Nat} {l:List α} (h:Ones g w a len l) (d:α) (j:Nat) (hj:j<len) :
    ∃ p,a=some p∧w.cell? (p.add j)=some (g (l.getD j d)):=by
  have hj':j<l.length:=by rw[h.len_eq];exact hj
  exact h.cells j _ (by simp[List.getD,hj'])

theorem Ones.sep {α:Type} {g:α→Value} {w0 w:World} {L:List Claim} {a:Option Addr} {len:Nat} {l:List α} (h:Ones g w0 a len l) (S:Sep w0 L w):Ones g w a len l:=⟨h.len_eq,h.cells.sep S⟩

abbrev dj:= @Ones Int (Value.int .i64)

theorem dl (x:Int) (n:Nat) (_h:n<64):Int.fdiv x (2^n)=x/(2^n:Int):=by
  rw[Int.fdiv_eq_ediv_of_nonneg _ (Int.le_of_lt (Int.pow_pos om))]

theorem bv_toNat_ofInt (n:Nat) (x:Int):((BitVec.ofInt n x).toNat:Int)=x%(2^n:Int):=by
  rw[BitVec.toNat_ofInt]
  have h:(0:Int)≤x%((2^n:Nat):Int):=Int.emod_nonneg _ (by have:=Nat.two_pow_pos n;omega)
  rw[Int.toNat_of_nonneg h]
  simp

theorem dB (n:Nat) (x:Int) (m:Int) (hm:m=2^n-1) (hn:n<63) :
    IntKind.wrap .i64 ((BitVec.ofInt 64 x &&& BitVec.ofInt 64 m).toNat:Int)=x%(2^n:Int):=by
  have hp:(0:Int)<2^n:=Int.pow_pos om
  have hle:(2:Int)^n≤2^62:=by exact_mod_cast Nat.pow_le_pow_right om (show n≤62 by omega)
  have hm1:(BitVec.ofInt 64 m).toNat=2^n-1:=by
    have h1:=bv_toNat_ofInt 64 m
    rw[Int.emod_eq_of_lt om om] at h1
    rw[hm] at h1 ⊢
    have h2:((2^n-1:Nat):Int)=(2:Int)^n-1:=by
      have:=Nat.two_pow_pos n
      rw[Int.natCast_sub om];simp
    exact Int.ofNat_inj.1 (h1.trans h2.symm)
  have h3:((BitVec.ofInt 64 x &&& BitVec.ofInt 64 m).toNat:Int)=x%(2^n:Int):=by
    rw[BitVec.toNat_and,hm1,Nat.and_two_pow_sub_one_eq_mod]
    have h1:=bv_toNat_ofInt 64 x
    rw[Int.natCast_emod,h1]
    have hd:(2:Int)^n ∣ 2^64:=⟨2^(64-n),by rw[← Int.pow_add];congr 1;omega⟩
    have h2:(((2^n:Nat):Nat):Int)=(2:Int)^n:=by simp
    rw[h2]
    exact Int.emod_emod_of_dvd x hd
  rw[h3]
  have h4:=Int.emod_nonneg x (by omega:(2:Int)^n≠0)
  have h5:=Int.emod_lt_of_pos x hp
  exact IntWalk.i64_in _ om
end
def cz (ops:Array Oper) (i:Nat):List Item:=[.inRegion ops [i]]
def bL:List Item→Array Oper
  | .code (.region _ ops true)::_=>ops
  | _=>#[]
def cR:List Item→List Item
  | .code (.region _ _ true)::k=>k
  | k=>k
def isDraw:List Item→Bool
  | .code (.region _ _ true)::_=>true
  | _=>false

section
variable {P:Program} {f:FuncId} {N:Nat} {R:Value→World→Prop}

theorem Ja.of_wp {c:Code} {k:List Item} {a:Act} {w:World} (h:c.wp P (fun e a' w'=>e=.normal∧Ja P f R k a' w') a w):Ja P f R (.code c::k) a w:=by
  intro cs
  obtain ⟨e,a',w',⟨rfl,hJ⟩,harr⟩:=h (base f) k cs
  obtain ⟨v,w2,fr,hR,hst,hfn,hl⟩:=hJ cs
  exact⟨v,w2,fr,hR,Steps.trans harr hst,hfn,hl⟩

def Qn (P:Program) (f:FuncId) (R:Value→World→Prop) (k:List Item):Exit→Act→World→Prop:=fun e a w=>e=.normal∧Ja P f R k a w

def TL (P:Program) (f:FuncId) (N:Nat) (R:Value→World→Prop) (K:List Item) (i:Nat) (env:Env) (w:World):Prop :=
  ∀ a,Fits N env a→wpList P (bL K) (Qn P f R (cR K)) ((bL K).toList.drop i) a w

def SL (P:Program) (f:FuncId) (N:Nat) (R:Value→World→Prop) (K:List Item) (n i:Nat) (env:Env) (w:World):Prop :=
  ∀ a,Fits N env a→wpStill P (bL K) w (fun a'=>wpList P (bL K) (Qn P f R (cR K)) ((bL K).toList.drop n) a' w) (((bL K).toList.take n).drop i) a

theorem dN {ops:Array Oper} {i:Nat} {env:Env} {o:Oper} (h:opAt N (cz ops i) env=some o) {a:Act} (hf:Fits N env a) :
    ops[i]? =some o∧Region.wanted o (yielded ops a.tmps)=true∧execOp a.eval o=execOp (ev env) o∧(∀ v,Fits N (Eng.put env o.dst v) (a.put o.dst v)):=by
  obtain ⟨ops',i',rest,k,hK,_,ho,hw,he,hfit⟩:=opAt_spec h hf
  simp only[cz,List.cons.injEq,Item.inRegion.injEq,and_true] at hK
  obtain ⟨⟨rfl,rfl,_⟩,_⟩:=hK
  exact⟨ho,hw,he,hfit⟩

theorem drop_of {ops:Array Oper} {i:Nat} {o:Oper} (h:ops[i]? =some o):ops.toList.drop i=o::ops.toList.drop (i+1):=by
  obtain ⟨hl,rfl⟩:=Array.getElem?_eq_some_iff.1 h
  have:=List.drop_eq_getElem_cons (l:=ops.toList) (i:=i) (by simpa using hl)
  simpa using this

theorem take_drop_of {ops:Array Oper} {n i:Nat} {o:Oper} (h:ops[i]? =some o) (hi:i<n):(ops.toList.take n).drop i=o::(ops.toList.take n).drop (i+1):=by
  obtain ⟨hl,rfl⟩:=Array.getElem?_eq_some_iff.1 h
  have:=List.drop_eq_getElem_cons (l:=ops.toList.take n) (i:=i) (by simp;omega)
  simpa using this

theorem TL.ok {K:List Item} {i:Nat} {env:Env} {w w':World} {d:Option Nat} {v:Value} (h:OK P N (cz (bL K) i) env w d v w') (k:TL P f N R K (i+1) (put env d v) w'):TL P f N R K i env w:=by
  intro a hf
  obtain ⟨o,ho,rfl,hr⟩:=h
  obtain ⟨hi,hw,he,hfit⟩:=dN ho hf
  rw[drop_of hi]
  unfold wpList
  rw[if_pos hw]
  refine .inl ?_
  unfold Oper.wp
  rw[he]
  rcases hr with hr | ⟨rfl,hr⟩
  · rw[hr];exact k _ (hfit v)
  · rw[hr];exact k _ (hfit undef)

theorem SL.ok {K:List Item} {n i:Nat} {env:Env} {w:World} {d:Option Nat} {v:Value} (hn:i<n) (h:OK P N (cz (bL K) i) env w d v w) (k:SL P f N R K n (i+1) (put env d v) w):SL P f N R K n i env w:=by
  intro a hf
  obtain ⟨o,ho,rfl,hr⟩:=h
  obtain ⟨hi,hw,he,hfit⟩:=dN ho hf
  rw[take_drop_of hi hn]
  unfold wpStill
  rw[if_pos hw]
  unfold Oper.still
  rw[he]
  rcases hr with hr | ⟨rfl,hr⟩
  · rw[hr];exact⟨rfl,k _ (hfit v)⟩
  · rw[hr];exact⟨rfl,k _ (hfit undef)⟩

def passAt (N:Nat) (ops:Array Oper) (i:Nat) (env:Env):Option (Option Nat) :=
  match ops[i]? with
  | none=>none
  | some o=>bif (match o.dst with | some t=>Nat.ble (t+1) N | none=>true) then (match wantE ops env o with | some false=>some o.dst | _=>none) else none

theorem passAt_spec {ops:Array Oper} {i:Nat} {env:Env} {d:Option Nat} (h:passAt N ops i env=some d) {a:Act} (hf:Fits N env a) :
    ∃ o,ops[i]? =some o∧o.dst=d∧Region.wanted o (yielded ops a.tmps)=false∧Fits N (Eng.put env d undef) (a.put o.dst undef):=by
  unfold passAt at h
  split at h
  · cases h
  · rename_i o ho
    cases hd:(match o.dst with | some t=>Nat.ble (t+1) N | none=>true) with
    | false=>rw[hd] at h;cases h
    | true =>
      rw[hd] at h
      simp only[cond_true] at h
      split at h
      · rename_i hwt
        simp only[Option.some.injEq] at h
        subst h
        refine⟨o,ho,rfl,wantE_spec hf hwt,hf.put _ _ fun t ht=>?_⟩
        rw[ht] at hd
        exact Nat.le_of_ble_eq_true hd
      · cases h

theorem TL.pass {K:List Item} {i:Nat} {env:Env} {w:World} {d:Option Nat} (h:passAt N (bL K) i env=some d) (k:TL P f N R K (i+1) (put env d undef) w):TL P f N R K i env w:=by
  intro a hf
  obtain ⟨o,hi,rfl,hw,hfit⟩:=passAt_spec h hf
  rw[drop_of hi]
  unfold wpList
  rw[if_neg (by rw[hw];decide)]
  exact k _ hfit

theorem SL.pass {K:List Item} {n i:Nat} {env:Env} {w:World} {d:Option Nat} (hn:i<n) (h:passAt N (bL K) i env=some d) (k:SL P f N R K n (i+1) (put env d undef) w):SL P f N R K n i env w:=by
  intro a hf
  obtain ⟨o,hi,rfl,hw,hfit⟩:=passAt_spec h hf
  rw[take_drop_of hi hn]
  unfold wpStill
  rw[if_neg (by rw[hw];decide)]
  exact k _ hfit

theorem SL.done {K:List Item} {n:Nat} {env:Env} {w:World} (k:TL P f N R K n env w):SL P f N R K n n env w:=by
  intro a hf
  have e:((bL K).toList.take n).drop n=[]:=List.drop_eq_nil_of_le (by simp;omega)
  rw[e]
  exact k a hf

theorem TL.done {K:List Item} {n:Nat} {env:Env} {w:World} (hn:(bL K).size=n) (k:J P f N R (cR K) env w):TL P f N R K n env w:=by
  intro a hf
  rw[List.drop_eq_nil_of_le (by simp;omega)]
  exact⟨rfl,k a hf⟩

theorem SL.weaken {K:List Item} {n i:Nat} {env env':Env} {w:World} (h:(env'.map fun p=>cT env p.1)=env'.map fun p=>some p.2) (k:SL P f N R K n i env' w):SL P f N R K n i env w :=
  fun a hf=>k a (hf.sub h)

theorem TL.weaken {K:List Item} {i:Nat} {env env':Env} {w:World} (h:(env'.map fun p=>cT env p.1)=env'.map fun p=>some p.2) (k:TL P f N R K i env' w):TL P f N R K i env w :=
  fun a hf=>k a (hf.sub h)

theorem SL.head {K:List Item} {n i:Nat} {t:Nat} {v:Value} (v':Value) {env:Env} {w:World} (hv:v=v') (k:SL P f N R K n i ((t,v')::env) w):SL P f N R K n i ((t,v)::env) w:=by
  subst hv;exact k

theorem TL.head {K:List Item} {i:Nat} {t:Nat} {v:Value} (v':Value) {env:Env} {w:World} (hv:v=v') (k:TL P f N R K i ((t,v')::env) w):TL P f N R K i ((t,v)::env) w:=by
  subst hv;exact k

theorem Sep.drew {w0 w:World} {L:List Claim} (h:Sep w0 L w):Sep w0 L { w with drawn:=w.drawn+1 } :=
  ⟨h.below.drew,fun c hc=>c.stable w _ (fun _ _=>rfl) (h.all c hc),h.fresh,h.apart⟩

theorem J.drawTail {w0:World} {L:List Claim} {K:List Item} {env:Env} {w:World} (S:Sep w0 L w) (n:Nat) (hm:P.follows .mixedOrders=true) (hd:isDraw K=true) (hB:Region.lexTailB .any (bL K) n=true)
    (k:∀ w',Sep w0 L w'→SL P f N R K n 0 env w'):J P f N R K env w:=by
  intro a hf
  unfold isDraw at hd
  split at hd
  · rename_i id ops k'
    refine Ja.of_wp ?_
    have h1:=wp_region_still_tail (P:=P) (id:=id) (Q:=Qn P f R k') (a:=a) (w:=w) (l:=ops.toList) n hm (by simpa [bL] using hB)
    simp only[Array.toArray_toList] at h1
    exact h1 (by have:=k _ S.drew a hf;simpa [bL,cR] using this)
  · cases hd

theorem J.drawStill {w0:World} {L:List Claim} {K:List Item} {env:Env} {w:World} (S:Sep w0 L w) (n:Nat) (hm:P.follows .mixedOrders=true) (hd:isDraw K=true) (hn:(bL K).size=n) (hB:Region.lexB .any (bL K)=true)
    (k:∀ w',Sep w0 L w'→SL P f N R K n 0 env w'):J P f N R K env w:=by
  intro a hf
  unfold isDraw at hd
  split at hd
  · rename_i id ops k'
    refine Ja.of_wp ?_
    have h1:=wp_region_still (P:=P) (id:=id) (ops:=ops) (Q:=Qn P f R k') (a:=a) (w:=w) hm (by simpa [bL] using hB)
    refine h1 ?_
    have h2:=k _ S.drew a hf
    have hs:ops.size=n:=hn
    simp only[bL,cR,List.drop_zero] at h2
    rw[List.take_of_length_le (by simp;omega),List.drop_eq_nil_of_le (by simp;omega)] at h2
    exact h2
  · cases hd

theorem TL.stBox {w0 w:World} {L:List Claim} (S:Sep w0 L w) (i:Nat) {b:Nat} {cs:List Value} {T:TypeId} {K:List Item} {j:Nat} {env:Env} (t:TypeId) (off:Nat) (v:Value) (cs':List Value) (L':List Claim)
    (h:stAt N (cz (bL K) j) env=some (none,t,⟨b,off,none⟩,v)) (hi:L[i]? =some (box b cs T)) (hs:(P.info? t).map (·.size)=some v.cells.size) (hv:stV off v.cells.toList cs=some cs')
    (hL:L.set i (box b cs' T)=L')
    (k:∀ w',Sep w0 L' w'→TL P f N R K (j+1) env w'):TL P f N R K j env w:=by
  subst hL
  exact TL.ok (OK.store _ h (run_storeVar (S.nth i hi) hs hv)) (k _ (S.setBox i cs' hi))

theorem TL.new {w0 w:World} {L:List Claim} (S:Sep w0 L w) (d:Nat) (cs:List Value) (T:TypeId) {K:List Item} {j:Nat} {env:Env}
    (h:opRun P N (cz (bL K) j) env w=some (some d,.ok (.value (.pointer (some ⟨w.heap.size,0,none⟩))) (w.alloc (.cells cs.toArray T))))
    (k:∀ b w',Sep w0 (box b cs T::L) w'→TL P f N R K (j+1) ((d,.pointer (some ⟨b,0,none⟩))::env) w'):TL P f N R K j env w:=by
  obtain ⟨o,ho,hd,hr⟩:=cK h
  exact TL.ok ⟨o,ho,hd,.inl hr⟩ (k _ _ (S.alloc cs T))

theorem callAt_spec {K:List Item} {env:Env} {d:Nat} {g:FuncId} {args:Array Value} (hb:af P g) (h:callAt N K env=some (some d,g,args)) (w:World) :
    ∃ o,opAt N K env=some o∧o.dst=some d∧(execOp (ev env) o).run P w=.ok (.enter g args) w:=by
  unfold callAt at h
  split at h
  · rename_i o ho
    split at h
    · rename_i x as ts hop
      split at h
      · rename_i g' first captured hx
        simp only[Option.some.injEq,Prod.mk.injEq] at h
        obtain ⟨hd,rfl,rfl⟩:=h
        refine⟨o,ho,hd,?_⟩
        unfold execOp
        have:=hb ((first.toList++as.toList.map (ev env)++captured.toList).toArray) w
        simp only[hop,resolve,Deferred.ofValue,hx,Sem.run_bind,Sem.run_pure,Result.andThen_ok,invoke]
        rw[← this]
        congr 2
        apply Array.ext'
        simp
      · cases h
    · cases h
  · cases h

theorem TL.callF {K:List Item} {j:Nat} {env:Env} {w:World} (d:Nat) (g:FuncId) (args:Array Value) (hb:af P g) (h:callAt N (cz (bL K) j) env=some (some d,g,args)) {Q:Value→World→Prop}
    (hc:Ret P g args w Q) (k:∀ v w',Q v w'→TL P f N R K (j+1) ((d,v)::env) w'):TL P f N R K j env w:=by
  intro a hf
  obtain ⟨o,ho,hd,hr⟩:=callAt_spec hb h w
  obtain ⟨hi,hw,he,hfit⟩:=dN ho hf
  rw[drop_of hi]
  unfold wpList
  rw[if_pos hw]
  refine .inl ?_
  unfold Oper.wp
  rw[he,hr]
  refine Calls.mono hc ?_
  rintro _ w' ⟨v,rfl,hq⟩
  have:=k v w' hq _ (by have:=hfit v;rw[hd] at this;exact this)
  rw[hd]
  exact this

def partV (P:Program) (t:TypeId) (cs:Array Value) (off:Nat):Option Value :=
  match P.underlying t,P.info? t with
  | some d,some i=>bif aggB d then some (.agg (cs.extract off (off+i.size))) else cs[off]?
  | _,_=>none

theorem partV_run {w:World} {t:TypeId} {cs:Array Value} {off:Nat} {v:Value} (h:partV P t cs off=some v):(part t cs off).run P w=.ok v w:=by
  unfold partV at h
  split at h
  · rename_i d i hu hi
    unfold part
    rw[Sem.run_bind,run_isAgg hu w,Result.andThen_ok]
    cases hd:aggB d with
    | true =>
      rw[hd] at h
      simp only[cond_true,Option.some.injEq] at h
      subst h
      simp[run_sizeOf hi w,Result.andThen]
    | false =>
      rw[hd] at h
      simp only[cond_false] at h
      simp[h]
  · cases h

def eqB (P:Program):Nat→TypeId→Value→Value→Option Bool
  | 0,_,_,_=>none
  | d+1,t,x,y =>
    match P.underlying t,x,y with
    | some .bool,.bool a,.bool b=>some (a==b)
    | some (.int _),.int k a,.int k' b=>if k=k' then some (a==b) else none
    | some .string,.string a,.string b=>some (a.toList==b.toList)
    | some (.struct fs),.agg xs,.agg ys=>if P.stoodInHeld t then none else
      fs.toList.foldr (fun f r=>if f.name≠ "_" then (match partV P f.type xs f.offset,partV P f.type ys f.offset with
        | some a,some b=>(match eqB P d f.type a b,r with | some p,some q=>some (p&&q) | _,_=>none)
        | _,_=>none) else r) (some true)
    | some (.array n e),.agg xs,.agg ys=>match P.info? e with
      | some _=>(List.range n).foldr (fun i r=>match partV P e xs (i*P.cellsOf e),partV P e ys (i*P.cellsOf e) with
        | some a,some b=>(match eqB P d e a b,r with | some p,some q=>some (p&&q) | _,_=>none)
        | _,_=>none) (some true)
      | none=>none
    | _,_,_=>none

theorem eqB_run:∀ (d:Nat) {w:World} {t:TypeId} {x y:Value} {b:Bool} (_:eqB P d t x y=some b),(Op.equalIn d t x y).run P w=.ok b w:=by
  intro d
  induction d with
  | zero=>intro w t x y b h;cases h
  | succ d ih =>
    intro w t x y b h
    unfold eqB at h
    split at h
    · rename_i a b' hu;simp only[Option.some.injEq] at h;subst h;exact run_equalIn_bool w d t _ _ hu
    · rename_i kk k a k' b' hu
      split at h
      · rename_i hk;simp only[Option.some.injEq] at h;subst h hk;exact run_equalIn_int w d t _ _ _ _ hu
      · cases h
    · rename_i a b' hu;simp only[Option.some.injEq] at h;subst h;exact run_equalIn_string w d t _ _ hu
    · rename_i fs xs ys hu
      split at h
      · cases h
      · rename_i hp
        have hf:P.fieldsOf t=fs:=by simp[Program.fieldsOf,hu]
        rw[run_equalIn_struct w d t xs ys (by rw[hf];exact hu) (by simpa using hp),hf]
        clear hu hf hp
        generalize fs.toList=l at h
        induction l generalizing b w with
        | nil=>simp only[List.foldr_nil,Option.some.injEq] at h;subst h;simp[Op.eqFields]
        | cons f l ihl =>
          simp only[List.foldr_cons] at h
          unfold Op.eqFields
          by_cases hn:f.name≠ "_"
          · rw[if_pos hn] at h ⊢
            split at h
            · rename_i a b' ha hb
              split at h
              · rename_i p q hp hq
                simp only[Option.some.injEq] at h
                subst h
                rw[Sem.run_bind,partV_run ha,Result.andThen_ok,Sem.run_bind,partV_run hb,Result.andThen_ok,Sem.run_bind,ih hp,Result.andThen_ok]
                cases p
                · simp
                · simp[ihl hq]
              · cases h
            · cases h
          · rw[if_neg hn] at h ⊢
            exact ihl h
    · rename_i n e xs ys hu
      split at h
      · rename_i i hi
        rw[run_equalIn_array _ d xs ys hu hi]
        clear hu hi
        generalize List.range n=l at h
        induction l generalizing b w with
        | nil=>simp only[List.foldr_nil,Option.some.injEq] at h;subst h;simp[Op.eqItems]
        | cons f l ihl =>
          simp only[List.foldr_cons] at h
          unfold Op.eqItems
          split at h
          · rename_i a b' ha hb
            split at h
            · rename_i p q hp hq
              simp only[Option.some.injEq] at h
              subst h
              rw[Sem.run_bind,partV_run ha,Result.andThen_ok,Sem.run_bind,partV_run hb,Result.andThen_ok,Sem.run_bind,ih hp,Result.andThen_ok]
              cases p
              · simp
              · simp[ihl hq]
            · cases h
          · cases h
      · cases h
    · cases h

def eqAt (N:Nat) (K:List Item) (env:Env):Option (Option Nat×Bool×TypeId×Array Value×Array Value) :=
  match opAt N K env with
  | some o=>match o.op with
    | .binOp .eql t x y _=>match ev env x,ev env y with
      | .agg a,.agg b=>some (o.dst,true,t,a,b)
      | _,_=>none
    | .binOp .neq t x y _=>match ev env x,ev env y with
      | .agg a,.agg b=>some (o.dst,false,t,a,b)
      | _,_=>none
    | _=>none
  | none=>none

theorem OK.eqS {K:List Item} {env:Env} {w:World} (d:Nat) (pos:Bool) (t:TypeId) (xs ys:Array Value) (b:Bool) (h:eqAt N K env=some (some d,pos,t,xs,ys)) (hg:P.eqGuardType P.depth t=false)
    (hb:eqB P 10000 t (.agg xs) (.agg ys)=some b) (b':Bool) (hb':(b==pos)=b'):OK P N K env w (some d) (.bool b') w:=by
  have hr:=eqB_run (w:=w) 10000 hb
  unfold eqAt at h
  split at h
  · rename_i o ho
    split at h
    · rename_i t' x y t2 hop
      split at h
      · rename_i a b2 hx hy
        simp only[Option.some.injEq,Prod.mk.injEq] at h
        obtain ⟨hd,rfl,rfl,rfl,rfl⟩:=h
        refine⟨o,ho,hd,.inl ?_⟩
        unfold execOp
        simp only[hop,hx,hy,eqGuard,binOp,Op.equal,Op.maxDepth,Sem.run_bind,run_program,Result.andThen_ok,hg,Bool.not_false,if_true,Sem.run_pure,hr]
        subst hb'
        cases b<;>simp[hg,hr,Result.andThen]
      · cases h
    · rename_i t' x y t2 hop
      split at h
      · rename_i a b2 hx hy
        simp only[Option.some.injEq,Prod.mk.injEq] at h
        obtain ⟨hd,rfl,rfl,rfl,rfl⟩:=h
        refine⟨o,ho,hd,.inl ?_⟩
        unfold execOp
        simp only[hop,hx,hy,eqGuard,binOp,Op.equal,Op.maxDepth,Sem.run_bind,run_program,Result.andThen_ok,hg,Bool.not_false,if_true,Sem.run_pure,hr]
        subst hb'
        cases b<;>simp[hg,hr,Result.andThen]
      · cases h
    · cases h
  · cases h
end
end Go.Eng
