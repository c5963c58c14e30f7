/- The proof engine of these claims: symbolic execution of a function's code over a partial frame ('Env'), checked by the kernel. Conditions: none; it is generic in the program. -/
import Derived.Calls
import Derived.Orders
import Derived.Scope
import Derived.KernelRfl
import Derived.WalkKit
namespace Go.Eng

abbrev Env := List (Nat × Value)

def look : List (Nat × Value) → Nat → Option Value
  | [], _ => none
  | (s, v) :: r, t => bif Nat.beq s t then some v else look r t

def ev (env : Env) : Operand → Value
  | .tmp t => match look env t with | some v => v | none => undef
  | .const v => v
  | .global g => .pointer (some ⟨g, 0, none⟩)
  | .func f => .func (.func f) #[] #[]

def known (env : Env) : Operand → Bool
  | .tmp t => (look env t).isSome
  | _ => true

def put (env : Env) (d : Option Nat) (v : Value) : Env := match d with | some t => (t, v) :: env | none => env

/-- A frame that holds what is known of it. -/
structure Fits (N : Nat) (env : Env) (a : Act) : Prop where
  size : a.tmps.size = N
  defers : a.defers = []
  slot : ∀ t v, look env t = some v → a.tmps[t]? = some v

theorem look_cons (s : Nat) (v : Value) (r : Env) (t : Nat) : look ((s, v) :: r) t = if s = t then some v else look r t := by
  by_cases h : s = t
  · subst h; simp [look]
  · have hb : Nat.beq s t = false := by cases hx : Nat.beq s t with | false => rfl | true => exact absurd (Nat.eq_of_beq_eq_true hx) h
    simp [look, h, hb]

theorem Fits.ev_eq {N : Nat} {env : Env} {a : Act} (h : Fits N env a) {x : Operand} (hx : known env x = true) : a.eval x = ev env x := by
  cases x with
  | tmp t =>
    simp only [known] at hx
    cases hl : look env t with
    | none => rw [hl] at hx; cases hx
    | some v => simp [Act.eval, ev, hl, h.slot t v hl]
  | const v => rfl
  | global g => rfl
  | func f => rfl

theorem Fits.put {N : Nat} {env : Env} {a : Act} (h : Fits N env a) (d : Option Nat) (v : Value) (hd : ∀ t, d = some t → t < N) : Fits N (Eng.put env d v) (a.put d v) := by
  cases d with
  | none => exact h
  | some t =>
    have ht := hd t rfl
    refine ⟨by simp [Act.put, h.size], h.defers, fun s u hs => ?_⟩
    simp only [Eng.put, look_cons] at hs
    simp only [Act.put]
    by_cases e : t = s
    · subst e; simp at hs; subst hs
      simp [h.size, ht]
    · rw [if_neg e] at hs
      rw [Array.getElem?_setIfInBounds_ne e]
      exact h.slot s u hs

/-- what the guard of an operation says: carried out, passed over, or not known -/
def wantE (ops : Array Oper) (env : Env) (o : Oper) : Option Bool :=
  match o.guard with
  | none => some true
  | some (j, want) =>
    match ops[j]? with
    | none => some false
    | some p =>
      match p.dst with
      | none => some false
      | some t =>
        match look env t with
        | some (.bool b) => some (b == want)
        | some (.tuple _) => some false
        | _ => none

theorem wantE_spec {N : Nat} {ops : Array Oper} {env : Env} {o : Oper} {a : Act} {b : Bool} (hf : Fits N env a) (h : wantE ops env o = some b) :
    Region.wanted o (yielded ops a.tmps) = b := by
  unfold wantE at h
  unfold Region.wanted
  cases hg : o.guard with
  | none => rw [hg] at h; simpa using h
  | some jw =>
    obtain ⟨j, want⟩ := jw
    rw [hg] at h
    simp only at h ⊢
    unfold yielded
    cases hp : ops[j]? with
    | none => rw [hp] at h; simp at h; subst h; rfl
    | some p =>
      rw [hp] at h
      simp only at h
      cases ht : p.dst with
      | none => rw [ht] at h; simp at h; subst h; simp [ht]
      | some t =>
        rw [ht] at h
        simp only at h
        cases hl : look env t with
        | none => rw [hl] at h; cases h
        | some v =>
          rw [hl] at h
          have hs := hf.slot t v hl
          simp only [Option.bind_some, ht, hs]
          cases v <;> simp_all <;> (subst h; rfl)

def noSel : Op → Bool | .select .. => false | _ => true

/-- one step of the machine inside one function, where it is determined by what is known -/
def micro (P : Program) (N : Nat) : List Item → Env → World → Option (List Item × Env × World)
  | .code .skip :: k, env, w | .code (.label _) :: k, env, w | .inBlock _ :: k, env, w | .inScope _ :: k, env, w => some (k, env, w)
  | .code (.seq x y) :: k, env, w => some (.code x :: .code y :: k, env, w)
  | .code (.cond c x y) :: k, env, w => bif known env c then (match ev env c with | .bool b => some (.code (if b then x else y) :: k, env, w) | _ => none) else none
  | .code (.block id c) :: k, env, w => some (.code c :: .inBlock id :: k, env, w)
  | .code (.scope c) :: k, env, w => some (.code c :: .inScope c :: k, env, w)
  | .code (.loop c) :: k, env, w | .inLoop c :: k, env, w => some (.code c :: .inLoop c :: k, env, w)
  | .code (.exit id) :: k, env, w => match exitTo id k with | some k' => some (k', env, w) | none => none
  | .code (.region _ ops false) :: k, env, w => some (.inRegion ops (List.range ops.size) :: k, env, w)
  | .inRegion _ [] :: k, env, w => some (k, env, w)
  | .inRegion ops (i :: rest) :: k, env, w =>
    match ops[i]? with
    | none => none
    | some o =>
      bif (match o.dst with | some t => Nat.ble (t + 1) N | none => true) then
        match wantE ops env o with
        | none => none
        | some false => some (.inRegion ops rest :: k, put env o.dst undef, w)
        | some true =>
          bif (noSel o.op && o.op.operands.toList.all (known env)) then
            match (execOp (ev env) o).run P w with
            | .ok (.value v) w' => some (.inRegion ops rest :: k, put env o.dst v, w')
            | .ok .skip w' => some (.inRegion ops rest :: k, put env o.dst undef, w')
            | _ => none
          else none
      else none
  | _, _, _ => none

def exec (P : Program) (N : Nat) : Nat → List Item → Env → World → Option (List Item × Env × World)
  | 0, k, env, w => some (k, env, w)
  | n + 1, k, env, w => match micro P N k env w with | some (k', env', w') => exec P N n k' env' w' | none => none

/-- the static position after n steps: 'cs' says how the tests fall -/
def adv : Nat → List Bool → List Item → List Item
  | 0, _, k => k
  | n + 1, cs, .code .skip :: k | n + 1, cs, .code (.label _) :: k | n + 1, cs, .inBlock _ :: k | n + 1, cs, .inScope _ :: k => adv n cs k
  | n + 1, cs, .code (.seq x y) :: k => adv n cs (.code x :: .code y :: k)
  | n + 1, c :: cs, .code (.cond _ x y) :: k => adv n cs (.code (bif c then x else y) :: k)
  | n + 1, cs, .code (.block id c) :: k => adv n cs (.code c :: .inBlock id :: k)
  | n + 1, cs, .code (.scope c) :: k => adv n cs (.code c :: .inScope c :: k)
  | n + 1, cs, .code (.loop c) :: k | n + 1, cs, .inLoop c :: k => adv n cs (.code c :: .inLoop c :: k)
  | n + 1, cs, .code (.exit id) :: k => match exitTo id k with | some k' => adv n cs k' | none => []
  | n + 1, cs, .code (.region _ ops _) :: k => adv n cs (.inRegion ops (List.range ops.size) :: k)
  | n + 1, cs, .inRegion _ [] :: k => adv n cs k
  | n + 1, cs, .inRegion ops (_ :: rest) :: k => adv n cs (.inRegion ops rest :: k)
  | _ + 1, _, _ => []

def bodyOf (f : Func) : List Item := match f.body with | some c => [.code c] | none => []

def base (f : FuncId) : Frame := { (default : Frame) with fn := f, kind := .normal }

/-- from here the function returns a value, and value and world are as 'R' says -/
def Ja (P : Program) (f : FuncId) (R : Value → World → Prop) (K : List Item) (a : Act) (w : World) : Prop :=
  ∀ cs, ∃ v w' fr, R v w' ∧ Steps P (lone ((base f).at a K) cs w) (lone fr cs w') ∧ fr.fn = f ∧ fr.leaving P w' (.returned v)

/-- the same for every frame that holds what is known -/
def J (P : Program) (f : FuncId) (N : Nat) (R : Value → World → Prop) (K : List Item) (env : Env) (w : World) : Prop :=
  ∀ a, Fits N env a → Ja P f R K a w

section
variable {P : Program} {f : FuncId} {N : Nat} {R : Value → World → Prop}

theorem Ja.step {K K' : List Item} {a a' : Act} {w w' : World} (hs : ∀ cs, step P (lone ((base f).at a K) cs w) = .next (lone ((base f).at a' K') cs w'))
    (h : Ja P f R K' a' w') : Ja P f R K a w := fun cs =>
  let ⟨v, w2, fr, hR, hst, hfn, hl⟩ := h cs
  ⟨v, w2, fr, hR, .head (hs cs) hst, hfn, hl⟩

theorem Ja.op {ops : Array Oper} {i : Nat} {rest : List Nat} {k : List Item} {o : Oper} {a : Act} {w w' : World} {v : Value} (ho : ops[i]? = some o)
    (hw : Region.wanted o (yielded ops a.tmps) = true) (hr : (execOp a.eval o).run P w = .ok (.value v) w') (h : Ja P f R (.inRegion ops rest :: k) (a.put o.dst v) w') :
    Ja P f R (.inRegion ops (i :: rest) :: k) a w := by
  refine Ja.step (fun cs => step_lone_go ?_) h
  rw [stepG_op ho hw]
  have hfin : ((base f).at a (.inRegion ops (i :: rest) :: k)).finish v = (base f).at (a.put o.dst v) (.inRegion ops rest :: k) := by rw [Frame.finish_at, ho]; rfl
  rw [← hfin]
  simp [stepG.apply, hr]

theorem Ja.op_skip {ops : Array Oper} {i : Nat} {rest : List Nat} {k : List Item} {o : Oper} {a : Act} {w w' : World} (ho : ops[i]? = some o)
    (hw : Region.wanted o (yielded ops a.tmps) = true) (hr : (execOp a.eval o).run P w = .ok .skip w') (h : Ja P f R (.inRegion ops rest :: k) (a.put o.dst undef) w') :
    Ja P f R (.inRegion ops (i :: rest) :: k) a w := by
  refine Ja.step (fun cs => step_lone_go ?_) h
  rw [stepG_op ho hw]
  have hfin : ((base f).at a (.inRegion ops (i :: rest) :: k)).finish undef = (base f).at (a.put o.dst undef) (.inRegion ops rest :: k) := by rw [Frame.finish_at, ho]; rfl
  rw [← hfin]
  simp [stepG.apply, hr]

theorem Ja.op_pass {ops : Array Oper} {i : Nat} {rest : List Nat} {k : List Item} {o : Oper} {a : Act} {w : World} (ho : ops[i]? = some o)
    (hw : Region.wanted o (yielded ops a.tmps) = false) (h : Ja P f R (.inRegion ops rest :: k) (a.put o.dst undef) w) :
    Ja P f R (.inRegion ops (i :: rest) :: k) a w := by
  refine Ja.step (fun cs => ?_) h
  have := step_op_skip (P := P) (b := base f) (a := a) (k := k) (cs := cs) (w := w) (ops := ops) (i := i) (rest := rest) (by simp [ho, hw])
  simpa [ho] using this

theorem known_all {env : Env} {a : Act} (hf : Fits N env a) {o : Oper} (h : (noSel o.op && o.op.operands.toList.all (known env)) = true) :
    execOp a.eval o = execOp (ev env) o := by
  simp only [Bool.and_eq_true, List.all_eq_true] at h
  refine execOp_congr o (fun cs b e => ?_) (fun x hx => hf.ev_eq (h.2 x (by simpa using hx)))
  have := h.1
  rw [e] at this
  cases this

theorem Ja.micro {K K' : List Item} {env env' : Env} {a : Act} {w w' : World} (hf : Fits N env a) (h : micro P N K env w = some (K', env', w')) 
    (hk : ∀ a', Fits N env' a' → Ja P f R K' a' w') : Ja P f R K a w := by
  unfold Eng.micro at h
  split at h
  · simp only [Option.some.injEq, Prod.mk.injEq] at h; obtain ⟨rfl, rfl, rfl⟩ := h
    exact Ja.step (fun _ => step_skip) (hk a hf)
  · simp only [Option.some.injEq, Prod.mk.injEq] at h; obtain ⟨rfl, rfl, rfl⟩ := h
    exact Ja.step (fun _ => step_label) (hk a hf)
  · simp only [Option.some.injEq, Prod.mk.injEq] at h; obtain ⟨rfl, rfl, rfl⟩ := h
    exact Ja.step (fun _ => step_inBlock) (hk a hf)
  · simp only [Option.some.injEq, Prod.mk.injEq] at h; obtain ⟨rfl, rfl, rfl⟩ := h
    exact Ja.step (fun _ => step_inScope) (hk a hf)
  · simp only [Option.some.injEq, Prod.mk.injEq] at h; obtain ⟨rfl, rfl, rfl⟩ := h
    exact Ja.step (fun _ => step_seq) (hk a hf)
  · rename_i c x y k
    cases hkn : known env c with
    | false => rw [hkn] at h; cases h
    | true =>
      rw [hkn] at h
      simp only [cond_true] at h
      have he := hf.ev_eq hkn
      cases hv : ev env c <;> rw [hv] at h <;> simp only [reduceCtorEq, Option.some.injEq, Prod.mk.injEq] at h
      rename_i b
      obtain ⟨rfl, rfl, rfl⟩ := h
      exact Ja.step (fun _ => step_cond (he.trans hv)) (hk a hf)
  · simp only [Option.some.injEq, Prod.mk.injEq] at h; obtain ⟨rfl, rfl, rfl⟩ := h
    exact Ja.step (fun _ => step_block) (hk a hf)
  · simp only [Option.some.injEq, Prod.mk.injEq] at h; obtain ⟨rfl, rfl, rfl⟩ := h
    exact Ja.step (fun _ => step_scope) (hk a hf)
  · simp only [Option.some.injEq, Prod.mk.injEq] at h; obtain ⟨rfl, rfl, rfl⟩ := h
    exact Ja.step (fun _ => step_loop) (hk a hf)
  · simp only [Option.some.injEq, Prod.mk.injEq] at h; obtain ⟨rfl, rfl, rfl⟩ := h
    exact Ja.step (fun _ => step_inLoop) (hk a hf)
  · split at h
    · rename_i k' hx
      simp only [Option.some.injEq, Prod.mk.injEq] at h; obtain ⟨rfl, rfl, rfl⟩ := h
      exact Ja.step (fun _ => step_exit hx) (hk a hf)
    · cases h
  · simp only [Option.some.injEq, Prod.mk.injEq] at h; obtain ⟨rfl, rfl, rfl⟩ := h
    exact Ja.step (fun _ => step_region) (hk a hf)
  · simp only [Option.some.injEq, Prod.mk.injEq] at h; obtain ⟨rfl, rfl, rfl⟩ := h
    exact Ja.step (fun _ => step_region_end) (hk a hf)
  · split at h
    · cases h
    · rename_i o ho
      cases hd : (match o.dst with | some t => Nat.ble (t + 1) N | none => true) with
      | false => rw [hd] at h; cases h
      | true =>
        rw [hd] at h
        simp only [cond_true] at h
        have hdl : ∀ t, o.dst = some t → t < N := fun t ht => by
          rw [ht] at hd
          exact Nat.le_of_ble_eq_true hd
        split at h
        · cases h
        · rename_i hwt
          simp only [Option.some.injEq, Prod.mk.injEq] at h; obtain ⟨rfl, rfl, rfl⟩ := h
          exact Ja.op_pass ho (wantE_spec hf hwt) (hk _ (hf.put _ _ hdl))
        · rename_i hwt
          cases hkn : (noSel o.op && o.op.operands.toList.all (known env)) with
          | false => rw [hkn] at h; cases h
          | true =>
            rw [hkn] at h
            simp only [cond_true] at h
            have he := known_all hf hkn
            split at h
            · rename_i v w2 hr
              simp only [Option.some.injEq, Prod.mk.injEq] at h; obtain ⟨rfl, rfl, rfl⟩ := h
              exact Ja.op ho (wantE_spec hf hwt) (by rw [he]; exact hr) (hk _ (hf.put _ _ hdl))
            · rename_i w2 hr
              simp only [Option.some.injEq, Prod.mk.injEq] at h; obtain ⟨rfl, rfl, rfl⟩ := h
              exact Ja.op_skip ho (wantE_spec hf hwt) (by rw [he]; exact hr) (hk _ (hf.put _ _ hdl))
            · cases h
  · cases h

theorem Ja.exec : ∀ (n : Nat) {K K' : List Item} {env env' : Env} {a : Act} {w w' : World} (_ : Fits N env a) (_ : exec P N n K env w = some (K', env', w'))
    (_ : ∀ a', Fits N env' a' → Ja P f R K' a' w'), Ja P f R K a w := by
  intro n
  induction n with
  | zero =>
    intro K K' env env' a w w' hf h hk
    simp only [Eng.exec, Option.some.injEq, Prod.mk.injEq] at h
    obtain ⟨rfl, rfl, rfl⟩ := h
    exact hk a hf
  | succ n ih =>
    intro K K' env env' a w w' hf h hk
    simp only [Eng.exec] at h
    split at h
    · rename_i k' e' w2 hm
      exact Ja.micro hf hm fun a' hf' => ih hf' h hk
    · cases h

theorem Fits.sub {env env' : Env} {a : Act} (h : Fits N env a) (hs : (env'.map fun p => look env p.1) = env'.map fun p => some p.2) : Fits N env' a := by
  refine ⟨h.size, h.defers, ?_⟩
  have key : ∀ (l : Env), (l.map fun p => look env p.1) = l.map (fun p => some p.2) → ∀ t v, look l t = some v → look env t = some v := by
    intro l
    induction l with
    | nil => intro _ t v h; cases h
    | cons p l ih =>
      intro e t v hl
      obtain ⟨s, u⟩ := p
      simp only [List.map_cons, List.cons.injEq] at e
      rw [look_cons] at hl
      by_cases hst : s = t
      · subst hst; rw [if_pos rfl] at hl; cases hl; exact e.1
      · rw [if_neg hst] at hl; exact ih e.2 t v hl
  exact fun t v hl => h.slot t v (key env' hs t v hl)

/-- RUN: n steps, what is kept of the frame being 'env'' -/
theorem J.run (n : Nat) {K : List Item} (K' : List Item) {env : Env} (env' : Env) {w : World} (w' : World)
    (h : ((Eng.exec P N n K env w).map fun s => (s.1, (env'.map fun p => look s.2.1 p.1), s.2.2)) = some (K', env'.map (fun p => some p.2), w'))
    (k : J P f N R K' env' w') : J P f N R K env w := by
  intro a hf
  cases he : Eng.exec P N n K env w with
  | none => rw [he] at h; cases h
  | some s =>
    obtain ⟨K2, env2, w2⟩ := s
    rw [he] at h
    simp only [Option.map_some, Option.some.injEq, Prod.mk.injEq] at h
    obtain ⟨rfl, hs, rfl⟩ := h
    exact Ja.exec n hf he fun a' hf' => k a' (hf'.sub hs)

/-- the value in the slot that was written last, in another spelling -/
theorem J.head {K : List Item} {t : Nat} {v : Value} (v' : Value) {env : Env} {w : World} (hv : v = v') (k : J P f N R K ((t, v') :: env) w) : J P f N R K ((t, v) :: env) w := by
  subst hv; exact k

/-- the operation at hand, where it is known to be carried out, and where it writes -/
def opAt (N : Nat) : List Item → Env → Option (Oper)
  | .inRegion ops (i :: _) :: _, env =>
    match ops[i]? with
    | none => none
    | some o =>
      bif (match o.dst with | some t => Nat.ble (t + 1) N | none => true) then
        match wantE ops env o with
        | some true => bif (noSel o.op && o.op.operands.toList.all (known env)) then some o else none
        | _ => none
      else none
  | _, _ => none

def popK : List Item → List Item
  | .inRegion ops (_ :: rest) :: k => .inRegion ops rest :: k
  | k => k

theorem opAt_spec {K : List Item} {env : Env} {o : Oper} (h : opAt N K env = some o) {a : Act} (hf : Fits N env a) :
    ∃ ops i rest k, K = .inRegion ops (i :: rest) :: k ∧ popK K = .inRegion ops rest :: k ∧ ops[i]? = some o ∧ Region.wanted o (yielded ops a.tmps) = true ∧ execOp a.eval o = execOp (ev env) o ∧
      (∀ v, Fits N (Eng.put env o.dst v) (a.put o.dst v)) := by
  unfold opAt at h
  split at h
  · rename_i ops i rest k
    split at h
    · cases h
    · rename_i o' ho
      cases hd : (match o'.dst with | some t => Nat.ble (t + 1) N | none => true) with
      | false => rw [hd] at h; cases h
      | true =>
        rw [hd] at h
        simp only [cond_true] at h
        split at h
        · rename_i hwt
          cases hkn : (noSel o'.op && o'.op.operands.toList.all (known env)) with
          | false => rw [hkn] at h; cases h
          | true =>
            rw [hkn] at h
            simp only [cond_true, Option.some.injEq] at h
            subst h
            refine ⟨ops, i, rest, k, rfl, rfl, ho, wantE_spec hf hwt, known_all hf hkn, fun v => hf.put _ _ fun t ht => ?_⟩
            rw [ht] at hd
            exact Nat.le_of_ble_eq_true hd
        · cases h
  · cases h

/-- ONE OPERATION, by whatever its run is known to give -/
theorem J.op {K : List Item} {env : Env} {w : World} {o : Oper} (v : Value) (w' : World) (h : opAt N K env = some o)
    (hr : (execOp (ev env) o).run P w = .ok (.value v) w') (k : J P f N R (popK K) (put env o.dst v) w') : J P f N R K env w := by
  intro a hf
  obtain ⟨ops, i, rest, k', rfl, hp, ho, hw, he, hfit⟩ := opAt_spec h hf
  rw [hp] at k
  exact Ja.op ho hw (by rw [he]; exact hr) (k _ (hfit v))

theorem J.opSkip {K : List Item} {env : Env} {w : World} {o : Oper} (w' : World) (h : opAt N K env = some o)
    (hr : (execOp (ev env) o).run P w = .ok .skip w') (k : J P f N R (popK K) (put env o.dst undef) w') : J P f N R K env w := by
  intro a hf
  obtain ⟨ops, i, rest, k', rfl, hp, ho, hw, he, hfit⟩ := opAt_spec h hf
  rw [hp] at k
  exact Ja.op_skip ho hw (by rw [he]; exact hr) (k _ (hfit undef))

/-- a function's contract: it returns, and value and world are as 'Q' says -/
def Ret (P : Program) (g : FuncId) (args : Array Value) (w : World) (Q : Value → World → Prop) : Prop :=
  Calls P g args w fun e w' => ∃ v, e = .returned v ∧ Q v w'

theorem Ret.mono {g : FuncId} {args : Array Value} {w : World} {Q Q' : Value → World → Prop} (h : Ret P g args w Q) (hq : ∀ v w', Q v w' → Q' v w') : Ret P g args w Q' :=
  Calls.mono h fun _ _ ⟨v, e, q⟩ => ⟨v, e, hq _ _ q⟩

/-- A CALL, by the callee's contract -/
theorem J.call {K : List Item} {env : Env} {w : World} {o : Oper} {g : FuncId} {args : Array Value} {Q : Value → World → Prop} (h : opAt N K env = some o)
    (hr : (execOp (ev env) o).run P w = .ok (.enter g args) w) (hc : Ret P g args w Q) (k : ∀ v w', Q v w' → J P f N R (popK K) (put env o.dst v) w') : J P f N R K env w := by
  intro a hf
  obtain ⟨ops, i, rest, k', rfl, hp, ho, hw, he, hfit⟩ := opAt_spec h hf
  rw [hp] at k
  intro cs
  have hg := stepG_op (P := P) (b := base f) (k := k') (cs := cs) (w := w) (rest := rest) ho hw
  obtain ⟨e, w'', fr, ⟨v, rfl, hq⟩, hsteps, _, hleave⟩ := hc ((base f).at a (.inRegion ops (i :: rest) :: k') :: cs)
  have henter : step P (lone ((base f).at a (.inRegion ops (i :: rest) :: k')) cs w) =
      .next (lone (Frame.enter P g args .normal) ((base f).at a (.inRegion ops (i :: rest) :: k') :: cs) w) :=
    step_lone_go (by rw [hg, he]; simp [stepG.apply, hr, Frame.at, base])
  have hfin : ((base f).at a (.inRegion ops (i :: rest) :: k')).finish v = (base f).at (a.put o.dst v) (.inRegion ops rest :: k') := by rw [Frame.finish_at, ho]; rfl
  obtain ⟨v2, w2, fr2, hR, hst, hfn, hl⟩ := k v w'' hq _ (hfit v) cs
  refine ⟨v2, w2, fr2, hR, .head henter (Steps.trans hsteps (.head ?_ hst)), hfn, hl⟩
  rw [← hfin]
  exact step_leave_returned hleave

def resRun (P : Program) (env : Env) (w : World) : List ResultVar → List Value → Prop
  | [], [] => True
  | .tmp t :: r, v :: vs => look env t = some v ∧ resRun P env w r vs
  | .cell p t :: r, v :: vs => (∃ a, look env p = some (.pointer (some a)) ∧ (loadVar t a).run P w = .ok v w) ∧ resRun P env w r vs
  | _, _ => False

def tup (vs : List Value) : Value := match vs with | [v] => v | _ => .tuple vs.toArray

theorem tup_one (v : Value) : tup [v] = v := rfl
theorem tup_two (u v : Value) : tup [u, v] = .tuple #[u, v] := rfl
theorem tup_three (t u v : Value) : tup [t, u, v] = .tuple #[t, u, v] := rfl

theorem results_run {fn : Func} {env : Env} {a : Act} {w : World} (hf : Fits N env a) {vs : List Value} (h : resRun P env w fn.results.toList vs) : (results fn a.tmps).run P w = .ok (tup vs) w := by
  have hget : ∀ t v, look env t = some v → a.tmps.getD t undef = v := fun t v hl => by
    have hs := hf.slot t v hl
    simp [Array.getD_eq_getD_getElem?, hs]
  unfold results
  rw [Array.mapM_eq_mapM_toList]
  have key : ∀ (F : ResultVar → Sem Value), (∀ t, F (.tmp t) = pure (a.tmps.getD t undef)) → (∀ p t, F (.cell p t) = (do loadVar t (← asAddr (a.tmps.getD p undef)))) →
      ∀ (l : List ResultVar) (us : List Value), resRun P env w l us → (l.mapM F).run P w = .ok us w := by
    intro F hF1 hF2 l
    induction l with
    | nil =>
      intro us h
      cases us with
      | nil => rfl
      | cons _ _ => exact h.elim
    | cons x l ih =>
      intro us h
      cases us with
      | nil => cases x <;> exact h.elim
      | cons v us =>
        cases x with
        | tmp t =>
          obtain ⟨h1, h2⟩ := h
          have := ih us h2
          simp only [List.mapM_cons, hF1, hget t v h1, Sem.run_bind, Sem.run_pure, Result.andThen_ok, this]
        | cell p t =>
          obtain ⟨⟨ad, h1, h3⟩, h2⟩ := h
          have := ih us h2
          have e : asAddr (a.tmps.getD p undef) = pure ad := by rw [hget p _ h1]; rfl
          simp only [List.mapM_cons, hF2, e, Sem.run_bind, Sem.run_pure, Result.andThen_ok, h3, this]
  simp only [map_eq_pure_bind, Sem.run_bind]
  rw [key _ ?_ ?_ _ vs h]
  · simp only [Result.andThen_ok, Sem.run_pure]
    cases vs with
    | nil => rfl
    | cons v vs => cases vs with
      | nil => rfl
      | cons u us => simp [tup]
  · intro t; rfl
  · intro p t; rfl

theorem J.ret {k : List Item} {env : Env} {w : World} (fn : Func) (vs : List Value) (hfn : P.funcs[f]? = some fn) (hr : resRun P env w fn.results.toList vs) (hR : R (tup vs) w) :
    J P f N R (.code .ret :: k) env w := by
  intro a hf cs
  exact ⟨tup vs, w, _, hR, .one step_ret, rfl, rfl, hf.defers, rfl, fn, hfn, results_run hf hr⟩

theorem J.done {env : Env} {w : World} (fn : Func) (vs : List Value) (hfn : P.funcs[f]? = some fn) (hr : resRun P env w fn.results.toList vs) (hR : R (tup vs) w) :
    J P f N R [] env w := by
  intro a hf cs
  exact ⟨tup vs, w, _, hR, .one step_end, rfl, rfl, hf.defers, rfl, fn, hfn, results_run hf hr⟩

theorem Ret.of_J {g : FuncId} {fn : Func} {c : Code} {args : Array Value} {w : World} {Q : Value → World → Prop} (env : Env) (hf : P.funcs[g]? = some fn) (hb : fn.body = some c)
    (hn : fn.ntmps = N) (hs : args.size ≤ N) (he : (env.map fun p => args[p.1]?) = env.map fun p => some p.2) 
    (h : J P g N Q (bodyOf fn) env w) : Ret P g args w Q := by
  intro cs
  have henter : Frame.enter P g args .normal = (base g).at { tmps := args ++ Array.replicate (fn.ntmps - args.size) undef, defers := [] } [.code c] := by
    simp [Frame.enter, Frame.at, hf, hb, base]
  have hfit : Fits N env { tmps := args ++ Array.replicate (fn.ntmps - args.size) undef, defers := [] } := by
    refine ⟨by simp; omega, rfl, ?_⟩
    have key : ∀ (l : Env), (l.map fun p => args[p.1]?) = l.map (fun p => some p.2) → ∀ t v, look l t = some v → args[t]? = some v := by
      intro l
      induction l with
      | nil => intro _ t v h; cases h
      | cons p l ih =>
        intro e t v hl
        obtain ⟨s, u⟩ := p
        simp only [List.map_cons, List.cons.injEq] at e
        rw [look_cons] at hl
        by_cases hst : s = t
        · subst hst; rw [if_pos rfl] at hl; cases hl; exact e.1
        · rw [if_neg hst] at hl; exact ih e.2 t v hl
    intro t v hl
    have := key env he t v hl
    have hlt : t < args.size := (Array.getElem?_eq_some_iff.1 this).1
    show (args ++ _)[t]? = some v
    rw [Array.getElem?_append_left hlt]
    exact this
  have hb' : bodyOf fn = [.code c] := by simp [bodyOf, hb]
  rw [hb'] at h
  obtain ⟨v, w', fr, hR, hst, hfn, hl⟩ := h _ hfit cs
  rw [henter]
  exact ⟨.returned v, w', fr, ⟨v, rfl, hR⟩, hst, hfn, hl⟩
end
end Go.Eng

