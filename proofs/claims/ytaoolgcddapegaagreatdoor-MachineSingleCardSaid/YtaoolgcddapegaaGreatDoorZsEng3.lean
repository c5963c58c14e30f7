/- The proof engine, third part: regions that draw their order. Conditions: none; it is generic in the program. -/
import Derived.Test.YtaoolgcddapegaaGreatDoorZsEng
import Derived.StillTail
import Derived.Deep.Quiet
import Derived.ChangeKeysEq
import Derived.OrdersHeld
import Derived.ProofKit
import Derived.OpenShut
import Derived.ShutString
import Derived.ChangeOld
namespace Go.Eng
set_option linter.unusedSimpArgs false
set_option linter.unusedVariables false
open Go.RowKit

/-- one operation of a region, as if it stood alone -/
def rItem (ops : Array Oper) (i : Nat) : List Item := [.inRegion ops [i]]
def rOps : List Item → Array Oper
  | .code (.region _ ops true) :: _ => ops
  | _ => #[]
def rRest : List Item → List Item
  | .code (.region _ _ true) :: k => k
  | k => k
def isDraw : List Item → Bool
  | .code (.region _ _ true) :: _ => true
  | _ => false

section
variable {P : Program} {f : FuncId} {N : Nat} {R : Value → World → Prop}

theorem Ja.of_wp {c : Code} {k : List Item} {a : Act} {w : World} (h : c.wp P (fun e a' w' => e = .normal ∧ Ja P f R k a' w') a w) : Ja P f R (.code c :: k) a w := by
  intro cs
  obtain ⟨e, a', w', ⟨rfl, hJ⟩, harr⟩ := h (base f) k cs
  obtain ⟨v, w2, fr, hR, hst, hfn, hl⟩ := hJ cs
  exact ⟨v, w2, fr, hR, Steps.trans harr hst, hfn, hl⟩

/-- the exit that a region's walk asks -/
def Qn (P : Program) (f : FuncId) (R : Value → World → Prop) (k : List Item) : Exit → Act → World → Prop := fun e a w => e = .normal ∧ Ja P f R k a w

/-- THE TAIL of a region, in the order of the text, from operation i on -/
def TL (P : Program) (f : FuncId) (N : Nat) (R : Value → World → Prop) (K : List Item) (i : Nat) (env : Env) (w : World) : Prop :=
  ∀ a, Fits N env a → wpList P (rOps K) (Qn P f R (rRest K)) ((rOps K).toList.drop i) a w

/-- THE HEAD of a region (its operations leave the world alone), in the order of the text, from operation i on; the tail begins at n -/
def SL (P : Program) (f : FuncId) (N : Nat) (R : Value → World → Prop) (K : List Item) (n i : Nat) (env : Env) (w : World) : Prop :=
  ∀ a, Fits N env a → wpStill P (rOps K) w (fun a' => wpList P (rOps K) (Qn P f R (rRest K)) ((rOps K).toList.drop n) a' w) (((rOps K).toList.take n).drop i) a

theorem opAt_rItem {ops : Array Oper} {i : Nat} {env : Env} {o : Oper} (h : opAt N (rItem ops i) env = some o) {a : Act} (hf : Fits N env a) :
    ops[i]? = some o ∧ Region.wanted o (yielded ops a.tmps) = true ∧ execOp a.eval o = execOp (ev env) o ∧ (∀ v, Fits N (Eng.put env o.dst v) (a.put o.dst v)) := by
  obtain ⟨ops', i', rest, k, hK, _, ho, hw, he, hfit⟩ := opAt_spec h hf
  simp only [rItem, List.cons.injEq, Item.inRegion.injEq, and_true] at hK
  obtain ⟨⟨rfl, rfl, _⟩, _⟩ := hK
  exact ⟨ho, hw, he, hfit⟩

theorem drop_of {ops : Array Oper} {i : Nat} {o : Oper} (h : ops[i]? = some o) : ops.toList.drop i = o :: ops.toList.drop (i + 1) := by
  obtain ⟨hl, rfl⟩ := Array.getElem?_eq_some_iff.1 h
  have := List.drop_eq_getElem_cons (l := ops.toList) (i := i) (by simpa using hl)
  simpa using this

theorem take_drop_of {ops : Array Oper} {n i : Nat} {o : Oper} (h : ops[i]? = some o) (hi : i < n) : (ops.toList.take n).drop i = o :: (ops.toList.take n).drop (i + 1) := by
  obtain ⟨hl, rfl⟩ := Array.getElem?_eq_some_iff.1 h
  have := List.drop_eq_getElem_cons (l := ops.toList.take n) (i := i) (by simp; omega)
  simpa using this

theorem TL.ok {K : List Item} {i : Nat} {env : Env} {w w' : World} {d : Option Nat} {v : Value} (h : OK P N (rItem (rOps K) i) env w d v w') (k : TL P f N R K (i + 1) (put env d v) w') : TL P f N R K i env w := by
  intro a hf
  obtain ⟨o, ho, rfl, hr⟩ := h
  obtain ⟨hi, hw, he, hfit⟩ := opAt_rItem ho hf
  rw [drop_of hi]
  unfold wpList
  rw [if_pos hw]
  refine .inl ?_
  unfold Oper.wp
  rw [he]
  rcases hr with hr | ⟨rfl, hr⟩
  · rw [hr]; exact k _ (hfit v)
  · rw [hr]; exact k _ (hfit undef)

theorem SL.ok {K : List Item} {n i : Nat} {env : Env} {w : World} {d : Option Nat} {v : Value} (hn : i < n) (h : OK P N (rItem (rOps K) i) env w d v w) (k : SL P f N R K n (i + 1) (put env d v) w) : SL P f N R K n i env w := by
  intro a hf
  obtain ⟨o, ho, rfl, hr⟩ := h
  obtain ⟨hi, hw, he, hfit⟩ := opAt_rItem ho hf
  rw [take_drop_of hi hn]
  unfold wpStill
  rw [if_pos hw]
  unfold Oper.still
  rw [he]
  rcases hr with hr | ⟨rfl, hr⟩
  · rw [hr]; exact ⟨rfl, k _ (hfit v)⟩
  · rw [hr]; exact ⟨rfl, k _ (hfit undef)⟩

/-- an operation that its guard passes over -/
def passAt (N : Nat) (ops : Array Oper) (i : Nat) (env : Env) : Option (Option Nat) :=
  match ops[i]? with
  | none => none
  | some o => bif (match o.dst with | some t => Nat.ble (t + 1) N | none => true) then (match wantE ops env o with | some false => some o.dst | _ => none) else none

theorem passAt_spec {ops : Array Oper} {i : Nat} {env : Env} {d : Option Nat} (h : passAt N ops i env = some d) {a : Act} (hf : Fits N env a) :
    ∃ o, ops[i]? = some o ∧ o.dst = d ∧ Region.wanted o (yielded ops a.tmps) = false ∧ Fits N (Eng.put env d undef) (a.put o.dst undef) := by
  unfold passAt at h
  split at h
  · cases h
  · rename_i o ho
    cases hd : (match o.dst with | some t => Nat.ble (t + 1) N | none => true) with
    | false => rw [hd] at h; cases h
    | true =>
      rw [hd] at h
      simp only [cond_true] at h
      split at h
      · rename_i hwt
        simp only [Option.some.injEq] at h
        subst h
        refine ⟨o, ho, rfl, wantE_spec hf hwt, hf.put _ _ fun t ht => ?_⟩
        rw [ht] at hd
        exact Nat.le_of_ble_eq_true hd
      · cases h

theorem TL.pass {K : List Item} {i : Nat} {env : Env} {w : World} {d : Option Nat} (h : passAt N (rOps K) i env = some d) (k : TL P f N R K (i + 1) (put env d undef) w) : TL P f N R K i env w := by
  intro a hf
  obtain ⟨o, hi, rfl, hw, hfit⟩ := passAt_spec h hf
  rw [drop_of hi]
  unfold wpList
  rw [if_neg (by rw [hw]; decide)]
  exact k _ hfit

theorem SL.pass {K : List Item} {n i : Nat} {env : Env} {w : World} {d : Option Nat} (hn : i < n) (h : passAt N (rOps K) i env = some d) (k : SL P f N R K n (i + 1) (put env d undef) w) : SL P f N R K n i env w := by
  intro a hf
  obtain ⟨o, hi, rfl, hw, hfit⟩ := passAt_spec h hf
  rw [take_drop_of hi hn]
  unfold wpStill
  rw [if_neg (by rw [hw]; decide)]
  exact k _ hfit

theorem SL.done {K : List Item} {n : Nat} {env : Env} {w : World} (k : TL P f N R K n env w) : SL P f N R K n n env w := by
  intro a hf
  have e : ((rOps K).toList.take n).drop n = [] := List.drop_eq_nil_of_le (by simp; omega)
  rw [e]
  exact k a hf

theorem TL.done {K : List Item} {n : Nat} {env : Env} {w : World} (hn : (rOps K).size = n) (k : J P f N R (rRest K) env w) : TL P f N R K n env w := by
  intro a hf
  rw [List.drop_eq_nil_of_le (by simp; omega)]
  exact ⟨rfl, k a hf⟩

theorem SL.weaken {K : List Item} {n i : Nat} {env env' : Env} {w : World} (h : (env'.map fun p => look env p.1) = env'.map fun p => some p.2) (k : SL P f N R K n i env' w) : SL P f N R K n i env w :=
  fun a hf => k a (hf.sub h)

theorem TL.weaken {K : List Item} {i : Nat} {env env' : Env} {w : World} (h : (env'.map fun p => look env p.1) = env'.map fun p => some p.2) (k : TL P f N R K i env' w) : TL P f N R K i env w :=
  fun a hf => k a (hf.sub h)

theorem SL.head {K : List Item} {n i : Nat} {t : Nat} {v : Value} (v' : Value) {env : Env} {w : World} (hv : v = v') (k : SL P f N R K n i ((t, v') :: env) w) : SL P f N R K n i ((t, v) :: env) w := by
  subst hv; exact k

theorem TL.head {K : List Item} {i : Nat} {t : Nat} {v : Value} (v' : Value) {env : Env} {w : World} (hv : v = v') (k : TL P f N R K i ((t, v') :: env) w) : TL P f N R K i ((t, v) :: env) w := by
  subst hv; exact k

theorem Sep.drew {w0 w : World} {L : List Claim} (h : Sep w0 L w) : Sep w0 L { w with drawn := w.drawn + 1 } :=
  ⟨h.below.drew, fun c hc => c.stable w _ (fun _ _ => rfl) (h.all c hc), h.fresh, h.apart⟩

/-- A REGION THAT DRAWS: a head that only reads, a tail in the order of the text -/
theorem J.drawTail {w0 : World} {L : List Claim} {K : List Item} {env : Env} {w : World} (S : Sep w0 L w) (n : Nat) (hm : P.follows .mixedOrders = true) (hd : isDraw K = true) (hB : Region.lexTailB .any (rOps K) n = true)
    (k : ∀ w', Sep w0 L w' → SL P f N R K n 0 env w') : J P f N R K env w := by
  intro a hf
  unfold isDraw at hd
  split at hd
  · rename_i id ops k'
    refine Ja.of_wp ?_
    have h1 := wp_region_still_tail (P := P) (id := id) (Q := Qn P f R k') (a := a) (w := w) (l := ops.toList) n hm (by simpa [rOps] using hB)
    simp only [Array.toArray_toList] at h1
    exact h1 (by have := k _ S.drew a hf; simpa [rOps, rRest] using this)
  · cases hd

/-- A REGION THAT DRAWS and only reads -/
theorem J.drawStill {w0 : World} {L : List Claim} {K : List Item} {env : Env} {w : World} (S : Sep w0 L w) (n : Nat) (hm : P.follows .mixedOrders = true) (hd : isDraw K = true) (hn : (rOps K).size = n) (hB : Region.lexB .any (rOps K) = true)
    (k : ∀ w', Sep w0 L w' → SL P f N R K n 0 env w') : J P f N R K env w := by
  intro a hf
  unfold isDraw at hd
  split at hd
  · rename_i id ops k'
    refine Ja.of_wp ?_
    have h1 := wp_region_still (P := P) (id := id) (ops := ops) (Q := Qn P f R k') (a := a) (w := w) hm (by simpa [rOps] using hB)
    refine h1 ?_
    have h2 := k _ S.drew a hf
    have hs : ops.size = n := hn
    simp only [rOps, rRest, List.drop_zero] at h2
    rw [List.take_of_length_le (by simp; omega), List.drop_eq_nil_of_le (by simp; omega)] at h2
    exact h2
  · cases hd

theorem TL.stBox {w0 w : World} {L : List Claim} (S : Sep w0 L w) (i : Nat) {b : Nat} {cs : List Value} {T : TypeId} {K : List Item} {j : Nat} {env : Env} (t : TypeId) (off : Nat) (v : Value) (cs' : List Value) (L' : List Claim)
    (h : stAt N (rItem (rOps K) j) env = some (none, t, ⟨b, off, none⟩, v)) (hi : L[i]? = some (box b cs T)) (hs : (P.info? t).map (·.size) = some v.cells.size) (hv : stV off v.cells.toList cs = some cs')
    (hL : L.set i (box b cs' T) = L')
    (k : ∀ w', Sep w0 L' w' → TL P f N R K (j + 1) env w') : TL P f N R K j env w := by
  subst hL
  exact TL.ok (OK.store _ h (run_storeVar (S.nth i hi) hs hv)) (k _ (S.setBox i cs' hi))

theorem TL.new {w0 w : World} {L : List Claim} (S : Sep w0 L w) (d : Nat) (cs : List Value) (T : TypeId) {K : List Item} {j : Nat} {env : Env}
    (h : opRun P N (rItem (rOps K) j) env w = some (some d, .ok (.value (.pointer (some ⟨w.heap.size, 0, none⟩))) (w.alloc (.cells cs.toArray T))))
    (k : ∀ b w', Sep w0 (box b cs T :: L) w' → TL P f N R K (j + 1) ((d, .pointer (some ⟨b, 0, none⟩)) :: env) w') : TL P f N R K j env w := by
  obtain ⟨o, ho, hd, hr⟩ := opRun_spec h
  exact TL.ok ⟨o, ho, hd, .inl hr⟩ (k _ _ (S.alloc cs T))

theorem callAt_spec {K : List Item} {env : Env} {d : Nat} {g : FuncId} {args : Array Value} (hb : HasBody P g) (h : callAt N K env = some (some d, g, args)) (w : World) :
    ∃ o, opAt N K env = some o ∧ o.dst = some d ∧ (execOp (ev env) o).run P w = .ok (.enter g args) w := by
  unfold callAt at h
  split at h
  · rename_i o ho
    split at h
    · rename_i x as ts hop
      split at h
      · rename_i g' first captured hx
        simp only [Option.some.injEq, Prod.mk.injEq] at h
        obtain ⟨hd, rfl, rfl⟩ := h
        refine ⟨o, ho, hd, ?_⟩
        unfold execOp
        have := hb ((first.toList ++ as.toList.map (ev env) ++ captured.toList).toArray) w
        simp only [hop, resolve, Deferred.ofValue, hx, Sem.run_bind, Sem.run_pure, Result.andThen_ok, invoke]
        rw [← this]
        congr 2
        apply Array.ext'
        simp
      · cases h
    · cases h
  · cases h

theorem TL.callF {K : List Item} {j : Nat} {env : Env} {w : World} (d : Nat) (g : FuncId) (args : Array Value) (hb : HasBody P g) (h : callAt N (rItem (rOps K) j) env = some (some d, g, args)) {Q : Value → World → Prop}
    (hc : Ret P g args w Q) (k : ∀ v w', Q v w' → TL P f N R K (j + 1) ((d, v) :: env) w') : TL P f N R K j env w := by
  intro a hf
  obtain ⟨o, ho, hd, hr⟩ := callAt_spec hb h w
  obtain ⟨hi, hw, he, hfit⟩ := opAt_rItem ho hf
  rw [drop_of hi]
  unfold wpList
  rw [if_pos hw]
  refine .inl ?_
  unfold Oper.wp
  rw [he, hr]
  refine Calls.mono hc ?_
  rintro _ w' ⟨v, rfl, hq⟩
  have := k v w' hq _ (by have := hfit v; rw [hd] at this; exact this)
  rw [hd]
  exact this

/-- a part of a struct's cells -/
def partV (P : Program) (t : TypeId) (cs : Array Value) (off : Nat) : Option Value :=
  match P.underlying t, P.info? t with
  | some d, some i => bif aggB d then some (.agg (cs.extract off (off + i.size))) else cs[off]?
  | _, _ => none

theorem partV_run {w : World} {t : TypeId} {cs : Array Value} {off : Nat} {v : Value} (h : partV P t cs off = some v) : (part t cs off).run P w = .ok v w := by
  unfold partV at h
  split at h
  · rename_i d i hu hi
    unfold part
    rw [Sem.run_bind, run_isAgg hu w, Result.andThen_ok]
    cases hd : aggB d with
    | true =>
      rw [hd] at h
      simp only [cond_true, Option.some.injEq] at h
      subst h
      simp [run_sizeOf hi w, Result.andThen]
    | false =>
      rw [hd] at h
      simp only [cond_false] at h
      simp [h]
  · cases h

/-- equality of plain data: the Bool that '==' gives -/
def eqB (P : Program) : Nat → TypeId → Value → Value → Option Bool
  | 0, _, _, _ => none
  | d + 1, t, x, y =>
    match P.underlying t, x, y with
    | some .bool, .bool a, .bool b => some (a == b)
    | some (.int _), .int k a, .int k' b => if k = k' then some (a == b) else none
    | some .string, .string a, .string b => some (a.toList == b.toList)
    | some (.struct fs), .agg xs, .agg ys => if P.stoodInHeld t then none else
      fs.toList.foldr (fun f r => if f.name ≠ "_" then (match partV P f.type xs f.offset, partV P f.type ys f.offset with
        | some a, some b => (match eqB P d f.type a b, r with | some p, some q => some (p && q) | _, _ => none)
        | _, _ => none) else r) (some true)
    | some (.array n e), .agg xs, .agg ys => match P.info? e with
      | some _ => (List.range n).foldr (fun i r => match partV P e xs (i * P.cellsOf e), partV P e ys (i * P.cellsOf e) with
        | some a, some b => (match eqB P d e a b, r with | some p, some q => some (p && q) | _, _ => none)
        | _, _ => none) (some true)
      | none => none
    | _, _, _ => none

theorem eqB_run : ∀ (d : Nat) {w : World} {t : TypeId} {x y : Value} {b : Bool} (_ : eqB P d t x y = some b), (Op.equalIn d t x y).run P w = .ok b w := by
  intro d
  induction d with
  | zero => intro w t x y b h; cases h
  | succ d ih =>
    intro w t x y b h
    unfold eqB at h
    split at h
    · rename_i a b' hu; simp only [Option.some.injEq] at h; subst h; exact run_equalIn_bool w d t _ _ hu
    · rename_i kk k a k' b' hu
      split at h
      · rename_i hk; simp only [Option.some.injEq] at h; subst h hk; exact run_equalIn_int w d t _ _ _ _ hu
      · cases h
    · rename_i a b' hu; simp only [Option.some.injEq] at h; subst h; exact run_equalIn_string w d t _ _ hu
    · rename_i fs xs ys hu
      split at h
      · cases h
      · rename_i hp
        have hf : P.fieldsOf t = fs := by simp [Program.fieldsOf, hu]
        rw [run_equalIn_struct w d t xs ys (by rw [hf]; exact hu) (by simpa using hp), hf]
        clear hu hf hp
        generalize fs.toList = l at h
        induction l generalizing b w with
        | nil => simp only [List.foldr_nil, Option.some.injEq] at h; subst h; simp [Op.eqFields]
        | cons f l ihl =>
          simp only [List.foldr_cons] at h
          unfold Op.eqFields
          by_cases hn : f.name ≠ "_"
          · rw [if_pos hn] at h ⊢
            split at h
            · rename_i a b' ha hb
              split at h
              · rename_i p q hp hq
                simp only [Option.some.injEq] at h
                subst h
                rw [Sem.run_bind, partV_run ha, Result.andThen_ok, Sem.run_bind, partV_run hb, Result.andThen_ok, Sem.run_bind, ih hp, Result.andThen_ok]
                cases p
                · simp
                · simp [ihl hq]
              · cases h
            · cases h
          · rw [if_neg hn] at h ⊢
            exact ihl h
    · rename_i n e xs ys hu
      split at h
      · rename_i i hi
        rw [run_equalIn_array _ d xs ys hu hi]
        clear hu hi
        generalize List.range n = l at h
        induction l generalizing b w with
        | nil => simp only [List.foldr_nil, Option.some.injEq] at h; subst h; simp [Op.eqItems]
        | cons f l ihl =>
          simp only [List.foldr_cons] at h
          unfold Op.eqItems
          split at h
          · rename_i a b' ha hb
            split at h
            · rename_i p q hp hq
              simp only [Option.some.injEq] at h
              subst h
              rw [Sem.run_bind, partV_run ha, Result.andThen_ok, Sem.run_bind, partV_run hb, Result.andThen_ok, Sem.run_bind, ih hp, Result.andThen_ok]
              cases p
              · simp
              · simp [ihl hq]
            · cases h
          · cases h
      · cases h
    · cases h

/-- '==' or '!=' between two structs at hand -/
def eqAt (N : Nat) (K : List Item) (env : Env) : Option (Option Nat × Bool × TypeId × Array Value × Array Value) :=
  match opAt N K env with
  | some o => match o.op with
    | .binOp .eql t x y _ => match ev env x, ev env y with
      | .agg a, .agg b => some (o.dst, true, t, a, b)
      | _, _ => none
    | .binOp .neq t x y _ => match ev env x, ev env y with
      | .agg a, .agg b => some (o.dst, false, t, a, b)
      | _, _ => none
    | _ => none
  | none => none

theorem OK.eqS {K : List Item} {env : Env} {w : World} (d : Nat) (pos : Bool) (t : TypeId) (xs ys : Array Value) (b : Bool) (h : eqAt N K env = some (some d, pos, t, xs, ys)) (hg : P.eqGuardType P.depth t = false)
    (hb : eqB P 10000 t (.agg xs) (.agg ys) = some b) (b' : Bool) (hb' : (b == pos) = b') : OK P N K env w (some d) (.bool b') w := by
  have hr := eqB_run (w := w) 10000 hb
  unfold eqAt at h
  split at h
  · rename_i o ho
    split at h
    · rename_i t' x y t2 hop
      split at h
      · rename_i a b2 hx hy
        simp only [Option.some.injEq, Prod.mk.injEq] at h
        obtain ⟨hd, rfl, rfl, rfl, rfl⟩ := h
        refine ⟨o, ho, hd, .inl ?_⟩
        unfold execOp
        simp only [hop, hx, hy, eqGuard, binOp, Op.equal, Op.maxDepth, Sem.run_bind, run_program, Result.andThen_ok, hg, Bool.not_false, if_true, Sem.run_pure, hr]
        subst hb'
        cases b <;> simp [hg, hr, Result.andThen]
      · cases h
    · rename_i t' x y t2 hop
      split at h
      · rename_i a b2 hx hy
        simp only [Option.some.injEq, Prod.mk.injEq] at h
        obtain ⟨hd, rfl, rfl, rfl, rfl⟩ := h
        refine ⟨o, ho, hd, .inl ?_⟩
        unfold execOp
        simp only [hop, hx, hy, eqGuard, binOp, Op.equal, Op.maxDepth, Sem.run_bind, run_program, Result.andThen_ok, hg, Bool.not_false, if_true, Sem.run_pure, hr]
        subst hb'
        cases b <;> simp [hg, hr, Result.andThen]
      · cases h
    · cases h
  · cases h
end
end Go.Eng

namespace Go.Eng
set_option linter.unusedSimpArgs false
set_option linter.unusedVariables false
open Go.RowKit

section
variable {P : Program} {f : FuncId} {N : Nat} {R : Value → World → Prop}

/-- the region's rest, whatever is ready being taken next; 'l': what has been done; 'H': what holds of the world behind every operation -/
def WA (P : Program) (f : FuncId) (N : Nat) (R : Value → World → Prop) (K : List Item) (H : World → Prop) (fuel : Nat) (l : Array Bool) (env : Env) (w : World) : Prop :=
  H w → ∀ a, Fits N env a → wpAnyH P .any (rOps K) (Qn P f R (rRest K)) H fuel l a w

/-- the same, with 'H' to be shown first -/
def WB (P : Program) (f : FuncId) (N : Nat) (R : Value → World → Prop) (K : List Item) (H : World → Prop) (fuel : Nat) (l : Array Bool) (env : Env) (w : World) : Prop :=
  H w ∧ WA P f N R K H fuel l env w

/-- operation i comes next -/
def WO (P : Program) (f : FuncId) (N : Nat) (R : Value → World → Prop) (K : List Item) (H : World → Prop) (fuel : Nat) (l : Array Bool) (i : Nat) (env : Env) (w : World) : Prop :=
  ∀ a, Fits N env a → wpOp P (rOps K) (Qn P f R (rRest K)) i (fun a' w' => H w' ∧ wpAnyH P .any (rOps K) (Qn P f R (rRest K)) H fuel l a' w') a w

def AllW (P : Program) (f : FuncId) (N : Nat) (R : Value → World → Prop) (K : List Item) (H : World → Prop) (fuel : Nat) (l : Array Bool) (env : Env) (w : World) : List Nat → Prop
  | [] => True
  | i :: r => WO P f N R K H fuel (l.setIfInBounds i true) i env w ∧ AllW P f N R K H fuel l env w r

variable {H : World → Prop}

theorem WB.mk {K : List Item} {fuel : Nat} {l : Array Bool} {env : Env} {w : World} (h : H w) (k : WA P f N R K H fuel l env w) : WB P f N R K H fuel l env w := ⟨h, k⟩

theorem WB.out {K : List Item} {fuel : Nat} {l : Array Bool} {env : Env} {w : World} {a : Act} (k : WB P f N R K H fuel l env w) (hf : Fits N env a) : H w ∧ wpAnyH P .any (rOps K) (Qn P f R (rRest K)) H fuel l a w := ⟨k.1, k.2 k.1 a hf⟩

theorem WA.all {K : List Item} {fuel : Nat} {l : Array Bool} {env : Env} {w : World} (rs : List Nat) (hr : Region.ready .any (rOps K) l = rs) (hne : rs.isEmpty = false) (h : AllW P f N R K H fuel l env w rs) : WA P f N R K H (fuel + 1) l env w := by
  intro _ a hf
  refine wpAnyH_all hr (by cases rs <;> simp_all) fun i hi => ?_
  clear hr hne
  induction rs with
  | nil => cases hi
  | cons j r ih =>
    rcases List.mem_cons.1 hi with rfl | hi
    · exact h.1 a hf
    · exact ih h.2 hi

theorem WO.set {K : List Item} {fuel : Nat} {l : Array Bool} {i : Nat} {env : Env} {w : World} (l' : Array Bool) (hl : l = l') (k : WO P f N R K H fuel l' i env w) : WO P f N R K H fuel l i env w := by
  subst hl; exact k

theorem WO.ok {K : List Item} {fuel : Nat} {l : Array Bool} {i : Nat} {env : Env} {w w' : World} {d : Option Nat} {v : Value} (h : OK P N (rItem (rOps K) i) env w d v w') (k : WB P f N R K H fuel l (put env d v) w') : WO P f N R K H fuel l i env w := by
  intro a hf
  obtain ⟨o, ho, rfl, hr⟩ := h
  obtain ⟨hi, hw, he, hfit⟩ := opAt_rItem ho hf
  unfold wpOp
  simp only [hi, hw, if_true]
  refine .inl ?_
  unfold Oper.wp
  rw [he]
  rcases hr with hr | ⟨rfl, hr⟩
  · rw [hr]; exact k.out (hfit v)
  · rw [hr]; exact k.out (hfit undef)

theorem WO.pass {K : List Item} {fuel : Nat} {l : Array Bool} {i : Nat} {env : Env} {w : World} {d : Option Nat} (h : passAt N (rOps K) i env = some d) (k : WB P f N R K H fuel l (put env d undef) w) : WO P f N R K H fuel l i env w := by
  intro a hf
  obtain ⟨o, hi, rfl, hw, hfit⟩ := passAt_spec h hf
  unfold wpOp
  simp only [hi, hw, Bool.false_eq_true, if_false]
  exact k.out hfit

theorem WO.stBox {w0 w : World} {L : List Claim} (S : Sep w0 L w) (i : Nat) {b : Nat} {cs : List Value} {T : TypeId} {K : List Item} {fuel : Nat} {l : Array Bool} {j : Nat} {env : Env} (t : TypeId) (off : Nat) (v : Value) (cs' : List Value) (L' : List Claim)
    (h : stAt N (rItem (rOps K) j) env = some (none, t, ⟨b, off, none⟩, v)) (hi : L[i]? = some (box b cs T)) (hs : (P.info? t).map (·.size) = some v.cells.size) (hv : stV off v.cells.toList cs = some cs')
    (hL : L.set i (box b cs' T) = L')
    (k : ∀ w', Sep w0 L' w' → WB P f N R K H fuel l env w') : WO P f N R K H fuel l j env w := by
  subst hL
  exact WO.ok (OK.store _ h (run_storeVar (S.nth i hi) hs hv)) (k _ (S.setBox i cs' hi))

theorem WO.new {w0 w : World} {L : List Claim} (S : Sep w0 L w) (d : Nat) (cs : List Value) (T : TypeId) {K : List Item} {fuel : Nat} {l : Array Bool} {j : Nat} {env : Env}
    (h : opRun P N (rItem (rOps K) j) env w = some (some d, .ok (.value (.pointer (some ⟨w.heap.size, 0, none⟩))) (w.alloc (.cells cs.toArray T))))
    (k : ∀ b w', Sep w0 (box b cs T :: L) w' → WB P f N R K H fuel l ((d, .pointer (some ⟨b, 0, none⟩)) :: env) w') : WO P f N R K H fuel l j env w := by
  obtain ⟨o, ho, hd, hr⟩ := opRun_spec h
  exact WO.ok ⟨o, ho, hd, .inl hr⟩ (k _ _ (S.alloc cs T))

theorem WO.callF {K : List Item} {fuel : Nat} {l : Array Bool} {j : Nat} {env : Env} {w : World} (d : Nat) (g : FuncId) (args : Array Value) (hb : HasBody P g) (h : callAt N (rItem (rOps K) j) env = some (some d, g, args)) {Q : Value → World → Prop}
    (hc : Ret P g args w Q) (k : ∀ v w', Q v w' → WB P f N R K H fuel l ((d, v) :: env) w') : WO P f N R K H fuel l j env w := by
  intro a hf
  obtain ⟨o, ho, hd, hr⟩ := callAt_spec hb h w
  obtain ⟨hi, hw, he, hfit⟩ := opAt_rItem ho hf
  unfold wpOp
  simp only [hi, hw, if_true]
  refine .inl ?_
  unfold Oper.wp
  rw [he, hr]
  refine Calls.mono hc ?_
  rintro _ w' ⟨v, rfl, hq⟩
  have := (k v w' hq).out (by have := hfit v; rw [hd] at this; exact this)
  rw [hd]
  exact this

/-- an operation that yields the same in every world that meets 'H', taken first: no other order need be looked at -/
theorem WA.take {K : List Item} {fuel : Nat} {l : Array Bool} {env : Env} {w : World} (i d : Nat) (v : Value) (l' : Array Bool) (hs : Region.noSelect (rOps K) = true) (hf : Region.free .any (rOps K) l i = true) (hr : (Region.ready .any (rOps K) l).contains i = true)
    (hv : ∀ w, H w → opRun P N (rItem (rOps K) i) env w = some (some d, .ok (.value v) w)) (hl : l.setIfInBounds i true = l') (k : WA P f N R K H fuel l' ((d, v) :: env) w) : WA P f N R K H (fuel + 1) l env w := by
  subst hl
  intro hH a hfit
  obtain ⟨o, ho, hd, _⟩ := opRun_spec (hv w hH)
  obtain ⟨hi, hw, he, hfi⟩ := opAt_rItem ho hfit
  refine wpAnyH_take hi hs hf hr (v := v) (fun c a w h => by cases h.1) (.inl ⟨hw, fun w' hw' => ?_⟩) hH (k hH _ (by have := hfi v; rw [hd] at this; exact this) |> fun h => by rw [hd]; exact h)
  obtain ⟨o2, ho2, _, hr2⟩ := opRun_spec (hv w' hw')
  rw [ho] at ho2
  cases ho2
  rw [he]; exact hr2

theorem WA.takeOK {K : List Item} {fuel : Nat} {l : Array Bool} {env : Env} {w : World} (i : Nat) (l' : Array Bool) (hs : Region.noSelect (rOps K) = true) (hf : Region.free .any (rOps K) l i = true) (hr : (Region.ready .any (rOps K) l).contains i = true) (hl : l.setIfInBounds i true = l') {d : Nat} {v : Value}
    (hv : ∀ w, H w → OK P N (rItem (rOps K) i) env w (some d) v w) (hu : (match v with | .tuple _ => false | _ => true) = true) (k : WA P f N R K H fuel l' ((d, v) :: env) w) : WA P f N R K H (fuel + 1) l env w := by
  refine WA.take i d v l' hs hf hr (fun w hw => ?_) hl k
  obtain ⟨o, ho, hd, hrun⟩ := hv w hw
  unfold opRun
  rw [ho]
  rcases hrun with hrun | ⟨rfl, _⟩
  · simp [hd, hrun]
  · cases hu

theorem WA.takePass {K : List Item} {fuel : Nat} {l : Array Bool} {env : Env} {w : World} (i : Nat) (d : Option Nat) (l' : Array Bool) (hs : Region.noSelect (rOps K) = true) (hf : Region.free .any (rOps K) l i = true) (hr : (Region.ready .any (rOps K) l).contains i = true)
    (hv : passAt N (rOps K) i env = some d) (hl : l.setIfInBounds i true = l') (k : WA P f N R K H fuel l' (put env d undef) w) : WA P f N R K H (fuel + 1) l env w := by
  subst hl
  intro hH a hfit
  obtain ⟨o, hi, rfl, hw, hfi⟩ := passAt_spec hv hfit
  exact wpAnyH_take hi hs hf hr (v := undef) (fun c a w h => by cases h.1) (.inr ⟨hw, rfl⟩) hH (k hH _ hfi)

theorem WA.done {K : List Item} {fuel : Nat} {l : Array Bool} {env : Env} {w : World} (hr : Region.ready .any (rOps K) l = []) (k : J P f N R (rRest K) env w) : WA P f N R K H fuel l env w :=
  fun _ a hf => wpAnyH_done hr ⟨rfl, k a hf⟩ fuel

theorem WA.weaken {K : List Item} {fuel : Nat} {l : Array Bool} {env env' : Env} {w : World} (h : (env'.map fun p => look env p.1) = env'.map fun p => some p.2) (k : WA P f N R K H fuel l env' w) : WA P f N R K H fuel l env w :=
  fun hH a hf => k hH a (hf.sub h)

theorem WA.head {K : List Item} {fuel : Nat} {l : Array Bool} {t : Nat} {v : Value} (v' : Value) {env : Env} {w : World} (hv : v = v') (k : WA P f N R K H fuel l ((t, v') :: env) w) : WA P f N R K H fuel l ((t, v) :: env) w := by
  subst hv; exact k

theorem WB.head {K : List Item} {fuel : Nat} {l : Array Bool} {t : Nat} {v : Value} (v' : Value) {env : Env} {w : World} (hv : v = v') (k : WB P f N R K H fuel l ((t, v') :: env) w) : WB P f N R K H fuel l ((t, v) :: env) w := by
  subst hv; exact k

/-- A REGION THAT DRAWS: every order -/
theorem J.drawAny (H : World → Prop) {w0 : World} {L : List Claim} {K : List Item} {env : Env} {w : World} (S : Sep w0 L w) (n : Nat) (l : Array Bool) (hm : P.follows .mixedOrders = true) (hd : isDraw K = true) (hn : (rOps K).size = n) (hl : Array.replicate n false = l)
    (k : ∀ w', Sep w0 L w' → WB P f N R K H n l env w') : J P f N R K env w := by
  subst hl hn
  intro a hf
  have hk := (k _ S.drew).out hf
  unfold isDraw at hd
  split at hd
  · rename_i id ops k'
    exact Ja.of_wp (wp_region_held (P := P) (id := id) (ops := ops) (Q := Qn P f R k') (a := a) (w := w) hm hk.2)
  · cases hd

/-- a plan: which operation comes next, and whether it may be taken first (true) or is the only one that may come (false); the check is one Bool -/
def planB (ops : Array Oper) : List (Nat × Bool) → Array Bool → Bool
  | [], l => (Region.ready .any ops l).isEmpty
  | (i, true) :: r, l => (Region.ready .any ops l).contains i && Region.free .any ops l i && planB ops r (l.setIfInBounds i true)
  | (i, false) :: r, l => decide (Region.ready .any ops l = [i]) && planB ops r (l.setIfInBounds i true)

def planOK (ops : Array Oper) (plan : List (Nat × Bool)) : Bool := Region.noSelect ops && decide (plan.length = ops.size) && planB ops plan (Array.replicate ops.size false)

/-- the region's rest by a plan -/
def PL (P : Program) (f : FuncId) (N : Nat) (R : Value → World → Prop) (K : List Item) (H : World → Prop) (plan : List (Nat × Bool)) (env : Env) (w : World) : Prop :=
  ∀ l, Region.noSelect (rOps K) = true → planB (rOps K) plan l = true → H w → ∀ a, Fits N env a → wpAnyH P .any (rOps K) (Qn P f R (rRest K)) H plan.length l a w

/-- the same, with 'H' to be shown first -/
def PB (P : Program) (f : FuncId) (N : Nat) (R : Value → World → Prop) (K : List Item) (H : World → Prop) (plan : List (Nat × Bool)) (env : Env) (w : World) : Prop :=
  H w ∧ PL P f N R K H plan env w

theorem PB.mk {K : List Item} {plan : List (Nat × Bool)} {env : Env} {w : World} (h : H w) (k : PL P f N R K H plan env w) : PB P f N R K H plan env w := ⟨h, k⟩

theorem PL.take {K : List Item} {plan : List (Nat × Bool)} {env : Env} {w : World} (i d : Nat) (v : Value)
    (hv : ∀ w, H w → opRun P N (rItem (rOps K) i) env w = some (some d, .ok (.value v) w)) (k : PL P f N R K H plan ((d, v) :: env) w) : PL P f N R K H ((i, true) :: plan) env w := by
  intro l hs hp hH a hfit
  simp only [planB, Bool.and_eq_true] at hp
  obtain ⟨o, ho, hd, _⟩ := opRun_spec (hv w hH)
  obtain ⟨hi, hw, he, hfi⟩ := opAt_rItem ho hfit
  refine wpAnyH_take hi hs hp.1.2 hp.1.1 (v := v) (fun c a w h => by cases h.1) (.inl ⟨hw, fun w' hw' => ?_⟩) hH (k _ hs hp.2 hH _ (by have := hfi v; rw [hd] at this; exact this) |> fun h => by rw [hd]; exact h)
  obtain ⟨o2, ho2, _, hr2⟩ := opRun_spec (hv w' hw')
  rw [ho] at ho2
  cases ho2
  rw [he]; exact hr2

theorem PL.takeOK {K : List Item} {plan : List (Nat × Bool)} {env : Env} {w : World} (i : Nat) {d : Nat} {v : Value}
    (hv : ∀ w, H w → OK P N (rItem (rOps K) i) env w (some d) v w) (hu : (match v with | .tuple _ => false | _ => true) = true) (k : PL P f N R K H plan ((d, v) :: env) w) : PL P f N R K H ((i, true) :: plan) env w := by
  refine PL.take i d v (fun w hw => ?_) k
  obtain ⟨o, ho, hd, hrun⟩ := hv w hw
  unfold opRun
  rw [ho]
  rcases hrun with hrun | ⟨rfl, _⟩
  · simp [hd, hrun]
  · cases hu

theorem PL.takePass {K : List Item} {plan : List (Nat × Bool)} {env : Env} {w : World} (i : Nat) (d : Option Nat)
    (hv : passAt N (rOps K) i env = some d) (k : PL P f N R K H plan (put env d undef) w) : PL P f N R K H ((i, true) :: plan) env w := by
  intro l hs hp hH a hfit
  simp only [planB, Bool.and_eq_true] at hp
  obtain ⟨o, hi, rfl, hw, hfi⟩ := passAt_spec hv hfit
  exact wpAnyH_take hi hs hp.1.2 hp.1.1 (v := undef) (fun c a w h => by cases h.1) (.inr ⟨hw, rfl⟩) hH (k _ hs hp.2 hH _ hfi)

theorem PL.only {K : List Item} {plan : List (Nat × Bool)} {env : Env} {w : World} (i : Nat) (k : ∀ a, Fits N env a → ∀ l, Region.noSelect (rOps K) = true → planB (rOps K) plan l = true →
    wpOp P (rOps K) (Qn P f R (rRest K)) i (fun a' w' => H w' ∧ wpAnyH P .any (rOps K) (Qn P f R (rRest K)) H plan.length l a' w') a w) : PL P f N R K H ((i, false) :: plan) env w := by
  intro l hs hp hH a hfit
  simp only [planB, Bool.and_eq_true, decide_eq_true_eq] at hp
  refine wpAnyH_all hp.1 (by simp) fun j hj => ?_
  simp only [List.mem_singleton] at hj
  subst hj
  exact k a hfit _ hs hp.2

theorem PL.ok {K : List Item} {plan : List (Nat × Bool)} {i : Nat} {env : Env} {w w' : World} {d : Option Nat} {v : Value} (h : OK P N (rItem (rOps K) i) env w d v w') (k : PB P f N R K H plan (put env d v) w') : PL P f N R K H ((i, false) :: plan) env w := by
  refine PL.only i fun a hf l hs hp => ?_
  obtain ⟨o, ho, rfl, hr⟩ := h
  obtain ⟨hi, hw, he, hfit⟩ := opAt_rItem ho hf
  unfold wpOp
  simp only [hi, hw, if_true]
  refine .inl ?_
  unfold Oper.wp
  rw [he]
  rcases hr with hr | ⟨rfl, hr⟩
  · rw [hr]; exact ⟨k.1, k.2 l hs hp k.1 _ (hfit v)⟩
  · rw [hr]; exact ⟨k.1, k.2 l hs hp k.1 _ (hfit undef)⟩

theorem PL.stBox {w0 w : World} {L : List Claim} (S : Sep w0 L w) (i : Nat) {b : Nat} {cs : List Value} {T : TypeId} {K : List Item} {plan : List (Nat × Bool)} {j : Nat} {env : Env} (t : TypeId) (off : Nat) (v : Value) (cs' : List Value) (L' : List Claim)
    (h : stAt N (rItem (rOps K) j) env = some (none, t, ⟨b, off, none⟩, v)) (hi : L[i]? = some (box b cs T)) (hs : (P.info? t).map (·.size) = some v.cells.size) (hv : stV off v.cells.toList cs = some cs')
    (hL : L.set i (box b cs' T) = L')
    (k : ∀ w', Sep w0 L' w' → PB P f N R K H plan env w') : PL P f N R K H ((j, false) :: plan) env w := by
  subst hL
  exact PL.ok (OK.store _ h (run_storeVar (S.nth i hi) hs hv)) (k _ (S.setBox i cs' hi))

theorem PL.new {w0 w : World} {L : List Claim} (S : Sep w0 L w) (d : Nat) (cs : List Value) (T : TypeId) {K : List Item} {plan : List (Nat × Bool)} {j : Nat} {env : Env}
    (h : opRun P N (rItem (rOps K) j) env w = some (some d, .ok (.value (.pointer (some ⟨w.heap.size, 0, none⟩))) (w.alloc (.cells cs.toArray T))))
    (k : ∀ b w', Sep w0 (box b cs T :: L) w' → PB P f N R K H plan ((d, .pointer (some ⟨b, 0, none⟩)) :: env) w') : PL P f N R K H ((j, false) :: plan) env w := by
  obtain ⟨o, ho, hd, hr⟩ := opRun_spec h
  exact PL.ok ⟨o, ho, hd, .inl hr⟩ (k _ _ (S.alloc cs T))

theorem PL.callF {K : List Item} {plan : List (Nat × Bool)} {j : Nat} {env : Env} {w : World} (d : Nat) (g : FuncId) (args : Array Value) (hb : HasBody P g) (h : callAt N (rItem (rOps K) j) env = some (some d, g, args)) {Q : Value → World → Prop}
    (hc : Ret P g args w Q) (k : ∀ v w', Q v w' → PB P f N R K H plan ((d, v) :: env) w') : PL P f N R K H ((j, false) :: plan) env w := by
  refine PL.only j fun a hf l hs hp => ?_
  obtain ⟨o, ho, hd, hr⟩ := callAt_spec hb h w
  obtain ⟨hi, hw, he, hfit⟩ := opAt_rItem ho hf
  unfold wpOp
  simp only [hi, hw, if_true]
  refine .inl ?_
  unfold Oper.wp
  rw [he, hr]
  refine Calls.mono hc ?_
  rintro _ w' ⟨v, rfl, hq⟩
  have hk := k v w' hq
  have := hk.2 l hs hp hk.1 _ (by have := hfit v; rw [hd] at this; exact this)
  rw [hd]
  exact ⟨hk.1, this⟩

theorem PL.done {K : List Item} {env : Env} {w : World} (k : J P f N R (rRest K) env w) : PL P f N R K H [] env w := by
  intro l hs hp hH a hf
  exact wpAnyH_done (by simpa [planB] using hp) ⟨rfl, k a hf⟩ 0

theorem PL.head {K : List Item} {plan : List (Nat × Bool)} {t : Nat} {v : Value} (v' : Value) {env : Env} {w : World} (hv : v = v') (k : PL P f N R K H plan ((t, v') :: env) w) : PL P f N R K H plan ((t, v) :: env) w := by
  subst hv; exact k

theorem PB.head {K : List Item} {plan : List (Nat × Bool)} {t : Nat} {v : Value} (v' : Value) {env : Env} {w : World} (hv : v = v') (k : PB P f N R K H plan ((t, v') :: env) w) : PB P f N R K H plan ((t, v) :: env) w := by
  subst hv; exact k

/-- A REGION THAT DRAWS: by a plan -/
theorem J.drawPlan (H : World → Prop) (plan : List (Nat × Bool)) {w0 : World} {L : List Claim} {K : List Item} {env : Env} {w : World} (S : Sep w0 L w) (hm : P.follows .mixedOrders = true) (hd : isDraw K = true) (hp : planOK (rOps K) plan = true)
    (k : ∀ w', Sep w0 L w' → PB P f N R K H plan env w') : J P f N R K env w := by
  intro a hf
  simp only [planOK, Bool.and_eq_true, decide_eq_true_eq] at hp
  obtain ⟨⟨hs, hlen⟩, hB⟩ := hp
  have hk := k _ S.drew
  have h2 := hk.2 _ hs hB hk.1 a hf
  rw [hlen] at h2
  unfold isDraw at hd
  split at hd
  · rename_i id ops k'
    exact Ja.of_wp (wp_region_held (P := P) (id := id) (ops := ops) (Q := Qn P f R k') (a := a) (w := w) hm h2)
  · cases hd
end

/-! A quick check of a plan -/
/-- sets of numbers as one number -/
def maskE : List Edge → Nat
  | [] => 0
  | e :: r => bif Region.binds .any e then Nat.lor (maskE r) (2 ^ e.on) else maskE r
def maskN : List Nat → Nat
  | [] => 0
  | t :: r => Nat.lor (maskN r) (2 ^ t)
/-- what the check asks of an operation: after which it comes; where it writes; where it looks -/
def sumOf (ops : Array Oper) (o : Oper) : Nat × Option Nat × Nat := (maskE o.after.toList, o.dst, maskN (o.looksAt ops))
def apartT (x y : Nat × Option Nat × Nat) : Bool :=
  (match x.2.1 with | some d => !(Nat.testBit y.2.2 d) && (match y.2.1 with | some e => !(Nat.beq d e) | none => true) | none => true) &&
  (match y.2.1 with | some d => !(Nat.testBit x.2.2 d) | none => true)
def freeT (x : Nat × Option Nat × Nat) (i D : Nat) : Nat → List (Nat × Option Nat × Nat) → Bool
  | _, [] => true
  | j, y :: r => (Nat.beq j i || Nat.testBit D j || Nat.testBit y.1 i || apartT x y) && freeT x i D (j + 1) r
def onlyT (i D : Nat) : Nat → List (Nat × Option Nat × Nat) → Bool
  | _, [] => true
  | j, y :: r => (Nat.beq j i || Nat.testBit D j || !(Nat.beq (Nat.land y.1 D) y.1)) && onlyT i D (j + 1) r
def planT (T : List (Nat × Option Nat × Nat)) : List (Nat × Bool) → Nat → Bool
  | [], D => onlyT T.length D 0 T
  | (i, k) :: r, D => (match T[i]? with
    | some x => !(Nat.testBit D i) && Nat.beq (Nat.land x.1 D) x.1 && (bif k then freeT x i D 0 T else onlyT i D 0 T)
    | none => false) && planT T r (Nat.lor D (2 ^ i))

theorem maskN_spec (l : List Nat) (d : Nat) : (maskN l).testBit d = l.contains d := by
  induction l with
  | nil => simp [maskN]
  | cons t r ih =>
    show (maskN r ||| 2 ^ t).testBit d = _
    rw [Nat.testBit_or, ih, Nat.testBit_two_pow, List.contains_cons, Bool.or_comm]
    congr 1
    rw [Bool.eq_iff_iff, decide_eq_true_eq, beq_iff_eq]; exact eq_comm
theorem maskE_spec (l : List Edge) (i : Nat) : (maskE l).testBit i = l.any fun e => Region.binds .any e && e.on == i := by
  induction l with
  | nil => simp [maskE]
  | cons e r ih =>
    unfold maskE
    rw [List.any_cons]
    cases hb : Region.binds .any e with
    | false => simp [ih]
    | true =>
      show (maskE r ||| 2 ^ e.on).testBit i = _
      rw [Nat.testBit_or, ih, Nat.testBit_two_pow, Bool.or_comm]
      congr 1
theorem apartT_spec {ops : Array Oper} {x y : Oper} (h : apartT (sumOf ops x) (sumOf ops y) = true) : x.apart ops y = true := by
  unfold apartT sumOf at h
  simp only [maskN_spec] at h
  unfold Oper.apart
  have nb : ∀ a b : Nat, Nat.beq a b = false → b ≠ a := fun a b h e => by subst e; rw [Nat.beq_refl] at h; cases h
  cases hx : x.dst <;> cases hy : y.dst <;> simp_all
theorem land_sub {m D : Nat} (h : Nat.beq (Nat.land m D) m = true) (k : Nat) (hk : m.testBit k = true) : D.testBit k = true := by
  have h2 : m &&& D = m := Nat.eq_of_beq_eq_true h
  have h3 : (m &&& D).testBit k = true := by rw [h2]; exact hk
  rw [Nat.testBit_and, Bool.and_eq_true] at h3
  exact h3.2
theorem land_not {m D : Nat} (h : Nat.beq (Nat.land m D) m = false) : ∃ k, m.testBit k = true ∧ D.testBit k = false := by
  apply Classical.byContradiction
  intro hc
  have h2 : m &&& D = m := by
    apply Nat.eq_of_testBit_eq
    intro k
    rw [Nat.testBit_and]
    cases hm : m.testBit k with
    | false => rfl
    | true =>
      cases hD : D.testBit k with
      | true => rfl
      | false => exact absurd ⟨k, hm, hD⟩ hc
  have h3 : Nat.beq (m &&& D) m = true := by rw [h2]; exact Nat.beq_refl m
  have h4 : Nat.beq (Nat.land m D) m = true := h3
  rw [h] at h4; cases h4

/-- 'D' says what 'l' says -/
def Rep (D : Nat) (l : Array Bool) : Prop := ∀ j, l.getD j false = D.testBit j

theorem Rep.at {D : Nat} {l : Array Bool} (h : Rep D l) {j : Nat} (hj : j < l.size) : l.getD j true = D.testBit j := by
  have := h j
  simp [hj] at this ⊢
  exact this

theorem Rep.set {D : Nat} {l : Array Bool} (h : Rep D l) {i : Nat} (hi : i < l.size) : Rep (Nat.lor D (2 ^ i)) (l.setIfInBounds i true) := by
  intro j
  show _ = (D ||| 2 ^ i).testBit j
  rw [Nat.testBit_or, Nat.testBit_two_pow]
  by_cases e : i = j
  · subst e; simp [hi]
  · rw [getD_set_ne false e, h j]; simp [e]

section
variable {ops : Array Oper} {l : Array Bool} {D : Nat}

theorem ready_iff (hr : Rep D l) (hl : l.size = ops.size) {j : Nat} {o : Oper} (ho : ops[j]? = some o) :
    j ∈ Region.ready .any ops l ↔ D.testBit j = false ∧ Nat.beq (Nat.land (maskE o.after.toList) D) (maskE o.after.toList) = true := by
  have hj : j < l.size := by rw [hl]; exact (Array.getElem?_eq_some_iff.1 ho).1
  rw [mem_ready, hr.at hj]
  constructor
  · rintro ⟨h1, o', ho', h2⟩
    rw [ho] at ho'; cases ho'
    refine ⟨h1, ?_⟩
    cases hb : Nat.beq (Nat.land (maskE o.after.toList) D) (maskE o.after.toList) with
    | true => rfl
    | false =>
      obtain ⟨k, hk1, hk2⟩ := land_not hb
      rw [maskE_spec, List.any_eq_true] at hk1
      obtain ⟨e, he, hbe⟩ := hk1
      simp only [Bool.and_eq_true, beq_iff_eq] at hbe
      have h3 := h2 e (by simpa using he) hbe.1
      rw [hbe.2, hr k, hk2] at h3
      cases h3
  · rintro ⟨h1, h2⟩
    refine ⟨h1, o, ho, fun e he hb => ?_⟩
    have h3 : (maskE o.after.toList).testBit e.on = true := by
      rw [maskE_spec, List.any_eq_true]
      exact ⟨e, by simpa using he, by simp [hb]⟩
    rw [hr e.on]
    exact land_sub h2 _ h3

theorem onlyT_spec {i : Nat} : ∀ (r : List Oper) (j : Nat), onlyT i D j (r.map (sumOf ops)) = true → ∀ k o, r[k]? = some o → j + k = i ∨ D.testBit (j + k) = true ∨ Nat.beq (Nat.land (maskE o.after.toList) D) (maskE o.after.toList) = false := by
  intro r
  induction r with
  | nil => intro j _ k o h; simp at h
  | cons x r ih =>
    intro j h k o hk
    simp only [List.map_cons, onlyT, Bool.and_eq_true, Bool.or_eq_true, sumOf] at h
    cases k with
    | zero =>
      simp at hk; subst hk
      rcases h.1 with (h1 | h1) | h1
      · exact .inl (Nat.eq_of_beq_eq_true h1)
      · exact .inr (.inl h1)
      · exact .inr (.inr (by simpa using h1))
    | succ k =>
      have := ih (j + 1) h.2 k o (by simpa using hk)
      rwa [show j + 1 + k = j + (k + 1) by omega] at this

theorem freeT_spec {i : Nat} {x : Oper} : ∀ (r : List Oper) (j : Nat), freeT (sumOf ops x) i D j (r.map (sumOf ops)) = true → ∀ k o, r[k]? = some o → j + k = i ∨ D.testBit (j + k) = true ∨ (maskE o.after.toList).testBit i = true ∨ x.apart ops o = true := by
  intro r
  induction r with
  | nil => intro j _ k o h; simp at h
  | cons y r ih =>
    intro j h k o hk
    simp only [List.map_cons, freeT, Bool.and_eq_true, Bool.or_eq_true] at h
    cases k with
    | zero =>
      simp at hk; subst hk
      rcases h.1 with ((h1 | h1) | h1) | h1
      · exact .inl (Nat.eq_of_beq_eq_true h1)
      · exact .inr (.inl h1)
      · exact .inr (.inr (.inl h1))
      · exact .inr (.inr (.inr (apartT_spec h1)))
    | succ k =>
      have := ih (j + 1) h.2 k o (by simpa using hk)
      rwa [show j + 1 + k = j + (k + 1) by omega] at this

theorem filter_one {n i : Nat} {p : Nat → Bool} (hi : i < n) (h1 : p i = true) (h2 : ∀ j, j < n → j ≠ i → p j = false) : (List.range n).filter p = [i] := by
  induction n with
  | zero => omega
  | succ n ih =>
    rw [List.range_succ, List.filter_append]
    by_cases e : i = n
    · subst e
      have h3 : (List.range i).filter p = [] := by
        rw [List.filter_eq_nil_iff]
        intro j hj
        simp only [List.mem_range] at hj
        rw [h2 j (by omega) (by omega)]; simp
      rw [h3]; simp [h1]
    · rw [ih (by omega) fun j hj hne => h2 j (by omega) hne]
      simp [h2 n (by omega) (fun h => e h.symm)]

theorem ready_mem_range {j : Nat} (h : j ∈ Region.ready .any ops l) : j < ops.size := by
  unfold Region.ready at h
  rw [List.mem_filter, List.mem_range] at h
  exact h.1

theorem planT_spec : ∀ (plan : List (Nat × Bool)) (l : Array Bool) (D : Nat), Rep D l → l.size = ops.size → planT (ops.toList.map (sumOf ops)) plan D = true → planB ops plan l = true := by
  intro plan
  induction plan with
  | nil =>
    intro l D hr hl h
    simp only [planT] at h
    show (Region.ready .any ops l).isEmpty = true
    rw [List.isEmpty_iff]
    apply List.eq_nil_iff_forall_not_mem.2
    intro j hj
    have hlt := ready_mem_range hj
    have ho : ops[j]? = some ops[j] := by simp [hlt]
    obtain ⟨h1, h2⟩ := (ready_iff hr hl ho).1 hj
    have := onlyT_spec ops.toList 0 h j ops[j] (by simp [hlt])
    simp only [Nat.zero_add, List.length_map, Array.length_toList] at this
    rcases this with h3 | h3 | h3
    · omega
    · rw [h1] at h3; cases h3
    · rw [h2] at h3; cases h3
  | cons p plan ih =>
    obtain ⟨i, k⟩ := p
    intro l D hr hl h
    simp only [planT, Bool.and_eq_true] at h
    obtain ⟨h1, h2⟩ := h
    cases hx : (ops.toList.map (sumOf ops))[i]? with
    | none => rw [hx] at h1; cases h1
    | some x =>
      rw [hx] at h1
      rw [List.getElem?_map, Option.map_eq_some_iff] at hx
      obtain ⟨o, ho', rfl⟩ := hx
      have ho : ops[i]? = some o := by simpa using ho'
      have hlt : i < ops.size := (Array.getElem?_eq_some_iff.1 ho).1
      simp only [Bool.and_eq_true, Bool.not_eq_true'] at h1
      obtain ⟨⟨h3, h4⟩, h5⟩ := h1
      have hready : i ∈ Region.ready .any ops l := (ready_iff hr hl ho).2 ⟨h3, h4⟩
      have hrest := ih (l.setIfInBounds i true) (Nat.lor D (2 ^ i)) (hr.set (by omega)) (by simpa using hl) h2
      cases k with
      | true =>
        show (_ && _ && _) = true
        rw [Bool.and_eq_true, Bool.and_eq_true]
        refine ⟨⟨by simpa using hready, ?_⟩, hrest⟩
        unfold Region.free
        rw [ho]
        simp only [List.all_eq_true, List.mem_range, Bool.or_eq_true, beq_iff_eq]
        intro j hj
        have hoj : ops[j]? = some ops[j] := by simp [hj]
        rcases freeT_spec ops.toList 0 h5 j ops[j] (by simp [hj]) with h6 | h6 | h6 | h6 <;> (try simp only [Nat.zero_add] at h6)
        · exact .inl (.inl h6)
        · exact .inl (.inr (by rw [hr.at (by omega)]; exact h6))
        · right; rw [hoj]
          rw [maskE_spec, List.any_eq_true] at h6
          obtain ⟨e, he, hb⟩ := h6
          simp only [Bool.or_eq_true]
          exact .inl (Array.any_eq_true'.2 ⟨e, by simpa using he, hb⟩)
        · right; rw [hoj]; simp only [Bool.or_eq_true]; exact .inr h6
      | false =>
        show (_ && _) = true
        rw [Bool.and_eq_true]
        refine ⟨?_, hrest⟩
        rw [decide_eq_true_eq]
        unfold Region.ready at hready ⊢
        rw [List.mem_filter] at hready
        refine filter_one hlt hready.2 fun j hj hne => ?_
        cases hp : (!l.getD j true && ((ops[j]?).map (·.after.all fun e => !Region.binds .any e || l.getD e.on false)).getD false) with
        | false => rfl
        | true =>
          exfalso
          have hoj : ops[j]? = some ops[j] := by simp [hj]
          have hjr : j ∈ Region.ready .any ops l := by
            unfold Region.ready
            rw [List.mem_filter, List.mem_range]
            exact ⟨hj, hp⟩
          obtain ⟨h6, h7⟩ := (ready_iff hr hl hoj).1 hjr
          rcases onlyT_spec ops.toList 0 h5 j ops[j] (by simp [hj]) with h8 | h8 | h8 <;> (try simp only [Nat.zero_add] at h8)
          · exact hne h8
          · rw [h6] at h8; cases h8
          · rw [h7] at h8; cases h8

theorem planOK_of {T : List (Nat × Option Nat × Nat)} {plan : List (Nat × Bool)} (hT : ops.toList.map (sumOf ops) = T) (h : (Region.noSelect ops && Nat.beq plan.length ops.size && planT T plan 0) = true) : planOK ops plan = true := by
  subst hT
  simp only [Bool.and_eq_true] at h
  unfold planOK
  rw [h.1.1, decide_eq_true (Nat.eq_of_beq_eq_true h.1.2), planT_spec plan _ 0 (fun j => by rw [getD_replicate_false]; simp) (by simp) h.2]
  rfl
end
end Go.Eng

namespace Go.Eng
set_option linter.unusedSimpArgs false
set_option linter.unusedVariables false
open Go.RowKit

/-- a part of a value, by its place -/
def vAt : Value → List Nat → Value
  | v, [] => v
  | .tuple vs, i :: p => vAt (vs.getD i undef) p
  | .agg cs, i :: p => vAt (cs.getD i undef) p
  | _, _ => undef
def gB (v : Value) (p : List Nat) : Bool := match vAt v p with | .bool b => b | _ => false
def gS (v : Value) (p : List Nat) : ByteArray := match vAt v p with | .string s => s | _ => ByteArray.empty

section
variable {P : Program} {f : FuncId} {N : Nat} {R : Value → World → Prop}

theorem Sep.nilRow {w0 w : World} {L : List Claim} (h : Sep w0 L w) (e : TypeId) (size : Nat) : Sep w0 (row (.slice none 0 0) e size 0 [] :: L) w := by
  refine ⟨h.below, fun c hc => ?_, fun c hc b hb => ?_, ?_⟩
  · rcases List.mem_cons.1 hc with rfl | hc
    · exact World.ownsRow_nil w 0 e size
    · exact h.all c hc
  · rcases List.mem_cons.1 hc with rfl | hc
    · cases hb
    · exact h.fresh c hc b hb
  · exact List.pairwise_cons.2 ⟨fun c _ b hb => (by cases hb), h.apart⟩

theorem Sep.erase {w0 w : World} {L : List Claim} (h : Sep w0 L w) (i : Nat) : Sep w0 (L.eraseIdx i) w := h.sub (List.eraseIdx_sublist L i)

theorem box_cells {w : World} {b : Nat} {cs : List Value} {T : TypeId} (h : (box b cs T).holds w) : Cells w (some ⟨b, 0, none⟩) cs := fun j v hj => by
  have h' : w.heap[b]? = some (.cells cs.toArray T (0, 0)) := h
  refine ⟨_, rfl, ?_⟩
  have hadd : (⟨b, 0, none⟩ : Addr).add j = ⟨b, j, none⟩ := by unfold Addr.add; split <;> simp_all
  rw [hadd]
  simp [World.cell?, h', hj]

theorem box_ints {w : World} {b : Nat} {cs : List Value} {T : TypeId} (l : List Int) (h : (box b cs T).holds w) (hc : cs = l.map (Value.int .i64)) (n : Nat) (hn : l.length = n) : Ints w (some ⟨b, 0, none⟩) n l :=
  ⟨hn, by rw [← hc]; exact box_cells h⟩

/-- what an append to a slice of the call's own gives; where the new slice lies -/
theorem run_append_row (w : World) (t ty e : TypeId) (i : TypeInfo) (z : Value) (size bytes : Nat) (ht : P.underlying t = some (.slice e)) (hi : P.info? e = some i) (hz : i.zero = some z)
    (hsize : i.size = size) (hby : i.bytes = bytes) (hzs : z.cells.size = size) (hsz : 0 < size)
    (v : Value) (n : Nat) (xs : List Value) (hown : w.ownsRow 0 e size v n xs)
    (a : Addr) (m c : Nat) (news : List Value) (hl : news.length = m * size) (hnews : ∀ j u, news[j]? = some u → w.cell? (a.add j) = some u) (h1 : ∀ u ∈ news, u.oneCell' = true)
    (h63 : n + m ≤ maxLen) (hbytes : (n + m) * bytes ≤ 140737488355328) :
    ∃ v' w', (Builtin.append_ #[t, t] ty #[v, .slice (some a) m c]).run P w = .ok v' w' ∧ w'.ownsRow 0 e size v' (n + m) (xs ++ news) ∧ w.grownBy w' v.ownBlock ∧
      (∀ b, v'.ownBlock = some b → v.ownBlock = some b ∨ w.heap.size ≤ b) := by
  obtain ⟨v', w', hr, ho, hg, _⟩ := run_append_own (P := P) w 0 t ty e i z size bytes ht hi hz hsize hby hzs hsz v n xs hown a m c news hl hnews h1 h63 hbytes (Nat.zero_le _)
  refine ⟨v', w', hr, ho, hg, fun b hb => ?_⟩
  rcases hown.2 with ⟨rfl, rfl⟩ | ⟨g, cap, cur, rfl, _, hgc, hnc, hcm, hcs, htake⟩
  · obtain ⟨v2, w2, hr2, ho2, _, _⟩ := run_append_own (P := P) w w.heap.size t ty e i z size bytes ht hi hz hsize hby hzs hsz (.slice none 0 0) 0 xs ⟨hown.1, .inl ⟨rfl, rfl⟩⟩ a m c news hl hnews h1 h63 hbytes (Nat.le_refl _)
    rw [hr] at hr2
    cases hr2
    exact .inr (ho2.lt b hb).1
  · by_cases hroom : n + m ≤ cap
    · have hr2 := run_append_room (P := P) w t ty e i ht hi g n cap cur hgc a m c news (by rw [hsize]; exact hl) hnews h1 hroom (by rw [hsize, hl, hcs, ← Nat.add_mul]; exact Nat.mul_le_mul_right _ hroom)
      rw [hr] at hr2
      cases hr2
      exact .inl hb
    · have holds : ∀ j u, xs[j]? = some u → w.cell? ((⟨g, 0, none⟩ : Addr).add j) = some u := hown.cells (g := g) rfl
      have hsmall : n + m ≤ 9223372036854775807 := by simp only [maxLen] at h63; omega
      have hr2 := run_append_grow (P := P) w t ty e i z ht hi hz ⟨g, 0, none⟩ n cap xs (by rw [hsize]; exact hown.1) holds a m c news (by rw [hsize]; exact hl) hnews (by omega) (by omega) (growslice_fits (by omega) (by rw [hby]; exact hbytes))
      rw [hr] at hr2
      cases hr2
      simp only [Value.ownBlock, Option.some.injEq] at hb
      subst hb
      exact .inr (Nat.le_refl _)

/-- an append at hand: where it writes, the slice type, the two slices -/
def appAt (N : Nat) (K : List Item) (env : Env) : Option (Option Nat × TypeId × Value × Value) :=
  match opAt N K env with
  | some o => match o.op with
    | .call { callee := .builtin .append, args, argTypes } =>
      match args.toList, argTypes.toList with
      | [x, y], [t, t'] => if t = t' then some (o.dst, t, ev env x, ev env y) else none
      | _, _ => none
    | _ => none
  | none => none

/-- a list of elements in a slice of the call's own: each element as cells -/
def rowOf {α : Type} (enc : α → List Value) (a : Option Addr) (cap : Nat) (e : TypeId) (size : Nat) (l : List α) : Claim := row (.slice a l.length cap) e size l.length (l.flatMap enc)

theorem OK.append {α : Type} (enc : α → List Value) {w0 w : World} {L : List Claim} (S : Sep w0 L w) (j : Nat) {a : Option Addr} {cap : Nat} {e : TypeId} {size : Nat} (l : List α) (x : α) {K : List Item} {env : Env} (d : Nat) (t : TypeId) (z : Value) (bytes : Nat) (ad : Addr) (c : Nat)
    (hj : L[j]? = some (rowOf enc a cap e size l)) (h : appAt N K env = some (some d, t, .slice a l.length cap, .slice (some ad) 1 c)) (ht : P.underlying t = some (.slice e))
    (hinfo : (P.info? e).map (fun i => (i.zero, i.size, i.bytes)) = some (some z, size, bytes)) (hzs : z.cells.size = size) (hsz : 0 < size)
    (hnews : Cells w (some ad) (enc x)) (hl : (enc x).length = size) (h1 : (enc x).all (·.oneCell') = true) (hb : (l.length + 1) * bytes ≤ 140737488355328 ∧ l.length < 140737488355328)
    : ∃ a' cap' w', OK P N K env w (some d) (.slice a' (l ++ [x]).length cap') w' ∧ Sep w0 (L.set j (rowOf enc a' cap' e size (l ++ [x]))) w' := by
  obtain ⟨i, hi, hzz⟩ := Option.map_eq_some_iff.1 hinfo
  simp only [Prod.mk.injEq] at hzz
  obtain ⟨hz, hsize, hby⟩ := hzz
  have hown : w.ownsRow 0 e size (.slice a l.length cap) l.length (l.flatMap enc) := S.nth j hj
  have hn : ∀ q u, (enc x)[q]? = some u → w.cell? (ad.add q) = some u := fun q u hq => by
    obtain ⟨p, hp, hc⟩ := hnews q u hq
    cases hp; exact hc
  unfold appAt at h
  split at h
  · rename_i o ho
    split at h
    · rename_i args argTypes hop
      split at h
      · rename_i xo yo t1 t2 hargs hts
        split at h
        · rename_i htt
          subst htt
          simp only [Option.some.injEq, Prod.mk.injEq] at h
          obtain ⟨hd, rfl, hx, hy⟩ := h
          obtain ⟨v', w', hr, ho', hg, hblk⟩ := run_append_row (P := P) w t1 o.type e i z size bytes ht hi hz hsize hby hzs hsz _ _ _ hown ad 1 c (enc x) (by omega) hn (by simpa using h1) (by simp only [maxLen]; omega) hb.1
          have hlen : (l ++ [x]).length = l.length + 1 := by simp
          have hfm : l.flatMap enc ++ enc x = (l ++ [x]).flatMap enc := by simp
          rw [hfm, ← hlen] at ho'
          obtain ⟨a', cap', rfl, _, _, _, _⟩ := row_cells (v := v') (e := e) (size := size) (n := (l ++ [x]).length) (xs := (l ++ [x]).flatMap enc) (w := w') ho'
          have hS : Sep w0 (L.set j (rowOf enc a' cap' e size (l ++ [x]))) w' := by
            refine S.set j hj (fun b hb' => ?_) hg.os hg.tape hg.output hg.size (fun b hb1 hb2 => hg.block b hb1 fun e => hb2 e.symm) ho'
            rcases hblk b hb' with h2 | h2
            · exact .inl h2
            · exact .inr ⟨h2, (ho'.lt b hb').2⟩
          refine ⟨a', cap', w', ⟨_, ho, hd, .inl ?_⟩, hS⟩
          have ea : args = #[xo, yo] := by rw [← hargs]
          have et : argTypes = #[t1, t1] := by rw [← hts]
          subst ea et
          unfold execOp
          simp [hop, resolve, invoke, builtin, hx, hy, hr, Result.andThen]
        · cases h
      · cases h
    · cases h
  · cases h

abbrev encI (x : Int) : List Value := [.int .i64 x]

end
end Go.Eng

namespace Go.Eng
set_option linter.unusedSimpArgs false
set_option linter.unusedVariables false
open Go.RowKit Go.ChangeShapes Go.WideShapes Go.ChangeAt

section
variable {H : Type} {enc : TypeId × Value → H} {P : Program} {w : World} {t : TypeId} {cs : List Value}

/-- these cells can be read at this type -/
def Tr {H : Type} (enc : TypeId × Value → H) (P : Program) (w : World) (t : TypeId) (cs : List Value) : Prop :=
  ∃ fuel x, DataW.trod enc P w 0 (fun _ => true) true fuel t cs = some x

theorem Tr.of {v : Value} {d : DataW H} {ps : List MemPlace} (h : DataW.Trod enc P w 0 (fun _ => true) true t v d ps) : Tr enc P w t v.cells.toList := by
  obtain ⟨fuel, hf⟩ := h
  exact ⟨fuel, _, hf⟩

theorem Tr.int {k : IntKind} (hu : P.underlying t = some (.int k)) (h : Tr enc P w t cs) : ∃ n, cs = [.int k n] ∧ k.min ≤ n ∧ n ≤ k.max := by
  obtain ⟨fuel, x, hf⟩ := h
  cases fuel with
  | zero => cases hf
  | succ fuel =>
    unfold DataW.trod at hf
    rw [hu] at hf
    split at hf <;> simp_all
    rename_i k' n he
    obtain ⟨⟨rfl, hw⟩, _⟩ := hf
    simpa [Lit.wf] using hw

theorem Tr.bool (hu : P.underlying t = some .bool) (h : Tr enc P w t cs) : ∃ b, cs = [.bool b] := by
  obtain ⟨fuel, x, hf⟩ := h
  cases fuel with
  | zero => cases hf
  | succ fuel =>
    unfold DataW.trod at hf
    rw [hu] at hf
    split at hf <;> simp_all

theorem Tr.string (hu : P.underlying t = some .string) (h : Tr enc P w t cs) : ∃ s, cs = [.string s] ∧ s.size ≤ maxLen := by
  obtain ⟨fuel, x, hf⟩ := h
  cases fuel with
  | zero => cases hf
  | succ fuel =>
    unfold DataW.trod at hf
    rw [hu] at hf
    split at hf <;> simp_all

theorem mapM_each {α β : Type} {f : α → Option β} : ∀ {l : List α} {ys : List β}, l.mapM f = some ys → ∀ x ∈ l, ∃ y, f x = some y := by
  intro l
  induction l with
  | nil => intro ys h x hx; cases hx
  | cons a l ih =>
    intro ys h x hx
    simp only [List.mapM_cons] at h
    cases ha : f a with
    | none => rw [ha] at h; cases h
    | some b =>
      rw [ha] at h
      cases hl : l.mapM f with
      | none => rw [hl] at h; cases h
      | some bs =>
        rcases List.mem_cons.1 hx with rfl | hx
        · exact ⟨b, ha⟩
        · exact ih hl x hx

theorem Tr.struct {fs : Array Field} (hu : P.underlying t = some (.struct fs)) (h : Tr enc P w t cs) : cs.length = P.cellsOf t ∧ ∀ (i : Nat) (f : Field), fs[i]? = some f → Tr enc P w f.type ((cs.drop f.offset).take (P.cellsOf f.type)) := by
  obtain ⟨fuel, x, hf⟩ := h
  cases fuel with
  | zero => cases hf
  | succ fuel =>
    unfold DataW.trod at hf
    rw [hu] at hf
    simp only at hf
    split at hf
    · rename_i hl
      refine ⟨hl, fun i f hi => ?_⟩
      obtain ⟨ys, hy, _⟩ := Option.map_eq_some_iff.1 hf
      obtain ⟨y, hy'⟩ := mapM_each hy f (by simpa using Array.mem_of_getElem? hi)
      exact ⟨fuel, y, hy'⟩
    · cases hf

theorem Tr.array {n : Nat} {e : TypeId} (hu : P.underlying t = some (.array n e)) (h : Tr enc P w t cs) : cs.length = P.cellsOf t ∧ ∀ i, i < n → Tr enc P w e ((cs.drop (i * P.cellsOf e)).take (P.cellsOf e)) := by
  obtain ⟨fuel, x, hf⟩ := h
  cases fuel with
  | zero => cases hf
  | succ fuel =>
    unfold DataW.trod at hf
    rw [hu] at hf
    simp only at hf
    split at hf
    · rename_i hl
      refine ⟨hl, fun i hi => ?_⟩
      obtain ⟨ys, hy, _⟩ := Option.map_eq_some_iff.1 hf
      obtain ⟨y, hy'⟩ := mapM_each hy i (by simpa using hi)
      exact ⟨fuel, y, hy'⟩
    · cases hf

theorem mapM_nth {α β : Type} {f : α → Option β} : ∀ {l : List α} {ys : List β}, l.mapM f = some ys → ys.length = l.length ∧ ∀ (j : Nat) (a : α) (y : β), l[j]? = some a → ys[j]? = some y → f a = some y := by
  intro l
  induction l with
  | nil => intro ys h; simp at h; subst h; simp
  | cons b l ih =>
    intro ys h
    simp only [List.mapM_cons] at h
    cases hb : f b with
    | none => rw [hb] at h; cases h
    | some u =>
      rw [hb] at h
      cases hl : l.mapM f with
      | none => rw [hl] at h; cases h
      | some us =>
        rw [hl] at h
        simp at h
        subst h
        obtain ⟨h1, h2⟩ := ih hl
        refine ⟨by simp [h1], fun j a y hj hy => ?_⟩
        cases j with
        | zero => simp at hj hy; subst hj hy; exact hb
        | succ j => exact h2 j a y (by simpa using hj) (by simpa using hy)

theorem cells?_spec {base : Nat} {a : Addr} {n : Nat} {cs : List Value} (h : w.cells? base a n = some cs) : cs.length = n ∧ ∀ j v, cs[j]? = some v → w.cell? (a.add j) = some v := by
  unfold World.cells? at h
  split at h
  · obtain ⟨h1, h2⟩ := mapM_nth h
    have hn : cs.length = n := by simpa using h1
    refine ⟨hn, fun j v hj => h2 j j v ?_ hj⟩
    have hj' := (List.getElem?_eq_some_iff.1 hj).1
    simp [show j < n by omega]
  · cases h

theorem Tr.slice {e : TypeId} (hu : P.underlying t = some (.slice e)) (h : Tr enc P w t cs) :
    ∃ a len cap, cs = [.slice a len cap] ∧ len ≤ maxLen ∧ ∃ xs : List (List Value), xs.length = len ∧ (∀ x ∈ xs, x.length = P.cellsOf e ∧ Tr enc P w e x) ∧ Cells w a xs.flatten := by
  obtain ⟨fuel, x, hf⟩ := h
  cases fuel with
  | zero => cases hf
  | succ fuel =>
    unfold DataW.trod at hf
    rw [hu] at hf
    split at hf <;> try (simp_all; done)
    · rename_i e' he
      exact ⟨none, 0, 0, rfl, by simp [maxLen], [], rfl, by simp, fun j v hj => by simp at hj⟩
    · rename_i e' a len cap he
      simp only [Option.some.injEq, TypeDesc.slice.injEq] at he
      subst he
      simp only at hf
      split at hf
      · rename_i hb
        cases hm : ((List.range len).mapM fun i => (w.cells? 0 (a.add (i * P.cellsOf e)) (P.cellsOf e)).bind (DataW.trod enc P w 0 (fun _ => true) true fuel e)) with
        | none => rw [hm] at hf; cases hf
        | some ys =>
          have each : ∀ i, i < len → ∃ c, w.cells? 0 (a.add (i * P.cellsOf e)) (P.cellsOf e) = some c ∧ Tr enc P w e c := fun i hi => by
            obtain ⟨y, hy⟩ := mapM_each hm i (by simpa using hi)
            obtain ⟨c, hc, ht⟩ := Option.bind_eq_some_iff.1 hy
            exact ⟨c, hc, fuel, y, ht⟩
          have build : ∀ n, n ≤ len → ∃ xs : List (List Value), xs.length = n ∧ ∀ j c, xs[j]? = some c → w.cells? 0 (a.add (j * P.cellsOf e)) (P.cellsOf e) = some c ∧ Tr enc P w e c := by
            intro n
            induction n with
            | zero => intro _; exact ⟨[], rfl, by simp⟩
            | succ n ih =>
              intro hn
              obtain ⟨xs, h1, h2⟩ := ih (by omega)
              obtain ⟨c, hc, ht⟩ := each n (by omega)
              refine ⟨xs ++ [c], by simp [h1], fun j c' hj => ?_⟩
              rw [List.getElem?_append] at hj
              split at hj
              · exact h2 j c' hj
              · rename_i hlt
                have hj0 : j - xs.length = 0 := by
                  have := (List.getElem?_eq_some_iff.1 hj).1
                  simp at this; omega
                rw [hj0] at hj
                simp at hj
                subst hj
                rw [show j = n by omega]
                exact ⟨hc, ht⟩
          obtain ⟨xs, h1, h2⟩ := build len (Nat.le_refl _)
          have hlen : ∀ x ∈ xs, x.length = P.cellsOf e ∧ Tr enc P w e x := fun x hx => by
            obtain ⟨j, hj⟩ := List.mem_iff_getElem?.1 hx
            obtain ⟨h3, h4⟩ := h2 j x hj
            exact ⟨(cells?_spec h3).1, h4⟩
          refine ⟨some a, len, cap, rfl, Nat.le_trans hb.2.1 hb.2.2, xs, h1, hlen, ?_⟩
          have flat : ∀ (zs : List (List Value)) (off : Nat), (∀ z ∈ zs, z.length = P.cellsOf e) → (∀ j c, zs[j]? = some c → w.cells? 0 (a.add ((off + j) * P.cellsOf e)) (P.cellsOf e) = some c) →
              ∀ j v, zs.flatten[j]? = some v → w.cell? (a.add (off * P.cellsOf e + j)) = some v := by
            intro zs
            induction zs with
            | nil => intro off _ _ j v hj; simp at hj
            | cons z zs ih =>
              intro off hz hc j v hj
              simp only [List.flatten_cons] at hj
              rw [List.getElem?_append] at hj
              have hzl := hz z (by simp)
              split at hj
              · have := (cells?_spec (hc 0 z (by simp))).2 j v hj
                rw [addr_add_add] at this
                simpa using this
              · rename_i hlt
                have := ih (off + 1) (fun z hz' => hz z (by simp [hz'])) (fun j c hj => by have := hc (j + 1) c (by simpa using hj); rwa [show off + 1 + j = off + (j + 1) by omega]) (j - z.length) v hj
                rw [show off * P.cellsOf e + j = (off + 1) * P.cellsOf e + (j - z.length) by rw [Nat.add_mul]; omega]
                exact this
          intro j v hj
          refine ⟨a, rfl, ?_⟩
          have := flat xs 0 (fun z hz => (hlen z hz).1) (fun j c hj => by have := (h2 j c hj).1; simpa using this) j v hj
          simpa using this
      · cases hf

theorem Tr.cap {e : TypeId} {a : Option Addr} {len cap : Nat} (hu : P.underlying t = some (.slice e)) (h : Tr enc P w t [.slice a len cap]) : len ≤ cap ∧ cap ≤ 9223372036854775807 := by
  obtain ⟨fuel, x, hf⟩ := h
  cases fuel with
  | zero => cases hf
  | succ fuel =>
    unfold DataW.trod at hf
    rw [hu] at hf
    split at hf <;> try (simp_all; done)
    rename_i e' a len cap he hc
    simp only [List.cons.injEq, Value.slice.injEq, and_true] at hc
    obtain ⟨rfl, rfl, rfl⟩ := hc
    simp only at hf
    split at hf
    · rename_i hb
      exact ⟨hb.2.1, by have := hb.2.2; simpa [maxLen] using this⟩
    · cases hf

theorem list_choose {α β : Type} {g : α → β} {Q : α → Prop} : ∀ {xs : List β}, (∀ x ∈ xs, ∃ y, x = g y ∧ Q y) → ∃ l : List α, xs = l.map g ∧ ∀ y ∈ l, Q y := by
  intro xs
  induction xs with
  | nil => intro _; exact ⟨[], rfl, by simp⟩
  | cons x xs ih =>
    intro h
    obtain ⟨y, hy, hq⟩ := h x (by simp)
    obtain ⟨l, hl, hql⟩ := ih fun z hz => h z (by simp [hz])
    refine ⟨y :: l, by simp [hy, hl], fun z hz => ?_⟩
    rcases List.mem_cons.1 hz with rfl | hz
    · exact hq
    · exact hql z hz

/-- a slice whose elements are told by 'g', each with the property Q -/
theorem Tr.list {α : Type} {e : TypeId} (g : α → List Value) (Q : α → Prop) (hu : P.underlying t = some (.slice e)) (h : Tr enc P w t cs) (he : ∀ x, Tr enc P w e x → ∃ y, x = g y ∧ Q y) :
    ∃ a len cap, cs = [.slice a len cap] ∧ len ≤ 9223372036854775807 ∧ ∃ l : List α, l.length = len ∧ (∀ y ∈ l, Q y) ∧ Cells w a (l.flatMap g) := by
  obtain ⟨a, len, cap, h1, h2, xs, h3, h4, h5⟩ := Tr.slice hu h
  obtain ⟨l, hl, hq⟩ := list_choose fun x hx => he x (h4 x hx).2
  subst hl
  exact ⟨a, len, cap, h1, by simpa [maxLen] using h2, l, by simpa using h3, hq, by simpa [List.flatMap_def] using h5⟩

/-- the same, each element being one cell -/
theorem Tr.ones {α : Type} {e : TypeId} (g : α → Value) (Q : α → Prop) (hu : P.underlying t = some (.slice e)) (h : Tr enc P w t cs) (he : ∀ x, Tr enc P w e x → ∃ y, x = [g y] ∧ Q y) :
    ∃ a len cap, cs = [.slice a len cap] ∧ len ≤ 9223372036854775807 ∧ ∃ l : List α, (∀ y ∈ l, Q y) ∧ Ones g w a len l := by
  obtain ⟨a, len, cap, h1, h2, l, h3, h4, h5⟩ := Tr.list (fun y => [g y]) Q hu h he
  refine ⟨a, len, cap, h1, h2, l, h4, h3, ?_⟩
  have : l.flatMap (fun y => [g y]) = l.map g := by
    clear h3 h4 h5
    induction l with
    | nil => rfl
    | cons x l ih => simp [List.flatMap_cons, ih]
  rwa [this] at h5

theorem val_slice {e : TypeId} {v : Value} {r : Reach} {base : Nat} {w' : World} (hu : P.underlying t = some (.slice e)) (ho : Value.okWide P w' r base t v) : v.cells.toList = [v] := by
  obtain ⟨a, len, cap, rfl⟩ := okWide_slice hu ho
  rfl

end
end Go.Eng

