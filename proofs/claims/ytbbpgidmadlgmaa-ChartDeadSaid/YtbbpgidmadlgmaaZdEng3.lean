/- The proof engine, third part: regions that draw their order. Conditions: none; it is generic in the program. -/
import Derived.Test.YtbbpgidmadlgmaaZdEng2
import Derived.StillTail
import Derived.Deep.Quiet
import Derived.ChangeKeysEq
namespace Go.Eng
set_option linter.unusedSimpArgs false
set_option linter.unusedVariables false
open Go.RowKit

/-- one operation of a region, as if it stood alone -/
def rItem (ops : Array Oper) (i : Nat) : List Item := [.inRegion ops [i]]
def rOps : List Item → Array Oper
  | .code (.region _ ops true) :: _ => ops
  | _ => #[]
def rRest : List Item → List Item
  | .code (.region _ _ true) :: k => k
  | k => k
def isDraw : List Item → Bool
  | .code (.region _ _ true) :: _ => true
  | _ => false

section
variable {P : Program} {f : FuncId} {N : Nat} {R : Value → World → Prop}

theorem Ja.of_wp {c : Code} {k : List Item} {a : Act} {w : World} (h : c.wp P (fun e a' w' => e = .normal ∧ Ja P f R k a' w') a w) : Ja P f R (.code c :: k) a w := by
  intro cs
  obtain ⟨e, a', w', ⟨rfl, hJ⟩, harr⟩ := h (base f) k cs
  obtain ⟨v, w2, fr, hR, hst, hfn, hl⟩ := hJ cs
  exact ⟨v, w2, fr, hR, Steps.trans harr hst, hfn, hl⟩

/-- the exit that a region's walk asks -/
def Qn (P : Program) (f : FuncId) (R : Value → World → Prop) (k : List Item) : Exit → Act → World → Prop := fun e a w => e = .normal ∧ Ja P f R k a w

/-- THE TAIL of a region, in the order of the text, from operation i on -/
def TL (P : Program) (f : FuncId) (N : Nat) (R : Value → World → Prop) (K : List Item) (i : Nat) (env : Env) (w : World) : Prop :=
  ∀ a, Fits N env a → wpList P (rOps K) (Qn P f R (rRest K)) ((rOps K).toList.drop i) a w

/-- THE HEAD of a region (its operations leave the world alone), in the order of the text, from operation i on; the tail begins at n -/
def SL (P : Program) (f : FuncId) (N : Nat) (R : Value → World → Prop) (K : List Item) (n i : Nat) (env : Env) (w : World) : Prop :=
  ∀ a, Fits N env a → wpStill P (rOps K) w (fun a' => wpList P (rOps K) (Qn P f R (rRest K)) ((rOps K).toList.drop n) a' w) (((rOps K).toList.take n).drop i) a

theorem opAt_rItem {ops : Array Oper} {i : Nat} {env : Env} {o : Oper} (h : opAt N (rItem ops i) env = some o) {a : Act} (hf : Fits N env a) :
    ops[i]? = some o ∧ Region.wanted o (yielded ops a.tmps) = true ∧ execOp a.eval o = execOp (ev env) o ∧ (∀ v, Fits N (Eng.put env o.dst v) (a.put o.dst v)) := by
  obtain ⟨ops', i', rest, k, hK, _, ho, hw, he, hfit⟩ := opAt_spec h hf
  simp only [rItem, List.cons.injEq, Item.inRegion.injEq, and_true] at hK
  obtain ⟨⟨rfl, rfl, _⟩, _⟩ := hK
  exact ⟨ho, hw, he, hfit⟩

theorem drop_of {ops : Array Oper} {i : Nat} {o : Oper} (h : ops[i]? = some o) : ops.toList.drop i = o :: ops.toList.drop (i + 1) := by
  obtain ⟨hl, rfl⟩ := Array.getElem?_eq_some_iff.1 h
  have := List.drop_eq_getElem_cons (l := ops.toList) (i := i) (by simpa using hl)
  simpa using this

theorem take_drop_of {ops : Array Oper} {n i : Nat} {o : Oper} (h : ops[i]? = some o) (hi : i < n) : (ops.toList.take n).drop i = o :: (ops.toList.take n).drop (i + 1) := by
  obtain ⟨hl, rfl⟩ := Array.getElem?_eq_some_iff.1 h
  have := List.drop_eq_getElem_cons (l := ops.toList.take n) (i := i) (by simp; omega)
  simpa using this

theorem TL.ok {K : List Item} {i : Nat} {env : Env} {w w' : World} {d : Option Nat} {v : Value} (h : OK P N (rItem (rOps K) i) env w d v w') (k : TL P f N R K (i + 1) (put env d v) w') : TL P f N R K i env w := by
  intro a hf
  obtain ⟨o, ho, rfl, hr⟩ := h
  obtain ⟨hi, hw, he, hfit⟩ := opAt_rItem ho hf
  rw [drop_of hi]
  unfold wpList
  rw [if_pos hw]
  refine .inl ?_
  unfold Oper.wp
  rw [he]
  rcases hr with hr | ⟨rfl, hr⟩
  · rw [hr]; exact k _ (hfit v)
  · rw [hr]; exact k _ (hfit undef)

theorem SL.ok {K : List Item} {n i : Nat} {env : Env} {w : World} {d : Option Nat} {v : Value} (hn : i < n) (h : OK P N (rItem (rOps K) i) env w d v w) (k : SL P f N R K n (i + 1) (put env d v) w) : SL P f N R K n i env w := by
  intro a hf
  obtain ⟨o, ho, rfl, hr⟩ := h
  obtain ⟨hi, hw, he, hfit⟩ := opAt_rItem ho hf
  rw [take_drop_of hi hn]
  unfold wpStill
  rw [if_pos hw]
  unfold Oper.still
  rw [he]
  rcases hr with hr | ⟨rfl, hr⟩
  · rw [hr]; exact ⟨rfl, k _ (hfit v)⟩
  · rw [hr]; exact ⟨rfl, k _ (hfit undef)⟩

theorem SL.done {K : List Item} {n : Nat} {env : Env} {w : World} (k : TL P f N R K n env w) : SL P f N R K n n env w := by
  intro a hf
  have e : ((rOps K).toList.take n).drop n = [] := List.drop_eq_nil_of_le (by simp; omega)
  rw [e]
  exact k a hf

theorem TL.done {K : List Item} {n : Nat} {env : Env} {w : World} (hn : (rOps K).size = n) (k : J P f N R (rRest K) env w) : TL P f N R K n env w := by
  intro a hf
  rw [List.drop_eq_nil_of_le (by simp; omega)]
  exact ⟨rfl, k a hf⟩

theorem SL.weaken {K : List Item} {n i : Nat} {env env' : Env} {w : World} (h : (env'.map fun p => look env p.1) = env'.map fun p => some p.2) (k : SL P f N R K n i env' w) : SL P f N R K n i env w :=
  fun a hf => k a (hf.sub h)

theorem TL.weaken {K : List Item} {i : Nat} {env env' : Env} {w : World} (h : (env'.map fun p => look env p.1) = env'.map fun p => some p.2) (k : TL P f N R K i env' w) : TL P f N R K i env w :=
  fun a hf => k a (hf.sub h)

theorem SL.head {K : List Item} {n i : Nat} {t : Nat} {v : Value} (v' : Value) {env : Env} {w : World} (hv : v = v') (k : SL P f N R K n i ((t, v') :: env) w) : SL P f N R K n i ((t, v) :: env) w := by
  subst hv; exact k

theorem TL.head {K : List Item} {i : Nat} {t : Nat} {v : Value} (v' : Value) {env : Env} {w : World} (hv : v = v') (k : TL P f N R K i ((t, v') :: env) w) : TL P f N R K i ((t, v) :: env) w := by
  subst hv; exact k

theorem Sep.drew {w0 w : World} {L : List Claim} (h : Sep w0 L w) : Sep w0 L { w with drawn := w.drawn + 1 } :=
  ⟨h.below.drew, fun c hc => c.stable w _ (fun _ _ => rfl) (h.all c hc), h.fresh, h.apart⟩

/-- A REGION THAT DRAWS and only reads -/
theorem J.drawStill {w0 : World} {L : List Claim} {K : List Item} {env : Env} {w : World} (S : Sep w0 L w) (n : Nat) (hm : P.follows .mixedOrders = true) (hd : isDraw K = true) (hn : (rOps K).size = n) (hB : Region.lexB .any (rOps K) = true)
    (k : ∀ w', Sep w0 L w' → SL P f N R K n 0 env w') : J P f N R K env w := by
  intro a hf
  unfold isDraw at hd
  split at hd
  · rename_i id ops k'
    refine Ja.of_wp ?_
    have h1 := wp_region_still (P := P) (id := id) (ops := ops) (Q := Qn P f R k') (a := a) (w := w) hm (by simpa [rOps] using hB)
    refine h1 ?_
    have h2 := k _ S.drew a hf
    have hs : ops.size = n := hn
    simp only [rOps, rRest, List.drop_zero] at h2
    rw [List.take_of_length_le (by simp; omega), List.drop_eq_nil_of_le (by simp; omega)] at h2
    exact h2
  · cases hd

theorem TL.stBox {w0 w : World} {L : List Claim} (S : Sep w0 L w) (i : Nat) {b : Nat} {cs : List Value} {T : TypeId} {K : List Item} {j : Nat} {env : Env} (t : TypeId) (off : Nat) (v : Value) (cs' : List Value) (L' : List Claim)
    (h : stAt N (rItem (rOps K) j) env = some (none, t, ⟨b, off, none⟩, v)) (hi : L[i]? = some (box b cs T)) (hs : (P.info? t).map (·.size) = some v.cells.size) (hv : stV off v.cells.toList cs = some cs')
    (hL : L.set i (box b cs' T) = L')
    (k : ∀ w', Sep w0 L' w' → TL P f N R K (j + 1) env w') : TL P f N R K j env w := by
  subst hL
  exact TL.ok (OK.store _ h (run_storeVar (S.nth i hi) hs hv)) (k _ (S.setBox i cs' hi))

theorem TL.new {w0 w : World} {L : List Claim} (S : Sep w0 L w) (d : Nat) (cs : List Value) (T : TypeId) {K : List Item} {j : Nat} {env : Env}
    (h : opRun P N (rItem (rOps K) j) env w = some (some d, .ok (.value (.pointer (some ⟨w.heap.size, 0, none⟩))) (w.alloc (.cells cs.toArray T))))
    (k : ∀ b w', Sep w0 (box b cs T :: L) w' → TL P f N R K (j + 1) ((d, .pointer (some ⟨b, 0, none⟩)) :: env) w') : TL P f N R K j env w := by
  obtain ⟨o, ho, hd, hr⟩ := opRun_spec h
  exact TL.ok ⟨o, ho, hd, .inl hr⟩ (k _ _ (S.alloc cs T))

theorem callAt_spec {K : List Item} {env : Env} {d : Nat} {g : FuncId} {args : Array Value} (hb : HasBody P g) (h : callAt N K env = some (some d, g, args)) (w : World) :
    ∃ o, opAt N K env = some o ∧ o.dst = some d ∧ (execOp (ev env) o).run P w = .ok (.enter g args) w := by
  unfold callAt at h
  split at h
  · rename_i o ho
    split at h
    · rename_i x as ts hop
      split at h
      · rename_i g' first captured hx
        simp only [Option.some.injEq, Prod.mk.injEq] at h
        obtain ⟨hd, rfl, rfl⟩ := h
        refine ⟨o, ho, hd, ?_⟩
        unfold execOp
        have := hb ((first.toList ++ as.toList.map (ev env) ++ captured.toList).toArray) w
        simp only [hop, resolve, Deferred.ofValue, hx, Sem.run_bind, Sem.run_pure, Result.andThen_ok, invoke]
        rw [← this]
        congr 2
        apply Array.ext'
        simp
      · cases h
    · cases h
  · cases h

theorem TL.callF {K : List Item} {j : Nat} {env : Env} {w : World} (d : Nat) (g : FuncId) (args : Array Value) (hb : HasBody P g) (h : callAt N (rItem (rOps K) j) env = some (some d, g, args)) {Q : Value → World → Prop}
    (hc : Ret P g args w Q) (k : ∀ v w', Q v w' → TL P f N R K (j + 1) ((d, v) :: env) w') : TL P f N R K j env w := by
  intro a hf
  obtain ⟨o, ho, hd, hr⟩ := callAt_spec hb h w
  obtain ⟨hi, hw, he, hfit⟩ := opAt_rItem ho hf
  rw [drop_of hi]
  unfold wpList
  rw [if_pos hw]
  refine .inl ?_
  unfold Oper.wp
  rw [he, hr]
  refine Calls.mono hc ?_
  rintro _ w' ⟨v, rfl, hq⟩
  have := k v w' hq _ (by have := hfit v; rw [hd] at this; exact this)
  rw [hd]
  exact this

/-- a part of a struct's cells -/
def partV (P : Program) (t : TypeId) (cs : Array Value) (off : Nat) : Option Value :=
  match P.underlying t, P.info? t with
  | some d, some i => bif aggB d then some (.agg (cs.extract off (off + i.size))) else cs[off]?
  | _, _ => none

theorem partV_run {w : World} {t : TypeId} {cs : Array Value} {off : Nat} {v : Value} (h : partV P t cs off = some v) : (part t cs off).run P w = .ok v w := by
  unfold partV at h
  split at h
  · rename_i d i hu hi
    unfold part
    rw [Sem.run_bind, run_isAgg hu w, Result.andThen_ok]
    cases hd : aggB d with
    | true =>
      rw [hd] at h
      simp only [cond_true, Option.some.injEq] at h
      subst h
      simp [run_sizeOf hi w, Result.andThen]
    | false =>
      rw [hd] at h
      simp only [cond_false] at h
      simp [h]
  · cases h

/-- equality of plain data: the Bool that '==' gives -/
def eqB (P : Program) : Nat → TypeId → Value → Value → Option Bool
  | 0, _, _, _ => none
  | d + 1, t, x, y =>
    match P.underlying t, x, y with
    | some .bool, .bool a, .bool b => some (a == b)
    | some (.int _), .int k a, .int k' b => if k = k' then some (a == b) else none
    | some .string, .string a, .string b => some (a.toList == b.toList)
    | some (.struct fs), .agg xs, .agg ys => if P.stoodInHeld t then none else
      fs.toList.foldr (fun f r => if f.name ≠ "_" then (match partV P f.type xs f.offset, partV P f.type ys f.offset with
        | some a, some b => (match eqB P d f.type a b, r with | some p, some q => some (p && q) | _, _ => none)
        | _, _ => none) else r) (some true)
    | some (.array n e), .agg xs, .agg ys => match P.info? e with
      | some _ => (List.range n).foldr (fun i r => match partV P e xs (i * P.cellsOf e), partV P e ys (i * P.cellsOf e) with
        | some a, some b => (match eqB P d e a b, r with | some p, some q => some (p && q) | _, _ => none)
        | _, _ => none) (some true)
      | none => none
    | _, _, _ => none

theorem eqB_run : ∀ (d : Nat) {w : World} {t : TypeId} {x y : Value} {b : Bool} (_ : eqB P d t x y = some b), (Op.equalIn d t x y).run P w = .ok b w := by
  intro d
  induction d with
  | zero => intro w t x y b h; cases h
  | succ d ih =>
    intro w t x y b h
    unfold eqB at h
    split at h
    · rename_i a b' hu; simp only [Option.some.injEq] at h; subst h; exact run_equalIn_bool w d t _ _ hu
    · rename_i kk k a k' b' hu
      split at h
      · rename_i hk; simp only [Option.some.injEq] at h; subst h hk; exact run_equalIn_int w d t _ _ _ _ hu
      · cases h
    · rename_i a b' hu; simp only [Option.some.injEq] at h; subst h; exact run_equalIn_string w d t _ _ hu
    · rename_i fs xs ys hu
      split at h
      · cases h
      · rename_i hp
        have hf : P.fieldsOf t = fs := by simp [Program.fieldsOf, hu]
        rw [run_equalIn_struct w d t xs ys (by rw [hf]; exact hu) (by simpa using hp), hf]
        clear hu hf hp
        generalize fs.toList = l at h
        induction l generalizing b w with
        | nil => simp only [List.foldr_nil, Option.some.injEq] at h; subst h; simp [Op.eqFields]
        | cons f l ihl =>
          simp only [List.foldr_cons] at h
          unfold Op.eqFields
          by_cases hn : f.name ≠ "_"
          · rw [if_pos hn] at h ⊢
            split at h
            · rename_i a b' ha hb
              split at h
              · rename_i p q hp hq
                simp only [Option.some.injEq] at h
                subst h
                rw [Sem.run_bind, partV_run ha, Result.andThen_ok, Sem.run_bind, partV_run hb, Result.andThen_ok, Sem.run_bind, ih hp, Result.andThen_ok]
                cases p
                · simp
                · simp [ihl hq]
              · cases h
            · cases h
          · rw [if_neg hn] at h ⊢
            exact ihl h
    · rename_i n e xs ys hu
      split at h
      · rename_i i hi
        rw [run_equalIn_array _ d xs ys hu hi]
        clear hu hi
        generalize List.range n = l at h
        induction l generalizing b w with
        | nil => simp only [List.foldr_nil, Option.some.injEq] at h; subst h; simp [Op.eqItems]
        | cons f l ihl =>
          simp only [List.foldr_cons] at h
          unfold Op.eqItems
          split at h
          · rename_i a b' ha hb
            split at h
            · rename_i p q hp hq
              simp only [Option.some.injEq] at h
              subst h
              rw [Sem.run_bind, partV_run ha, Result.andThen_ok, Sem.run_bind, partV_run hb, Result.andThen_ok, Sem.run_bind, ih hp, Result.andThen_ok]
              cases p
              · simp
              · simp [ihl hq]
            · cases h
          · cases h
      · cases h
    · cases h

end
end Go.Eng

