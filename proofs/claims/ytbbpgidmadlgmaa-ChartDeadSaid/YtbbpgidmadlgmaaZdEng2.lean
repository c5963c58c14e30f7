/- The proof engine, second part: memory. A separation list of what the call itself owns; loads, stores, new variables, indexes. Conditions: none; it is generic in the program. -/
import Derived.Test.YtbbpgidmadlgmaaZdEng
import Derived.PlainAid
namespace Go.Eng
open Go.RowKit

/-- What is known of some blocks, and which blocks it speaks of. -/
structure Claim where
  foot : Nat → Prop
  holds : World → Prop
  stable : ∀ w w', (∀ b, foot b → w'.heap[b]? = w.heap[b]?) → holds w → holds w'

def box (b : Nat) (cs : List Value) (T : TypeId) : Claim :=
  ⟨(· = b), fun w => w.heap[b]? = some (.cells cs.toArray T (0, 0)), fun w w' h hw => by rw [h b rfl]; exact hw⟩

/-- a slice of the call's own (a slot that may be appended to) -/
def row (v : Value) (e : TypeId) (size n : Nat) (xs : List Value) : Claim :=
  ⟨fun b => v.ownBlock = some b, fun w => w.ownsRow 0 e size v n xs, fun w w' h hw => by
    refine ⟨hw.1, ?_⟩
    rcases hw.2 with hn | ⟨g, cap, cur, rfl, hb, hg, rest⟩
    · exact .inl hn
    · exact .inr ⟨g, cap, cur, rfl, hb, by rw [h g rfl]; exact hg, rest⟩⟩

/-- Since w0 nothing that was there has turned; the claims hold; they speak of new blocks, and of different ones. -/
structure Sep (w0 : World) (L : List Claim) (w : World) : Prop where
  below : Below w0.heap.size w0 w
  all : ∀ c ∈ L, c.holds w
  fresh : ∀ c ∈ L, ∀ b, c.foot b → w0.heap.size ≤ b ∧ b < w.heap.size
  apart : L.Pairwise fun c d => ∀ b, c.foot b → ¬ d.foot b

theorem Sep.refl (w : World) : Sep w [] w := ⟨Below.refl _ _, by simp, by simp, .nil⟩

theorem Sep.nth {w0 w : World} {L : List Claim} (h : Sep w0 L w) (i : Nat) {c : Claim} (hi : L[i]? = some c) : c.holds w := h.all c (List.mem_of_getElem? hi)

theorem Sep.nil {w0 w : World} {L : List Claim} (h : Sep w0 L w) : Sep w0 [] w := ⟨h.below, by simp, by simp, .nil⟩

theorem Sep.sub {w0 w : World} {L L' : List Claim} (h : Sep w0 L w) (hs : L'.Sublist L) : Sep w0 L' w :=
  ⟨h.below, fun c hc => h.all c (hs.subset hc), fun c hc => h.fresh c (hs.subset hc), h.apart.sublist hs⟩

/-- a call that leaves all that was there, and leaves claims of its own -/
theorem Sep.trans {w0 w w' : World} {L L' : List Claim} (h : Sep w0 L w) (h' : Sep w L' w') : Sep w0 (L' ++ L) w' := by
  have hsz := h.below.size
  have hsz' := h'.below.size
  refine ⟨h.below.trans (h'.below.mono hsz), fun c hc => ?_, fun c hc b hb => ?_, ?_⟩
  · rcases List.mem_append.1 hc with hc | hc
    · exact h'.all c hc
    · exact c.stable w w' (fun b hb => h'.below.block b (h.fresh c hc b hb).2) (h.all c hc)
  · rcases List.mem_append.1 hc with hc | hc
    · have := h'.fresh c hc b hb; omega
    · have := h.fresh c hc b hb; omega
  · refine List.pairwise_append.2 ⟨h'.apart, h.apart, fun c hc d hd b hb hb' => ?_⟩
    have h1 := h'.fresh c hc b hb
    have h2 := h.fresh d hd b hb'
    omega

theorem Sep.alloc {w0 w : World} {L : List Claim} (h : Sep w0 L w) (cs : List Value) (T : TypeId) : Sep w0 (box w.heap.size cs T :: L) (w.alloc (.cells cs.toArray T)) := by
  have h1 : Sep w [box w.heap.size cs T] (w.alloc (.cells cs.toArray T)) := by
    refine ⟨(Below.refl _ _).alloc (Nat.le_refl _) _, fun c hc => ?_, fun c hc b hb => ?_, by simp⟩
    · simp only [List.mem_singleton] at hc; subst hc
      exact heap_alloc_new w _
    · simp only [List.mem_singleton] at hc; subst hc
      have : b = w.heap.size := hb
      subst this
      exact ⟨Nat.le_refl _, by simp⟩
  exact h.trans h1

/-- One claim is exchanged while only its blocks are written. -/
theorem Sep.set {w0 w w' : World} {L : List Claim} (h : Sep w0 L w) (i : Nat) {c d : Claim} (hi : L[i]? = some c) (hfoot : ∀ b, d.foot b → c.foot b ∨ w.heap.size ≤ b ∧ b < w'.heap.size)
    (hos : w'.os = w.os) (htape : w'.tape = w.tape) (hout : w'.output = w.output) (hsize : w.heap.size ≤ w'.heap.size) (hblock : ∀ b, b < w.heap.size → ¬ c.foot b → w'.heap[b]? = w.heap[b]?) (hd : d.holds w') : Sep w0 (L.set i d) w' := by
  have hc := List.mem_of_getElem? hi
  have hlt : i < L.length := (List.getElem?_eq_some_iff.1 hi).1
  have hci : L[i] = c := (List.getElem?_eq_some_iff.1 hi).2
  have hpw := List.pairwise_iff_getElem.1 h.apart
  refine ⟨⟨hos.trans h.below.os, htape.trans h.below.tape, hout.trans h.below.output, Nat.le_trans h.below.size hsize, fun b hb => ?_⟩, fun e he => ?_, fun e he b hb => ?_, ?_⟩
  · have hle := h.below.size
    rw [hblock b (by omega) fun hf => by have := h.fresh c hc b hf; omega]
    exact h.below.block b hb
  · rcases List.mem_iff_getElem.1 he with ⟨j, hj, hje⟩
    simp only [List.length_set] at hj
    rw [List.getElem_set] at hje
    split at hje
    · subst hje; exact hd
    · rename_i hne
      subst hje
      refine (L[j]).stable w w' (fun b hb => hblock b (h.fresh _ (List.getElem_mem hj) b hb).2 fun hf => ?_) (h.all _ (List.getElem_mem hj))
      rcases Nat.lt_or_gt_of_ne hne with hlt' | hgt
      · exact hpw i j hlt hj hlt' b (by rw [hci]; exact hf) hb
      · exact hpw j i hj hlt hgt b hb (by rw [hci]; exact hf)
  · rcases List.mem_iff_getElem.1 he with ⟨j, hj, hje⟩
    simp only [List.length_set] at hj
    rw [List.getElem_set] at hje
    split at hje
    · subst hje
      rcases hfoot b hb with hf | ⟨h1, h2⟩
      · have := h.fresh c hc b hf; omega
      · have := h.below.size; omega
    · subst hje
      have := h.fresh _ (List.getElem_mem hj) b hb; omega
  · refine List.pairwise_iff_getElem.2 fun j k hj hk hjk b hb hb' => ?_
    simp only [List.length_set] at hj hk
    rw [List.getElem_set] at hb hb'
    split at hb <;> split at hb'
    · omega
    · rename_i h1 h2
      subst h1
      rcases hfoot b hb with hf | ⟨h3, h4⟩
      · exact hpw i k hj hk hjk b (by rw [hci]; exact hf) hb'
      · have := h.fresh _ (List.getElem_mem hk) b hb'; omega
    · rename_i h1 h2
      subst h2
      rcases hfoot b hb' with hf | ⟨h3, h4⟩
      · exact hpw j i hj hk hjk b hb (by rw [hci]; exact hf)
      · have := h.fresh _ (List.getElem_mem hj) b hb; omega
    · exact hpw j k hj hk hjk b hb hb'

/-- cells in a row from an address on -/
def Cells (w : World) (a : Option Addr) (xs : List Value) : Prop := ∀ j v, xs[j]? = some v → ∃ p, a = some p ∧ w.cell? (p.add j) = some v

theorem Cells.below {w w' : World} {a : Option Addr} {xs : List Value} (h : Cells w a xs) (hb : Below w.heap.size w w') : Cells w' a xs := fun j v hj => by
  obtain ⟨p, hp, hc⟩ := h j v hj
  exact ⟨p, hp, by rw [hb.cell (World.block_lt_of_cell? _ _ hc)]; exact hc⟩

theorem Cells.sep {w0 w : World} {L : List Claim} {a : Option Addr} {xs : List Value} (h : Cells w0 a xs) (hs : Sep w0 L w) : Cells w a xs := h.below hs.below

theorem row_cells {v : Value} {e : TypeId} {size n : Nat} {xs : List Value} {w : World} (h : (row v e size n xs).holds w) : ∃ a cap, v = .slice a n cap ∧ Cells w a xs ∧ n ≤ cap ∧ cap ≤ maxLen ∧ xs.length = n * size := by
  have h' : w.ownsRow 0 e size v n xs := h
  rcases h'.2 with ⟨rfl, rfl⟩ | ⟨g, cap, cur, rfl, hb, hg, h1, h2, h3, h4⟩
  · refine ⟨none, 0, rfl, fun j v hj => ?_, Nat.le_refl _, by simp [maxLen], h'.1⟩
    have : xs = [] := by have := h'.1; simpa using this
    subst this; cases hj
  · exact ⟨some ⟨g, 0, none⟩, cap, rfl, fun j v hj => ⟨_, rfl, World.ownsRow.cells h' rfl j v hj⟩, h1, h2, h'.1⟩

theorem addr_add_add (p : Addr) (i j : Nat) : (p.add i).add j = p.add (i + j) := by
  unfold Addr.add
  by_cases hi : i = 0 <;> by_cases hj : j = 0 <;> simp_all [Nat.add_assoc]

section
variable {P : Program} {f : FuncId} {N : Nat} {R : Value → World → Prop}

/-- the operation's place and run, in one -/
def opRun (P : Program) (N : Nat) (K : List Item) (env : Env) (w : World) : Option (Option Nat × Result Next) :=
  match opAt N K env with
  | some o => some (o.dst, (execOp (ev env) o).run P w)
  | none => none

theorem opRun_spec {K : List Item} {env : Env} {w : World} {d : Option Nat} {r : Result Next} (h : opRun P N K env w = some (d, r)) :
    ∃ o, opAt N K env = some o ∧ o.dst = d ∧ (execOp (ev env) o).run P w = r := by
  unfold opRun at h
  split at h
  · rename_i o ho
    simp only [Option.some.injEq, Prod.mk.injEq] at h
    exact ⟨o, ho, h.1, h.2⟩
  · cases h

/-- the operation at hand can be carried out: it writes v into d and leaves w' -/
def OK (P : Program) (N : Nat) (K : List Item) (env : Env) (w : World) (d : Option Nat) (v : Value) (w' : World) : Prop :=
  ∃ o, opAt N K env = some o ∧ o.dst = d ∧ ((execOp (ev env) o).run P w = .ok (.value v) w' ∨ v = undef ∧ (execOp (ev env) o).run P w = .ok .skip w')

theorem J.ok {K : List Item} {env : Env} {w w' : World} {d : Option Nat} {v : Value} (h : OK P N K env w d v w') (k : J P f N R (popK K) (put env d v) w') : J P f N R K env w := by
  obtain ⟨o, ho, rfl, hr | ⟨rfl, hr⟩⟩ := h
  · exact J.op v w' ho hr k
  · exact J.opSkip w' ho hr k

theorem OK.run {K : List Item} {env : Env} {w : World} (d : Nat) (v : Value) (h : opRun P N K env w = some (some d, .ok (.value v) w)) : OK P N K env w (some d) v w := by
  obtain ⟨o, ho, hd, hr⟩ := opRun_spec h
  exact ⟨o, ho, hd, .inl hr⟩

/-- NEW: 'alloc' and 'box': a variable in a block of its own -/
theorem J.new {w0 w : World} {L : List Claim} (S : Sep w0 L w) (d : Nat) (cs : List Value) (T : TypeId) {K : List Item} {env : Env}
    (h : opRun P N K env w = some (some d, .ok (.value (.pointer (some ⟨w.heap.size, 0, none⟩))) (w.alloc (.cells cs.toArray T))))
    (k : ∀ b w', Sep w0 (box b cs T :: L) w' → J P f N R (popK K) ((d, .pointer (some ⟨b, 0, none⟩)) :: env) w') : J P f N R K env w := by
  obtain ⟨o, ho, hd, hr⟩ := opRun_spec h
  have := k _ _ (S.alloc cs T)
  exact J.op _ _ ho hr (by rw [hd]; exact this)

/-- is it a struct or an array? -/
def aggB : TypeDesc → Bool | .struct _ | .array _ _ => true | _ => false

/-- the cells of a variable of type t at an offset of a block -/
def ldV (P : Program) (t : TypeId) (off : Nat) (cs : List Value) : Option Value :=
  match P.underlying t, P.info? t with
  | some (.struct _), some i | some (.array _ _), some i => bif Nat.ble (off + i.size) cs.length then some (.agg ((cs.drop off).take i.size).toArray) else none
  | some _, some _ => cs[off]?
  | _, _ => none

theorem run_isAgg {t : TypeId} {d : TypeDesc} (h : P.underlying t = some d) (w : World) : (isAgg t).run P w = .ok (aggB d) w := by
  unfold isAgg
  rw [Sem.run_bind, run_underlying h w]
  cases d <;> rfl

theorem run_sizeOf {t : TypeId} {i : TypeInfo} (h : P.info? t = some i) (w : World) : (sizeOf t).run P w = .ok i.size w := by
  simp [sizeOf, typeInfo, h]

theorem run_loadVar_agg {w : World} {t : TypeId} {i : TypeInfo} {d : TypeDesc} {a : Addr} (hu : P.underlying t = some d) (hd : (aggB d) = true) (hi : P.info? t = some i)
    (cs : List Value) (hl : cs.length = i.size) (hc : ∀ j v, cs[j]? = some v → w.cell? (a.add j) = some v) : (loadVar t a).run P w = .ok (.agg cs.toArray) w := by
  have h1 := run_loadCells_list (P := P) w a cs hc
  rw [hl] at h1
  unfold loadVar
  simp only [Sem.run_bind, run_isAgg hu w, hd, Result.andThen_ok, if_true, run_sizeOf hi w, h1, Sem.run_pure]

theorem run_loadVar_one {w : World} {t : TypeId} {d : TypeDesc} {a : Addr} {v : Value} (hu : P.underlying t = some d) (hd : (aggB d) = false)
    (hc : w.cell? a = some v) : (loadVar t a).run P w = .ok v w := by
  unfold loadVar
  rw [Sem.run_bind, run_isAgg hu w, hd]
  simp [Result.andThen, run_load, hc]

theorem ldV_run {w : World} {t T : TypeId} {b off : Nat} {cs : List Value} {v : Value} (hb : w.heap[b]? = some (.cells cs.toArray T (0, 0))) (h : ldV P t off cs = some v) :
    (loadVar t ⟨b, off, none⟩).run P w = .ok v w := by
  have hcell : ∀ j, w.cell? ⟨b, j, none⟩ = cs[j]? := fun j => by simp [World.cell?, hb]
  have hadd : ∀ j, (⟨b, off, none⟩ : Addr).add j = ⟨b, off + j, none⟩ := fun j => by unfold Addr.add; split <;> simp_all
  have agg : ∀ (i : TypeInfo) d, P.underlying t = some d → (aggB d) = true → P.info? t = some i →
      (bif Nat.ble (off + i.size) cs.length then some (Value.agg ((cs.drop off).take i.size).toArray) else none) = some v → (loadVar t ⟨b, off, none⟩).run P w = .ok v w := by
    intro i d hu hd hi h
    cases hle : Nat.ble (off + i.size) cs.length with
    | false => rw [hle] at h; cases h
    | true =>
      rw [hle] at h
      simp only [cond_true, Option.some.injEq] at h
      subst h
      have hle' := Nat.le_of_ble_eq_true hle
      refine run_loadVar_agg hu hd hi _ (by simp; omega) fun j u hj => ?_
      rw [hadd, hcell]
      rw [List.getElem?_take] at hj
      split at hj
      · simpa using hj
      · cases hj
  unfold ldV at h
  split at h
  · rename_i fs i hu hi; exact agg i _ hu rfl hi h
  · rename_i n e i hu hi; exact agg i _ hu rfl hi h
  · rename_i d i hn1 hn2 hu hi
    refine run_loadVar_one hu ?_ ((hcell off).trans h)
    cases d <;> first | rfl | exact (hn1 _ rfl).elim | exact (hn2 _ _ rfl).elim
  · cases h

/-- a load at hand: where it writes, its type, the address -/
def ldAt (N : Nat) (K : List Item) (env : Env) : Option (Option Nat × TypeId × Addr) :=
  match opAt N K env with
  | some o => match o.op with
    | .load t x => match ev env x with
      | .pointer (some a) => some (o.dst, t, a)
      | _ => none
    | _ => none
  | none => none

theorem OK.load {K : List Item} {env : Env} {w : World} {d : Option Nat} {t : TypeId} {a : Addr} (v : Value) (h : ldAt N K env = some (d, t, a)) (hr : (loadVar t a).run P w = .ok v w) :
    OK P N K env w d v w := by
  unfold ldAt at h
  split at h
  · rename_i o ho
    split at h
    · rename_i t' x hop
      split at h
      · rename_i a' hx
        simp only [Option.some.injEq, Prod.mk.injEq] at h
        obtain ⟨rfl, rfl, rfl⟩ := h
        refine ⟨o, ho, rfl, .inl ?_⟩
        unfold execOp
        simp only [hop, hx, Instr.loadAt, Instr.sureAddr, Sem.run_bind, Sem.run_pure, Result.andThen_ok, hr]
      · cases h
    · cases h
  · cases h

theorem OK.ldBox {w0 w : World} {L : List Claim} (S : Sep w0 L w) (i : Nat) {b : Nat} {cs : List Value} {T : TypeId} {K : List Item} {env : Env} (d : Nat) (t : TypeId) (off : Nat) (v : Value)
    (h : ldAt N K env = some (some d, t, ⟨b, off, none⟩)) (hi : L[i]? = some (box b cs T)) (hv : ldV P t off cs = some v) : OK P N K env w (some d) v w :=
  OK.load v h (ldV_run (S.nth i hi) hv)

/-- LOAD out of a variable of the call's own -/
theorem J.ldBox {w0 w : World} {L : List Claim} (S : Sep w0 L w) (i : Nat) {b : Nat} {cs : List Value} {T : TypeId} {K : List Item} {env : Env} (d : Nat) (t : TypeId) (off : Nat) (v : Value)
    (h : ldAt N K env = some (some d, t, ⟨b, off, none⟩)) (hi : L[i]? = some (box b cs T)) (hv : ldV P t off cs = some v)
    (k : J P f N R (popK K) ((d, v) :: env) w) : J P f N R K env w :=
  J.ok (OK.ldBox S i d t off v h hi hv) k

theorem OK.ldCell {w : World} {K : List Item} {env : Env} (d : Nat) (t : TypeId) (a : Addr) (v : Value) (h : ldAt N K env = some (some d, t, a))
    (ht : (P.underlying t).map aggB = some false) (hc : w.cell? a = some v) : OK P N K env w (some d) v w := by
  obtain ⟨td, hu, hd⟩ := Option.map_eq_some_iff.1 ht
  exact OK.load v h (run_loadVar_one hu hd hc)

theorem OK.ldCells {w : World} {K : List Item} {env : Env} (d : Nat) (t : TypeId) (a : Addr) (cs : List Value) (h : ldAt N K env = some (some d, t, a))
    (ht : (P.underlying t).map aggB = some true) (hs : (P.info? t).map (·.size) = some cs.length) (hc : ∀ j v, cs[j]? = some v → w.cell? (a.add j) = some v) : OK P N K env w (some d) (.agg cs.toArray) w := by
  obtain ⟨td, hu, hd⟩ := Option.map_eq_some_iff.1 ht
  obtain ⟨i, hi, hs⟩ := Option.map_eq_some_iff.1 hs
  exact OK.load _ h (run_loadVar_agg hu hd hi cs hs.symm hc)

/-- LOAD of one cell -/
theorem J.ldCell {w : World} {K : List Item} {env : Env} (d : Nat) (t : TypeId) (a : Addr) (v : Value) (h : ldAt N K env = some (some d, t, a))
    (ht : (P.underlying t).map aggB = some false) (hc : w.cell? a = some v)
    (k : J P f N R (popK K) ((d, v) :: env) w) : J P f N R K env w := by
  exact J.ok (OK.ldCell d t a v h ht hc) k

/-- LOAD of a struct or an array, cell by cell -/
theorem J.ldCells {w : World} {K : List Item} {env : Env} (d : Nat) (t : TypeId) (a : Addr) (cs : List Value) (h : ldAt N K env = some (some d, t, a))
    (ht : (P.underlying t).map aggB = some true) (hs : (P.info? t).map (·.size) = some cs.length) (hc : ∀ j v, cs[j]? = some v → w.cell? (a.add j) = some v)
    (k : J P f N R (popK K) ((d, .agg cs.toArray) :: env) w) : J P f N R K env w := by
  exact J.ok (OK.ldCells d t a cs h ht hs hc) k

/-- a store at hand: the type, the address, the value -/
def stAt (N : Nat) (K : List Item) (env : Env) : Option (Option Nat × TypeId × Addr × Value) :=
  match opAt N K env with
  | some o => match o.op with
    | .store t x y => match ev env x with
      | .pointer (some a) => some (o.dst, t, a, ev env y)
      | _ => none
    | _ => none
  | none => none

theorem OK.store {K : List Item} {env : Env} {w : World} {t : TypeId} {a : Addr} {v : Value} (w' : World) (h : stAt N K env = some (none, t, a, v)) (hr : (storeVar t a v).run P w = .ok () w') :
    OK P N K env w none undef w' := by
  unfold stAt at h
  split at h
  · rename_i o ho
    split at h
    · rename_i t' x y hop
      split at h
      · rename_i a' hx
        simp only [Option.some.injEq, Prod.mk.injEq] at h
        obtain ⟨hd, rfl, rfl, rfl⟩ := h
        refine ⟨o, ho, hd, .inr ⟨rfl, ?_⟩⟩
        unfold execOp
        simp only [hop, hx, Instr.storeAt, Instr.sureAddr, Sem.run_bind, Sem.run_pure, Result.andThen_ok, hr]
      · cases h
    · cases h
  · cases h

/-- the block behind a store of the cells 'vs' at 'off' -/
def stV (off : Nat) (vs cs : List Value) : Option (List Value) :=
  bif Nat.ble (off + vs.length) cs.length && vs.all (·.oneCell') then some (cs.take off ++ vs ++ cs.drop (off + vs.length)) else none

theorem run_storeVar {w : World} {t T : TypeId} {b off : Nat} {cs cs' : List Value} {v : Value} (hb : w.heap[b]? = some (.cells cs.toArray T (0, 0))) (hs : (P.info? t).map (·.size) = some v.cells.size)
    (h : stV off v.cells.toList cs = some cs') : (storeVar t ⟨b, off, none⟩ v).run P w = .ok () (w.setRow b cs'.toArray) := by
  obtain ⟨i, hi, hsz⟩ := Option.map_eq_some_iff.1 hs
  unfold stV at h
  cases hc : (Nat.ble (off + v.cells.toList.length) cs.length && v.cells.toList.all (·.oneCell')) with
  | false => rw [hc] at h; cases h
  | true =>
    rw [hc] at h
    simp only [cond_true, Option.some.injEq] at h
    simp only [Bool.and_eq_true, List.all_eq_true] at hc
    have hle := Nat.le_of_ble_eq_true hc.1
    have := run_storeCells_at P b off T v.cells.toList 0 cs.toArray w hb (by simpa using hle) hc.2
    unfold storeVar
    simp only [Sem.run_bind, run_sizeOf hi w, Result.andThen_ok, hsz, ne_eq, not_true_eq_false, if_false, this]
    simp only [Nat.add_zero] at this ⊢
    rw [← h]

theorem heap_setRow_ne (w : World) (g : Nat) (cs : Array Value) (k : Nat) (h : k ≠ g) : (w.setRow g cs).heap[k]? = w.heap[k]? := by
  unfold World.setRow
  simp only [Array.getElem?_modify]
  rw [if_neg (fun e => h e.symm)]

theorem Sep.setBox {w0 w : World} {L : List Claim} (S : Sep w0 L w) (i : Nat) {b : Nat} {cs : List Value} {T : TypeId} (cs' : List Value) (hi : L[i]? = some (box b cs T)) :
    Sep w0 (L.set i (box b cs' T)) (w.setRow b cs'.toArray) := by
  have hb : w.heap[b]? = some (.cells cs.toArray T (0, 0)) := S.nth i hi
  refine S.set i hi (fun b' hb' => .inl hb') rfl rfl rfl (by simp) (fun b' _ hn => heap_setRow_ne _ _ _ _ hn) ?_
  show (w.setRow b cs'.toArray).heap[b]? = _
  exact setRow_heap w b cs.toArray cs'.toArray T (0, 0) hb

/-- STORE into a variable of the call's own -/
theorem J.stBox {w0 w : World} {L : List Claim} (S : Sep w0 L w) (i : Nat) {b : Nat} {cs : List Value} {T : TypeId} {K : List Item} {env : Env} (t : TypeId) (off : Nat) (v : Value) (cs' : List Value) (L' : List Claim)
    (h : stAt N K env = some (none, t, ⟨b, off, none⟩, v)) (hi : L[i]? = some (box b cs T)) (hs : (P.info? t).map (·.size) = some v.cells.size) (hv : stV off v.cells.toList cs = some cs')
    (hL : L.set i (box b cs' T) = L')
    (k : ∀ w', Sep w0 L' w' → J P f N R (popK K) env w') : J P f N R K env w := by
  subst hL
  exact J.ok (OK.store _ h (run_storeVar (S.nth i hi) hs hv)) (k _ (S.setBox i cs' hi))

/-- a call at hand: where it writes, the function, the arguments -/
def callAt (N : Nat) (K : List Item) (env : Env) : Option (Option Nat × FuncId × Array Value) :=
  match opAt N K env with
  | some o => match o.op with
    | .call { callee := .value x, args, .. } => match ev env x with
      | .func (.func g) first captured => some (o.dst, g, (first.toList ++ args.toList.map (ev env) ++ captured.toList).toArray)
      | _ => none
    | _ => none
  | none => none

/-- what the walk asks of a callee: it has a body -/
def HasBody (P : Program) (g : FuncId) : Prop := ∀ (args : Array Value) (w : World), (callFunc g args).run P w = .ok (.enter g args) w

theorem J.callF {K : List Item} {env : Env} {w : World} (d : Nat) (g : FuncId) (args : Array Value) (hb : HasBody P g) (h : callAt N K env = some (some d, g, args)) {Q : Value → World → Prop}
    (hc : Ret P g args w Q) (k : ∀ v w', Q v w' → J P f N R (popK K) ((d, v) :: env) w') : J P f N R K env w := by
  unfold callAt at h
  split at h
  · rename_i o ho
    split at h
    · rename_i x as ts hop
      split at h
      · rename_i g' first captured hx
        simp only [Option.some.injEq, Prod.mk.injEq] at h
        obtain ⟨hd, rfl, rfl⟩ := h
        refine J.call ho ?_ hc (by rw [hd]; exact k)
        unfold execOp
        have := hb ((first.toList ++ as.toList.map (ev env) ++ captured.toList).toArray) w
        simp only [hop, resolve, Deferred.ofValue, hx, Sem.run_bind, Sem.run_pure, Result.andThen_ok, invoke]
        rw [← this]
        congr 2
        apply Array.ext'
        simp
      · cases h
    · cases h
  · cases h

/-- an address by an index into a slice: where it writes, the type, the base, the length, the index -/
def ixAt (N : Nat) (K : List Item) (env : Env) : Option (Option Nat × TypeId × Option Addr × Nat × Int) :=
  match opAt N K env with
  | some o => match o.op with
    | .indexAddr t x y => match ev env x, ev env y with
      | .slice a len _, .int _ i => some (o.dst, t, a, len, i)
      | _, _ => none
    | _ => none
  | none => none

/-- the size of a slice type's elements -/
def elemSize (P : Program) (t : TypeId) : Option Nat :=
  match P.underlying t with
  | some (.slice e) => (P.info? e).map (·.size)
  | _ => none

theorem OK.index {K : List Item} {env : Env} {w : World} (d : Nat) (t : TypeId) (s : Nat) (a : Option Addr) (p : Addr) (len i : Nat) (ii : Int) (q : Addr) (h : ixAt N K env = some (some d, t, a, len, ii)) (hs : elemSize P t = some s)
    (ha : a = some p) (hi : ii = i) (hl : i < len) (hq : p.add (i * s) = q) : OK P N K env w (some d) (.pointer (some q)) w := by
  unfold ixAt at h
  split at h
  · rename_i o ho
    split at h
    · rename_i t' x y hop
      split at h
      · rename_i a' len' cap kk i' hx hy
        simp only [Option.some.injEq, Prod.mk.injEq] at h
        obtain ⟨hd, rfl, rfl, rfl, rfl⟩ := h
        subst ha hi hq
        unfold elemSize at hs
        split at hs
        · rename_i e hu
          obtain ⟨info, hinfo, hsz⟩ := Option.map_eq_some_iff.1 hs
          refine ⟨o, ho, hd, .inl ?_⟩
          unfold execOp
          have h0 : (0 : Int) ≤ (i : Int) ∧ (i : Int) < (len' : Int) := ⟨by omega, by omega⟩
          simp only [hop, hx, hy, Instr.indexAt, asIntOf, Sem.run_bind, Sem.run_pure, Result.andThen_ok, run_underlying hu w, h0, and_self, if_true, run_sizeOf hinfo w, Int.toNat_natCast, hsz]
        · cases hs
      · cases h
    · cases h
  · cases h

theorem J.index {K : List Item} {env : Env} {w : World} (d : Nat) (t : TypeId) (s : Nat) (a : Option Addr) (p : Addr) (len i : Nat) (ii : Int) (q : Addr) (h : ixAt N K env = some (some d, t, a, len, ii)) (hs : elemSize P t = some s)
    (ha : a = some p) (hi : ii = i) (hl : i < len) (hq : p.add (i * s) = q) (k : J P f N R (popK K) ((d, .pointer (some q)) :: env) w) : J P f N R K env w :=
  J.ok (OK.index d t s a p len i ii q h hs ha hi hl hq) k

/-- an arithmetic operation at hand: where it writes, which, its operands -/
def binAt (N : Nat) (K : List Item) (env : Env) : Option (Option Nat × BinOp × IntKind × Int × Int) :=
  match opAt N K env with
  | some o => match o.op with
    | .binOp op _ x y _ => match ev env x, ev env y with
      | .int k a, .int k' b => if k = k' then some (o.dst, op, k, a, b) else none
      | _, _ => none
    | _ => none
  | none => none

theorem OK.rem {K : List Item} {env : Env} {w : World} (d : Nat) (kk : IntKind) (x y : Int) (h : binAt N K env = some (some d, .rem, kk, x, y)) (hy : y ≠ 0) :
    OK P N K env w (some d) (.int kk (x.tmod y)) w := by
  unfold binAt at h
  split at h
  · rename_i o ho
    split at h
    · rename_i op t xo yo t' hop
      split at h
      · rename_i k1 a k2 b hx hy'
        split at h
        · rename_i hk
          simp only [Option.some.injEq, Prod.mk.injEq] at h
          obtain ⟨hd, rfl, rfl, rfl, rfl⟩ := h
          subst hk
          refine ⟨o, ho, hd, .inl ?_⟩
          unfold execOp
          simp [hop, hx, hy', eqGuard, binOp, Op.intDiv, hy]
        · cases h
      · cases h
    · cases h
  · cases h

theorem J.rem {K : List Item} {env : Env} {w : World} (d : Nat) (kk : IntKind) (x y : Int) (h : binAt N K env = some (some d, .rem, kk, x, y)) (hy : y ≠ 0)
    (k : J P f N R (popK K) ((d, .int kk (x.tmod y)) :: env) w) : J P f N R K env w := J.ok (OK.rem d kk x y h hy) k

/-- the post behind a name: the walk's goals stay small -/
theorem Ret.named {g : FuncId} {args : Array Value} {w : World} {Q : Value → World → Prop} (h : ∀ R : Value → World → Prop, (∀ v w', Q v w' → R v w') → Ret P g args w R) : Ret P g args w Q :=
  h Q fun _ _ q => q

theorem Sep.cell {w0 w : World} {L : List Claim} (S : Sep w0 L w) {a : Addr} {v : Value} (h : w0.cell? a = some v) : w.cell? a = some v := by
  rw [S.below.cell (World.block_lt_of_cell? _ _ h)]; exact h

/-- a slice that reads as a list, each element in one cell -/
structure Ones {α : Type} (g : α → Value) (w : World) (a : Option Addr) (len : Nat) (l : List α) : Prop where
  len_eq : l.length = len
  cells : Cells w a (l.map g)

theorem Ones.at {α : Type} {g : α → Value} {w : World} {a : Option Addr} {len : Nat} {l : List α} (h : Ones g w a len l) (d : α) (j : Nat) (hj : j < len) :
    ∃ p, a = some p ∧ w.cell? (p.add j) = some (g (l.getD j d)) := by
  have hj' : j < l.length := by rw [h.len_eq]; exact hj
  exact h.cells j _ (by simp [List.getD, hj'])

theorem Ones.sep {α : Type} {g : α → Value} {w0 w : World} {L : List Claim} {a : Option Addr} {len : Nat} {l : List α} (h : Ones g w0 a len l) (S : Sep w0 L w) : Ones g w a len l := ⟨h.len_eq, h.cells.sep S⟩

/-- a slice that reads as a list of ints -/
abbrev Ints := @Ones Int (Value.int .i64)

end
end Go.Eng

