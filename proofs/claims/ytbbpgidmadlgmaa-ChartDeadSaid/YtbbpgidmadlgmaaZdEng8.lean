/- The proof engine, eighth part: slices of the call's own in general, slice expressions. Conditions: none; it is generic in the program. -/
import Derived.Test.YtbbpgidmadlgmaaZdEng7
namespace Go.Eng
set_option linter.unusedSimpArgs false
set_option linter.unusedVariables false
open Go.RowKit
variable {P : Program} {f : FuncId} {N : Nat} {R : Value → World → Prop}

/-- an element in one cell -/
abbrev enc1 {α : Type} (g : α → Value) (x : α) : List Value := [g x]

theorem flatMap_enc1 {α : Type} (g : α → Value) (l : List α) : l.flatMap (enc1 g) = l.map g := by
  induction l with
  | nil => rfl
  | cons x l ih => simp [List.flatMap_cons, ih]

theorem rowOf_cells {α : Type} {enc : α → List Value} {w : World} {a : Option Addr} {cap : Nat} {e : TypeId} {size : Nat} {l : List α} (h : (rowOf enc a cap e size l).holds w) : Cells w a (l.flatMap enc) ∧ (a = none → l = []) ∧ l.length ≤ cap := by
  obtain ⟨a', cap', he, hc, h1, _⟩ := row_cells h
  cases he
  refine ⟨hc, fun hn => ?_, h1⟩
  subst hn
  have h' : w.ownsRow 0 e size (.slice none l.length cap) l.length (l.flatMap enc) := h
  rcases h'.2 with ⟨h2, _⟩ | ⟨g, c, cur, h2, _⟩
  · simp only [Value.slice.injEq] at h2; exact List.eq_nil_of_length_eq_zero h2.2.1
  · simp at h2

theorem rowOf_len {α : Type} {enc : α → List Value} {w : World} {a : Option Addr} {cap : Nat} {e : TypeId} {size : Nat} {l : List α} (h : (rowOf enc a cap e size l).holds w) : l.length ≤ 9223372036854775807 := by
  obtain ⟨a', cap', he, hc, h1, h2, _⟩ := row_cells h
  simp only [maxLen] at h2; omega

theorem row1_ones {α : Type} {g : α → Value} {w : World} {a : Option Addr} {cap : Nat} {e : TypeId} {l : List α} (h : (rowOf (enc1 g) a cap e 1 l).holds w) (n : Nat) (hn : l.length = n) : Ones g w a n l :=
  ⟨hn, by rw [← flatMap_enc1]; exact (rowOf_cells h).1⟩

theorem row1_addr {α : Type} {g : α → Value} {w : World} {a : Option Addr} {cap : Nat} {e : TypeId} {l : List α} (h : (rowOf (enc1 g) a cap e 1 l).holds w) (hl : 0 < l.length) : ∃ p, a = some p := by
  cases a with
  | some p => exact ⟨p, rfl⟩
  | none => have := (rowOf_cells h).2.1 rfl; subst this; simp at hl

theorem row1_cell {α : Type} {g : α → Value} {w0 w : World} {L : List Claim} (S : Sep w0 L w) (j : Nat) {a : Option Addr} {cap : Nat} {e : TypeId} {l : List α} (hj : L[j]? = some (rowOf (enc1 g) a cap e 1 l)) {p : Addr} (hp : a = some p) (d : α) (i : Nat) (hi : i < l.length) :
    w.cell? (p.add i) = some (g (l.getD i d)) := by
  obtain ⟨p', hp', hc⟩ := (row1_ones (S.nth j hj) _ rfl).at d i hi
  rw [hp] at hp'; cases hp'
  exact hc

/-- a slice literal as a list of elements -/
theorem box_row {α : Type} (enc : α → List Value) {w0 w : World} {L : List Claim} (S : Sep w0 L w) (i : Nat) {b : Nat} {cs : List Value} {e : TypeId} (l : List α) (size : Nat) (hi : L[i]? = some (box b cs e)) (hc : l.flatMap enc = cs) (hs : cs.length = l.length * size) (hm : l.length ≤ maxLen) (hb : b < w.heap.size ∨ True) :
    Sep w0 (L.set i (rowOf enc (some ⟨b, 0, none⟩) l.length e size l)) w := by
  have h : w.heap[b]? = some (.cells cs.toArray e (0, 0)) := S.nth i hi
  refine S.set i hi (fun b' hb' => .inl ?_) rfl rfl rfl (Nat.le_refl _) (fun _ _ _ => rfl) ?_
  · simpa [rowOf, row, Value.ownBlock, eq_comm, box] using hb'
  · show w.ownsRow 0 e size (.slice (some ⟨b, 0, none⟩) l.length l.length) l.length (l.flatMap enc)
    refine ⟨by rw [hc, hs], .inr ⟨b, l.length, cs.toArray, rfl, Nat.zero_le _, h, Nat.le_refl _, hm, by simp [hs], ?_⟩⟩
    rw [hc, List.take_of_length_le (by simp [hs])]

/-- what an append of a nil slice gives -/
theorem run_append_none (w : World) (t ty e : TypeId) (i : TypeInfo) (ht : P.underlying t = some (.slice e)) (hi : P.info? e = some i) (base : Option Addr) (n cap : Nat) (hb : base = none → n * i.size = 0) (hn : n ≤ cap) (c : Nat) :
    (Builtin.append_ #[t, t] ty #[.slice base n cap, .slice none 0 c]).run P w = .ok (.slice base n cap) w := by
  cases base with
  | none => simp [Builtin.append_, run_underlying ht, sizeOf, typeInfo, hi, Builtin.lenOf, Builtin.firstCells, hn]
  | some a => simp [Builtin.append_, run_underlying ht, sizeOf, typeInfo, hi, Builtin.lenOf, Builtin.firstCells, hn, storeCells]

theorem set_self {α : Type} {L : List α} {j : Nat} {c : α} (h : L[j]? = some c) : L.set j c = L := by
  apply List.ext_getElem?
  intro i
  rw [List.getElem?_set]
  split
  · rename_i e; subst e
    rw [h, if_pos (List.getElem?_eq_some_iff.1 h).1]
  · rfl
theorem OK.appendL {α : Type} (enc : α → List Value) {w0 w : World} {L : List Claim} (S : Sep w0 L w) (j : Nat) {a : Option Addr} {cap : Nat} {e : TypeId} {size : Nat} (l ys : List α) {K : List Item} {env : Env} (d : Nat) (t : TypeId) (z : Value) (bytes : Nat) (x : Option Addr) (c : Nat)
    (hj : L[j]? = some (rowOf enc a cap e size l)) (h : appAt N K env = some (some d, t, .slice a l.length cap, .slice x ys.length c)) (ht : P.underlying t = some (.slice e))
    (hinfo : (P.info? e).map (fun i => (i.zero, i.size, i.bytes)) = some (some z, size, bytes)) (hzs : z.cells.size = size) (hsz : 0 < size)
    (hnews : Cells w x (ys.flatMap enc)) (hx : x = none → ys = []) (hl : ∀ y, (enc y).length = size) (h1 : ∀ y, (enc y).all (·.oneCell') = true) (hb : (l.length + ys.length) * bytes ≤ 140737488355328 ∧ l.length + ys.length ≤ 140737488355328)
    : ∃ a' cap' w', OK P N K env w (some d) (.slice a' (l ++ ys).length cap') w' ∧ Sep w0 (L.set j (rowOf enc a' cap' e size (l ++ ys))) w' := by
  obtain ⟨i, hi, hzz⟩ := Option.map_eq_some_iff.1 hinfo
  simp only [Prod.mk.injEq] at hzz
  obtain ⟨hz, hsize, hby⟩ := hzz
  have hown : w.ownsRow 0 e size (.slice a l.length cap) l.length (l.flatMap enc) := S.nth j hj
  have hlen : ∀ zs : List α, (zs.flatMap enc).length = zs.length * size := by
    intro zs
    induction zs with
    | nil => simp
    | cons y zs ih => simp [List.flatMap_cons, ih, hl, Nat.add_mul]; omega
  have hall : ∀ u ∈ ys.flatMap enc, u.oneCell' = true := by
    intro u hu
    obtain ⟨y, _, hy⟩ := List.mem_flatMap.1 hu
    have := h1 y
    rw [List.all_eq_true] at this
    exact this u hy
  unfold appAt at h
  split at h
  · rename_i o ho
    split at h
    · rename_i args argTypes hop
      split at h
      · rename_i xo yo t1 t2 hargs hts
        split at h
        · rename_i htt
          subst htt
          simp only [Option.some.injEq, Prod.mk.injEq] at h
          obtain ⟨hd, rfl, hx', hy⟩ := h
          have ea : args = #[xo, yo] := by rw [← hargs]
          have et : argTypes = #[t1, t1] := by rw [← hts]
          subst ea et
          cases x with
          | none =>
            have hys := hx rfl
            subst hys
            have hcl := rowOf_cells (S.nth j hj)
            have hr := run_append_none (P := P) w t1 o.type e i ht hi a l.length cap (fun hn => by have := hcl.2.1 hn; subst this; simp) hcl.2.2 c
            have hS : Sep w0 (L.set j (rowOf enc a cap e size (l ++ []))) w := by
              have : L.set j (rowOf enc a cap e size (l ++ [])) = L := by
                rw [List.append_nil]
                exact set_self hj
              rw [this]; exact S
            refine ⟨a, cap, w, ⟨_, ho, hd, .inl ?_⟩, hS⟩
            unfold execOp
            simp only [List.length_nil] at hy
            simp [hop, resolve, invoke, builtin, hx', hy, hr, Result.andThen]
          | some ad =>
            have hn : ∀ q u, (ys.flatMap enc)[q]? = some u → w.cell? (ad.add q) = some u := fun q u hq => by
              obtain ⟨p, hp, hc⟩ := hnews q u hq
              cases hp; exact hc
            obtain ⟨v', w', hr, ho', hg, hblk⟩ := run_append_row (P := P) w t1 o.type e i z size bytes ht hi hz hsize hby hzs hsz _ _ _ hown ad ys.length c (ys.flatMap enc) (hlen ys) hn hall (by simp only [maxLen]; omega) hb.1
            have hlen : (l ++ ys).length = l.length + ys.length := by simp
            have hfm : l.flatMap enc ++ ys.flatMap enc = (l ++ ys).flatMap enc := by simp
            rw [hfm, ← hlen] at ho'
            obtain ⟨a', cap', rfl, _, _, _, _⟩ := row_cells (v := v') (e := e) (size := size) (n := (l ++ ys).length) (xs := (l ++ ys).flatMap enc) (w := w') ho'
            have hS : Sep w0 (L.set j (rowOf enc a' cap' e size (l ++ ys))) w' := by
              refine S.set j hj (fun b hb' => ?_) hg.os hg.tape hg.output hg.size (fun b hb1 hb2 => hg.block b hb1 fun e => hb2 e.symm) ho'
              rcases hblk b hb' with h2 | h2
              · exact .inl h2
              · exact .inr ⟨h2, (ho'.lt b hb').2⟩
            refine ⟨a', cap', w', ⟨_, ho, hd, .inl ?_⟩, hS⟩
            unfold execOp
            simp [hop, resolve, invoke, builtin, hx', hy, hr, Result.andThen]
        · cases h
      · cases h
    · cases h
  · cases h

theorem front_perm {α : Type} {c : α} : ∀ (L : List α) (j : Nat), L[j]? = some c → (c :: L.eraseIdx j).Perm L := by
  intro L
  induction L with
  | nil => intro j h; simp at h
  | cons x L ih =>
    intro j h
    cases j with
    | zero => simp at h; subst h; simp
    | succ j =>
      rw [List.eraseIdx_cons_succ]
      exact (List.Perm.swap x c _).trans ((ih j (by simpa using h)).cons x)
/-- the claim at j comes first -/
theorem Sep.front {w0 w : World} {L : List Claim} (S : Sep w0 L w) (j : Nat) {c : Claim} (hj : L[j]? = some c) : Sep w0 (c :: L.eraseIdx j) w := by
  have hlt := (List.getElem?_eq_some_iff.1 hj).1
  have hc := (List.getElem?_eq_some_iff.1 hj).2
  have hp : (c :: L.eraseIdx j).Perm L := by
    clear hlt hc S
    exact front_perm L j hj
  refine ⟨S.below, fun d hd => S.all d (hp.mem_iff.1 hd), fun d hd => S.fresh d (hp.mem_iff.1 hd), ?_⟩
  exact hp.symm.pairwise S.apart fun h b hb hb' => h b hb' hb

theorem Sep.pick {w0 w : World} {L : List Claim} (S : Sep w0 L w) (j : Nat) {c : Claim} (hj : L[j]? = some c) : Sep w0 [c] w :=
  (S.front j hj).sub (List.Sublist.cons_cons _ (List.nil_sublist _))

theorem box_keep {w w' : World} {b : Nat} {cs : List Value} {T : TypeId} (h : (box b cs T).holds w) (S : Sep w [] w') : (box b cs T).holds w' := by
  have h' : w.heap[b]? = some (.cells cs.toArray T (0, 0)) := h
  exact (box b cs T).stable w w' (fun b' hb' => S.below.block b' (by have e : b' = b := hb'; rw [e]; exact (Array.getElem?_eq_some_iff.1 h').1)) h

theorem OK.ldRo {w0 w : World} {L : List Claim} (S : Sep w0 L w) {b : Nat} {cs : List Value} {T : TypeId} (hb : (box b cs T).holds w0) {K : List Item} {env : Env} (d : Nat) (t : TypeId) (off : Nat) (v : Value)
    (h : ldAt N K env = some (some d, t, ⟨b, off, none⟩)) (hv : ldV P t off cs = some v) : OK P N K env w (some d) v w :=
  OK.load v h (ldV_run (box_keep hb S.nil) hv)

theorem rowOf_recs {α : Type} {g : α → List Value} {s : Nat} {w : World} {a : Option Addr} {cap : Nat} {e : TypeId} {l : List α} (h : (rowOf g a cap e s l).holds w) (n : Nat) (hn : l.length = n) (hs : ∀ x, (g x).length = s) (hp : 0 < s) : Recs g s w a n l :=
  ⟨hn, hs, hp, (rowOf_cells h).1⟩

theorem rowOf_cap {α : Type} {enc : α → List Value} {w : World} {a : Option Addr} {cap : Nat} {e : TypeId} {size : Nat} {l : List α} (h : (rowOf enc a cap e size l).holds w) : cap ≤ 9223372036854775807 := by
  obtain ⟨a', cap', he, hc, h1, h2, _⟩ := row_cells h
  cases he
  simpa [maxLen] using h2

theorem getD_Q {α : Type} {l : List α} {Q : α → Prop} (h : ∀ y ∈ l, Q y) {n : Nat} (d : α) (hn : n < l.length) : Q (l.getD n d) := by
  have : l.getD n d = l[n] := by simp [List.getD, hn]
  rw [this]; exact h _ (List.getElem_mem hn)

/-- the place of the first element that is wanted, or -1 -/
def indexF {α : Type} (q : α → Bool) (l : List α) : Int := match l.findIdx? q with | some i => i | none => -1
theorem indexF_some {α : Type} {q : α → Bool} {l : List α} (d : α) (i : Nat) (hi : i < l.length) (h1 : ∀ j, j < i → q (l.getD j d) = false) (h2 : q (l.getD i d) = true) : indexF q l = i := by
  unfold indexF
  have : l.findIdx? q = some i := by
    rw [List.findIdx?_eq_some_iff_getElem]
    refine ⟨hi, by simpa [List.getD, hi] using h2, fun j hj => ?_⟩
    have := h1 j hj
    simp [List.getD, show j < l.length by omega] at this
    simp [this]
  rw [this]
theorem indexF_none {α : Type} {q : α → Bool} {l : List α} (d : α) (h1 : ∀ j, j < l.length → q (l.getD j d) = false) : indexF q l = -1 := by
  unfold indexF
  have : l.findIdx? q = none := by
    rw [List.findIdx?_eq_none_iff]
    intro x hx
    obtain ⟨j, hj, rfl⟩ := List.mem_iff_getElem.1 hx
    have := h1 j hj
    simpa [List.getD, hj] using this
  rw [this]
theorem indexF_nonneg {α : Type} {q : α → Bool} {l : List α} : decide (indexF q l ≥ 0) = l.any q := by
  unfold indexF
  cases h : l.findIdx? q with
  | none =>
    rw [List.findIdx?_eq_none_iff] at h
    have : l.any q = false := by rw [List.any_eq_false]; intro x hx; simp [h x hx]
    rw [this]; decide
  | some i =>
    rw [List.findIdx?_eq_some_iff_getElem] at h
    obtain ⟨hi, h2, _⟩ := h
    have : l.any q = true := List.any_eq_true.2 ⟨_, List.getElem_mem hi, h2⟩
    rw [this]; simp
theorem indexF_at {α : Type} {q : α → Bool} {l : List α} (d : α) (h : 0 ≤ indexF q l) : indexF q l < (l.length : Int) ∧ q (l.getD (indexF q l).toNat d) = true ∧ ∀ j, j < (indexF q l).toNat → q (l.getD j d) = false := by
  unfold indexF at h ⊢
  cases hx : l.findIdx? q with
  | none => rw [hx] at h; exact absurd h (by decide)
  | some i =>
    rw [List.findIdx?_eq_some_iff_getElem] at hx
    obtain ⟨hi, h2, h3⟩ := hx
    refine ⟨by simpa using hi, by simpa [List.getD, hi] using h2, fun j hj => ?_⟩
    simp only [Int.toNat_natCast] at hj
    have := h3 j hj
    simpa [List.getD, show j < l.length by omega] using this
theorem indexF_bounds {α : Type} (q : α → Bool) (l : List α) : -1 ≤ indexF q l ∧ indexF q l < (l.length : Int) ∨ indexF q l = -1 := by
  by_cases h : 0 ≤ indexF q l
  · exact .inl ⟨by omega, by
      unfold indexF at h ⊢
      cases hx : l.findIdx? q with
      | none => rw [hx] at h; exact absurd h (by decide)
      | some i =>
        rw [List.findIdx?_eq_some_iff_getElem] at hx
        obtain ⟨hi, _⟩ := hx
        simpa using hi⟩
  · right
    unfold indexF at h ⊢
    cases hx : l.findIdx? q with
    | none => rfl
    | some i => rw [hx] at h; exact absurd (show (0 : Int) ≤ (i : Int) by omega) h

/-- a slice expression of a slice at hand: where it writes, its type, the slice, the bounds -/
def slAt (N : Nat) (K : List Item) (env : Env) : Option (Option Nat × TypeId × Value × Option Value × Option Value) :=
  match opAt N K env with
  | some o => match o.op with
    | .slice t x lo hi none => some (o.dst, t, ev env x, lo.map (ev env), hi.map (ev env))
    | _ => none
  | none => none

def subA (a : Option Addr) (cap l size : Nat) : Option Addr := if cap = l then a else a.map (·.add (l * size))

theorem subA_zero (a : Option Addr) (cap size : Nat) : subA a cap 0 size = a := by
  unfold subA
  split
  · rfl
  · cases a <;> simp [Addr.add]

theorem OK.slice {K : List Item} {env : Env} {w : World} (d : Nat) (t : TypeId) (size : Nat) (a : Option Addr) (len cap : Nat) (lo hi : Option Value) (l r : Nat) (h : slAt N K env = some (some d, t, .slice a len cap, lo, hi)) (hs : elemSize P t = some size)
    (hlo : (lo = none ∧ l = 0) ∨ ∃ k i, lo = some (.int k i) ∧ i = (l : Int)) (hhi : (hi = none ∧ r = len) ∨ ∃ k i, hi = some (.int k i) ∧ i = (r : Int)) (hlr : l ≤ r) (hrc : r ≤ cap) :
    OK P N K env w (some d) (.slice (subA a cap l size) (r - l) (cap - l)) w := by
  unfold slAt at h
  split at h
  · rename_i o ho
    split at h
    · rename_i t' x lo' hi' hop
      simp only [Option.some.injEq, Prod.mk.injEq] at h
      obtain ⟨hd, rfl, hx, rfl, rfl⟩ := h
      unfold elemSize at hs
      split at hs
      · rename_i e hu
        obtain ⟨info, hinfo, hsz⟩ := Option.map_eq_some_iff.1 hs
        refine ⟨o, ho, hd, .inl ?_⟩
        unfold execOp
        have key : (Instr.sliceBounds true len cap (lo'.map (ev env)) (hi'.map (ev env)) none).run P w = .ok (l, r, cap) w := by
          unfold Instr.sliceBounds
          rcases hlo with ⟨e1, rfl⟩ | ⟨k1, i1, e1, rfl⟩ <;> rcases hhi with ⟨e2, rfl⟩ | ⟨k2, i2, e2, rfl⟩
          · simp [e1, e2]
          · have h2 : (0 : Int) ≤ (r : Int) ∧ (r : Int) ≤ (cap : Int) := by omega
            simp [e1, e2, Instr.sliceBound, asIntOf, h2, hrc]
          · have h2 : (0 : Int) ≤ (l : Int) ∧ (l : Int) ≤ (r : Int) := by omega
            simp [e1, e2, Instr.sliceBound, asIntOf, h2, hlr]
          · have h2 : (0 : Int) ≤ (r : Int) ∧ (r : Int) ≤ (cap : Int) := by omega
            have h3 : (0 : Int) ≤ (l : Int) ∧ (l : Int) ≤ (r : Int) := by omega
            simp [e1, e2, Instr.sliceBound, asIntOf, h2, h3, hrc, hlr]
        have hsub : (if cap - l = 0 ∧ cap = l then a else a) = a := by split <;> rfl
        simp only [hop, hx, Instr.sliceAt, Instr.slice, Sem.run_bind, run_underlying hu w, Result.andThen_ok, Option.map_none, key, run_sizeOf hinfo w, Sem.run_pure, hsz, subA]
      · cases hs
    · cases h
  · cases h

theorem Ones.take {α : Type} {g : α → Value} {w : World} {a : Option Addr} {len : Nat} {l : List α} (h : Ones g w a len l) (n : Nat) (hn : n ≤ len) : Ones g w a n (l.take n) := by
  refine ⟨by rw [List.length_take, h.len_eq]; omega, fun j v hj => h.cells j v ?_⟩
  rw [List.map_take, List.getElem?_take] at hj
  split at hj
  · exact hj
  · cases hj

theorem Recs.take {α : Type} {g : α → List Value} {s : Nat} {w : World} {a : Option Addr} {len : Nat} {l : List α} (h : Recs g s w a len l) (n : Nat) (hn : n ≤ len) : Recs g s w a n (l.take n) := by
  refine ⟨by rw [List.length_take, h.len_eq]; omega, h.size, h.pos, fun j v hj => h.cells j v ?_⟩
  have hsplit : l.flatMap g = (l.take n).flatMap g ++ (l.drop n).flatMap g := by rw [← List.flatMap_append, List.take_append_drop]
  rw [hsplit, List.getElem?_append_left (List.getElem?_eq_some_iff.1 hj).1]
  exact hj

end Go.Eng

