/- The proof engine, ninth part: slices that are made, slices compared with nil, an append of a slice that reads as a list. Conditions: none; it is generic in the program. -/
import Derived.Test.YtbbpgidmadlgmaaZdEng8
import Derived.Laws.OwnMore
import Derived.Lib.AppendZeros
namespace Go.Eng
set_option linter.unusedSimpArgs false
set_option linter.unusedVariables false
open Go.RowKit
variable {P : Program} {f : FuncId} {N : Nat} {R : Value → World → Prop}

theorem Ones.nil {α : Type} {g : α → Value} {w : World} {len : Nat} {l : List α} (h : Ones g w none len l) : l = [] := by
  cases l with
  | nil => rfl
  | cons x l =>
    obtain ⟨p, hp, _⟩ := h.cells 0 (g x) (by simp)
    cases hp

theorem Ones.enc {α : Type} {g : α → Value} {w : World} {a : Option Addr} {len : Nat} {l : List α} (h : Ones g w a len l) : Cells w a (l.flatMap (enc1 g)) := by
  rw [flatMap_enc1]; exact h.cells

theorem Recs.nil' {α : Type} {g : α → List Value} {s : Nat} {w : World} {len : Nat} {l : List α} (h : Recs g s w none len l) : l = [] := by
  cases l with
  | nil => rfl
  | cons x l =>
    have hp := h.pos
    obtain ⟨p, hp, _⟩ := h.cells 0 ((g x)[0]'(by rw [h.size]; exact hp)) (by
      rw [List.flatMap_cons, List.getElem?_append_left (by rw [h.size]; exact hp)]
      simp)
    cases hp

theorem made_replicate {α : Type} {enc : α → List Value} {x0 : α} {z : Value} (hz : z.cells.toList = enc x0) (n : Nat) : (madeCells z.cells (n * z.cells.size)).toList = (List.replicate n x0).flatMap enc := by
  apply List.ext_getElem?
  intro i
  have hlen : ((List.replicate n x0).flatMap enc).length = n * z.cells.size := by
    induction n with
    | zero => simp
    | succ n ih => rw [List.replicate_succ, List.flatMap_cons, List.length_append, ih, ← hz, Array.length_toList, Nat.add_mul]; omega
  by_cases hi : i < n * z.cells.size
  · have hs : 0 < z.cells.size := by
      rcases Nat.eq_zero_or_pos z.cells.size with h | h
      · rw [h] at hi; simp at hi
      · exact h
    have key : ∀ (n i : Nat), i < n * z.cells.size → ((List.replicate n x0).flatMap enc)[i]? = (enc x0)[i % z.cells.size]? := by
      intro n
      induction n with
      | zero => intro i hi; simp at hi
      | succ n ih =>
        intro i hi
        rw [List.replicate_succ, List.flatMap_cons]
        by_cases h : i < z.cells.size
        · rw [List.getElem?_append_left (by rw [← hz]; simpa using h), Nat.mod_eq_of_lt h]
        · rw [List.getElem?_append_right (by rw [← hz]; simp; omega), ← hz, Array.length_toList, ih _ (by rw [Nat.add_mul] at hi; omega), ← hz, ← Nat.mod_eq_sub_mod (by omega)]
    rw [key n i hi, ← hz]
    have hm : i % z.cells.size < z.cells.size := Nat.mod_lt _ hs
    simp [madeCells, hi, hm]
  · rw [List.getElem?_eq_none (by simp [madeCells]; omega), List.getElem?_eq_none (by omega)]

/-- 'make([]T, n)' at hand: where it writes, the type, the length -/
def mkAt (N : Nat) (K : List Item) (env : Env) : Option (Option Nat × TypeId × Int × Int) :=
  match opAt N K env with
  | some o => match o.op with
    | .makeSlice t x y => match ev env x, ev env y with
      | .int _ n, .int _ m => some (o.dst, t, n, m)
      | _, _ => none
    | _ => none
  | none => none

theorem OK.make {α : Type} (enc : α → List Value) (x0 : α) {w0 w : World} {L : List Claim} (S : Sep w0 L w) {K : List Item} {env : Env} (d : Nat) (t e : TypeId) (size : Nat) (ii jj : Int) (n : Nat) (z : Value) (bytes : Nat) (h : mkAt N K env = some (some d, t, ii, jj)) (hn : ii = n) (hm : jj = n) (ht : P.underlying t = some (.slice e))
    (hinfo : (P.info? e).map (fun i => (i.zero, i.size, i.bytes)) = some (some z, size, bytes)) (hzs : z.cells.size = size) (hz : z.cells.toList = enc x0) (hb : bytes * n ≤ 281474976710656 ∧ n ≤ 9223372036854775807)
    : ∃ b w', OK P N K env w (some d) (.slice (some ⟨b, 0, none⟩) (List.replicate n x0).length n) w' ∧ Sep w0 (rowOf enc (some ⟨b, 0, none⟩) n e size (List.replicate n x0) :: L) w' := by
  obtain ⟨i, hi, hzz⟩ := Option.map_eq_some_iff.1 hinfo
  simp only [Prod.mk.injEq] at hzz
  obtain ⟨hz1, hsize, hby⟩ := hzz
  unfold mkAt at h
  split at h
  · rename_i o ho
    split at h
    · rename_i t' x y hop
      split at h
      · rename_i kl a kc b hx hy
        · subst hn hm
          simp only [Option.some.injEq, Prod.mk.injEq] at h
          obtain ⟨hd, rfl, rfl, rfl⟩ := h
          obtain ⟨w', hr, hown, hg⟩ := run_make_full (P := P) w w.heap.size t' e i z size ht hi hz1 hsize kl kc n (by rw [hby]; exact hb.1) (by simp only [maxLen]; omega) (Nat.le_refl _)
          have hcells : (madeCells z.cells (n * size)).toList = (List.replicate n x0).flatMap enc := by rw [← hzs]; exact made_replicate hz n
          rw [hcells] at hown
          have hlen : (List.replicate n x0).length = n := by simp
          have hS : Sep w0 (rowOf enc (some ⟨w.heap.size, 0, none⟩) n e size (List.replicate n x0) :: L) w' := by
            have h1 : Sep w [rowOf enc (some ⟨w.heap.size, 0, none⟩) n e size (List.replicate n x0)] w' := by
              refine ⟨⟨hg.os, hg.tape, hg.output, hg.size, fun b hb => hg.block b hb (by simp)⟩, fun c hc => ?_, fun c hc b hb => ?_, by simp⟩
              · simp only [List.mem_singleton] at hc; subst hc
                show w'.ownsRow 0 e size (.slice _ (List.replicate n x0).length n) (List.replicate n x0).length _
                rw [hlen]
                refine ⟨hown.1, ?_⟩
                rcases hown.2 with h2 | ⟨g, cap, cur, h3, _, h4⟩
                · exact .inl h2
                · exact .inr ⟨g, cap, cur, h3, Nat.zero_le _, h4⟩
              · simp only [List.mem_singleton] at hc; subst hc
                have hb' : b = w.heap.size := by
                  have : Value.ownBlock (.slice (some ⟨w.heap.size, 0, none⟩) (List.replicate n x0).length n) = some b := hb
                  simpa [Value.ownBlock, eq_comm] using this
                subst hb'
                have h5 := hown.lt w.heap.size (by simp [Value.ownBlock])
                exact ⟨Nat.le_refl _, h5.2⟩
            exact S.trans h1
          refine ⟨_, w', ?_, hS⟩
          rw [hlen]
          refine ⟨_, ho, hd, .inl ?_⟩
          unfold execOp
          simp [hop, hx, hy, hr, Result.andThen]
      · cases h
    · cases h
  · cases h

/-- 'append([]T(nil), make([]T, n)...)' at hand -/
def appzAt (P : Program) (N : Nat) (K : List Item) (env : Env) : Option (Option Nat × TypeId × TypeId × IntKind × Int) :=
  match opAt N K env with
  | some o => match o.op with
    | .call { callee := .builtin .append, args, argTypes } =>
      match args.toList, argTypes.toList with
      | [x, y], [t, t'] => match ev env x, ev env y with
        | .slice none 0 0, .int k n => some (o.dst, t, t', k, n)
        | _, _ => none
      | _, _ => none
    | _ => none
  | none => none

theorem zero_replicate {α : Type} {enc : α → List Value} {x0 : α} {z : Value} (hz : z.cells.toList = enc x0) (n : Nat) : (Builtin.zeroCells z.cells n).toList = (List.replicate n x0).flatMap enc := by
  rw [← made_replicate hz n]
  rfl

theorem OK.appz {α : Type} (enc : α → List Value) (x0 : α) {w0 w : World} {L : List Claim} (S : Sep w0 L w) {K : List Item} {env : Env} (d : Nat) (t t' e : TypeId) (size : Nat) (kk kn : IntKind) (ii : Int) (n : Nat) (z : Value) (bytes : Nat) (h : appzAt P N K env = some (some d, t, t', kk, ii)) (hn : ii = n) (h0 : 0 < n) (ht : P.underlying t = some (.slice e)) (ht' : P.underlying t' = some (.int kn))
    (hinfo : (P.info? e).map (fun i => (i.zero, i.size, i.bytes)) = some (some z, size, bytes)) (hzs : z.cells.size = size) (hsz : 0 < size) (hz : z.cells.toList = enc x0) (hb : n * bytes ≤ 140737488355328 ∧ n ≤ 140737488355328)
    : ∃ b cap w', OK P N K env w (some d) (.slice (some ⟨b, 0, none⟩) (List.replicate n x0).length cap) w' ∧ Sep w0 (rowOf enc (some ⟨b, 0, none⟩) cap e size (List.replicate n x0) :: L) w' := by
  obtain ⟨i, hi, hzz⟩ := Option.map_eq_some_iff.1 hinfo
  simp only [Prod.mk.injEq] at hzz
  obtain ⟨hz1, hsize, hby⟩ := hzz
  subst hn
  unfold appzAt at h
  split at h
  · rename_i o ho
    split at h
    · rename_i args argTypes hop
      split at h
      · rename_i xo yo t1 t2 hargs hts
        split at h
        · rename_i k1 n1 hx hy
          simp only [Option.some.injEq, Prod.mk.injEq] at h
          obtain ⟨hd, rfl, rfl, rfl, rfl⟩ := h
          have hr := Lib.run_append_nil_zeros (P := P) w t1 t2 o.type e i z k1 kn ht ht' hi hz1 n h0 (by rw [hsize]; exact hsz) (by omega) (by rw [hby]; omega)
          have hlen : (List.replicate n x0).length = n := by simp
          have hcap : n ≤ grownCap w n 0 e ∧ grownCap w n 0 e ≤ maxLen := ⟨grownCap_ge w n 0 e, grownCap_le_maxLen w n 0 e (by simp only [maxLen]; omega)⟩
          have hS : Sep w0 (rowOf enc (some ⟨w.heap.size, 0, none⟩) (grownCap w n 0 e) e size (List.replicate n x0) :: L) (w.drew.alloc (.cells (Builtin.zeroCells z.cells n ++ Builtin.zeroCells z.cells (grownCap w n 0 e - n)) e)) := by
            have hz1' : (Builtin.zeroCells z.cells n).size = n * size := by simp [Builtin.zeroCells, hzs]
            have hz2 : (Builtin.zeroCells z.cells (grownCap w n 0 e - n)).size = (grownCap w n 0 e - n) * size := by simp [Builtin.zeroCells, hzs]
            have h1 : Sep w [rowOf enc (some ⟨w.heap.size, 0, none⟩) (grownCap w n 0 e) e size (List.replicate n x0)] (w.drew.alloc (.cells (Builtin.zeroCells z.cells n ++ Builtin.zeroCells z.cells (grownCap w n 0 e - n)) e)) := by
              refine ⟨((Below.refl _ w).drew).alloc (Nat.le_refl _) _, fun c hc => ?_, fun c hc b hb => ?_, by simp⟩
              · simp only [List.mem_singleton] at hc; subst hc
                show World.ownsRow _ 0 e size (.slice _ (List.replicate n x0).length _) (List.replicate n x0).length _
                rw [hlen]
                refine ⟨?_, .inr ⟨w.heap.size, grownCap w n 0 e, _, rfl, Nat.zero_le _, heap_alloc_new w.drew _, hcap.1, hcap.2, ?_, ?_⟩⟩
                · rw [← zero_replicate hz, Array.length_toList, hz1']
                · rw [Array.size_append, hz1', hz2, ← Nat.add_mul]; congr 1; omega
                · rw [← zero_replicate hz, Array.toList_append, List.take_append_of_le_length (by rw [Array.length_toList, hz1']; exact Nat.le_refl _), List.take_of_length_le (by rw [Array.length_toList, hz1']; exact Nat.le_refl _)]
              · simp only [List.mem_singleton] at hc; subst hc
                have hb' : b = w.heap.size := by
                  have : Value.ownBlock (.slice (some ⟨w.heap.size, 0, none⟩) (List.replicate n x0).length (grownCap w n 0 e)) = some b := hb
                  simpa [Value.ownBlock, eq_comm] using this
                subst hb'
                refine ⟨Nat.le_refl _, ?_⟩
                have : (w.drew.alloc (.cells (Builtin.zeroCells z.cells n ++ Builtin.zeroCells z.cells (grownCap w n 0 e - n)) e)).heap.size = w.heap.size + 1 := by simp
                omega
            exact S.trans h1
          refine ⟨_, _, _, ?_, hS⟩
          rw [hlen]
          refine ⟨_, ho, hd, .inl ?_⟩
          have ea : args = #[xo, yo] := by rw [← hargs]
          have et : argTypes = #[t1, t2] := by rw [← hts]
          subst ea et
          unfold execOp
          simp [hop, resolve, invoke, builtin, hx, hy, hr, Result.andThen]
        · cases h
      · cases h
    · cases h
  · cases h

/-- a slice of the call's own cut short -/
theorem Sep.cut {α : Type} {enc : α → List Value} {w0 w : World} {L : List Claim} (S : Sep w0 L w) (j : Nat) {a : Option Addr} {cap : Nat} {e : TypeId} {size : Nat} {l : List α} (hj : L[j]? = some (rowOf enc a cap e size l)) (hs : ∀ x, (enc x).length = size) (r : Nat) (hr : r ≤ l.length) :
    Sep w0 (L.set j (rowOf enc a cap e size (l.take r))) w := by
  have hown : w.ownsRow 0 e size (.slice a l.length cap) l.length (l.flatMap enc) := S.nth j hj
  have hlen : ∀ zs : List α, (zs.flatMap enc).length = zs.length * size := by
    intro zs
    induction zs with
    | nil => simp
    | cons y zs ih => simp [List.flatMap_cons, ih, hs, Nat.add_mul]; omega
  have hl : (l.take r).length = r := by rw [List.length_take]; omega
  refine S.set j hj (fun b hb => .inl ?_) rfl rfl rfl (Nat.le_refl _) (fun _ _ _ => rfl) ?_
  · have hb' : Value.ownBlock (.slice a (l.take r).length cap) = some b := hb
    show Value.ownBlock (.slice a l.length cap) = some b
    cases a with
    | none => simp [Value.ownBlock] at hb'
    | some p => simpa [Value.ownBlock] using hb'
  · show w.ownsRow 0 e size (.slice a (l.take r).length cap) (l.take r).length ((l.take r).flatMap enc)
    rw [hl]
    refine ⟨by rw [hlen, hl], ?_⟩
    rcases hown.2 with ⟨h1, h2⟩ | ⟨g, cap', cur, h3, h4, h5, h6, h7, h8, h9⟩
    · left
      simp only [Value.slice.injEq] at h1
      obtain ⟨rfl, h10, rfl⟩ := h1
      have : r = 0 := by omega
      subst this
      exact ⟨rfl, by simp⟩
    · right
      simp only [Value.slice.injEq] at h3
      obtain ⟨rfl, _, rfl⟩ := h3
      refine ⟨g, cap, cur, rfl, h4, h5, by omega, h7, h8, ?_⟩
      have hsplit : l.flatMap enc = (l.take r).flatMap enc ++ (l.drop r).flatMap enc := by rw [← List.flatMap_append, List.take_append_drop]
      have h10 : r * size ≤ l.length * size := Nat.mul_le_mul_right _ hr
      have : cur.toList.take (r * size) = (cur.toList.take (l.length * size)).take (r * size) := by rw [List.take_take, Nat.min_eq_left h10]
      rw [this, h9, hsplit, List.take_append_of_le_length (by rw [hlen, hl]; exact Nat.le_refl _), List.take_of_length_le (by rw [hlen, hl]; exact Nat.le_refl _)]

/-- the first claim, put back where it stood -/
theorem Sep.back {w0 w : World} {c : Claim} {L : List Claim} (S : Sep w0 (c :: L) w) (j : Nat) : Sep w0 (L.take j ++ c :: L.drop j) w := by
  have hp : (L.take j ++ c :: L.drop j).Perm (c :: L) := by
    have := List.perm_middle (a := c) (l₁ := L.take j) (l₂ := L.drop j)
    rwa [List.take_append_drop] at this
  refine ⟨S.below, fun d hd => S.all d (hp.mem_iff.1 hd), fun d hd => S.fresh d (hp.mem_iff.1 hd), ?_⟩
  exact hp.symm.pairwise S.apart fun h b hb hb' => h b hb' hb

theorem Sep.two {w0 w : World} {L : List Claim} (S : Sep w0 L w) (i j : Nat) {c d : Claim} (hi : L[i]? = some c) (hj : (c :: L.eraseIdx i)[j]? = some d) (hne : j ≠ 0) : Sep w0 [d, c] w := by
  have S2 := (S.front i hi).front j hj
  cases j with
  | zero => exact absurd rfl hne
  | succ j =>
    rw [List.eraseIdx_cons_succ] at S2
    exact S2.sub (List.Sublist.cons_cons _ (List.Sublist.cons_cons _ (List.nil_sublist _)))

/-! The operations that write, in every mode -/

theorem J.newSlice {w0 w : World} {L : List Claim} (S : Sep w0 L w) (d n : Nat) (cs : List Value) (T : TypeId) {K : List Item} {env : Env}
    (h : opRun P N K env w = some (some d, .ok (.value (.slice (some ⟨w.heap.size, 0, none⟩) n n)) (w.alloc (.cells cs.toArray T))))
    (k : ∀ b w', Sep w0 (box b cs T :: L) w' → J P f N R (popK K) ((d, .slice (some ⟨b, 0, none⟩) n n) :: env) w') : J P f N R K env w := by
  obtain ⟨o, ho, hd, hr⟩ := opRun_spec h
  exact J.ok ⟨o, ho, hd, .inl hr⟩ (k _ _ (S.alloc cs T))

theorem J.append {α : Type} (enc : α → List Value) {w0 w : World} {L : List Claim} (S : Sep w0 L w) (j : Nat) {a : Option Addr} {cap : Nat} {e : TypeId} {size : Nat} (l : List α) (x : α) {K : List Item} {env : Env} (d : Nat) (t : TypeId) (z : Value) (bytes : Nat) (ad : Addr) (c : Nat)
    (hj : L[j]? = some (rowOf enc a cap e size l)) (h : appAt N K env = some (some d, t, .slice a l.length cap, .slice (some ad) 1 c)) (ht : P.underlying t = some (.slice e))
    (hinfo : (P.info? e).map (fun i => (i.zero, i.size, i.bytes)) = some (some z, size, bytes)) (hzs : z.cells.size = size) (hsz : 0 < size)
    (hnews : Cells w (some ad) (enc x)) (hl : (enc x).length = size) (h1 : (enc x).all (·.oneCell') = true) (hb : (l.length + 1) * bytes ≤ 140737488355328 ∧ l.length < 140737488355328)
    (k : ∀ a' cap' w', Sep w0 (L.set j (rowOf enc a' cap' e size (l ++ [x]))) w' → J P f N R (popK K) ((d, .slice a' (l ++ [x]).length cap') :: env) w') : J P f N R K env w := by
  obtain ⟨a', cap', w', hok, hS⟩ := OK.append enc S j l x d t z bytes ad c hj h ht hinfo hzs hsz hnews hl h1 hb
  exact J.ok hok (k a' cap' w' hS)

theorem J.appendN {α : Type} (enc : α → List Value) {w0 w : World} {L : List Claim} (S : Sep w0 L w) (j : Nat) {a : Option Addr} {cap : Nat} {e : TypeId} {size : Nat} (l ys : List α) (n : Nat) (hn : ys.length = n) {K : List Item} {env : Env} (d : Nat) (t : TypeId) (z : Value) (bytes : Nat) (x : Option Addr) (c : Nat)
    (hj : L[j]? = some (rowOf enc a cap e size l)) (h : appAt N K env = some (some d, t, .slice a l.length cap, .slice x n c)) (ht : P.underlying t = some (.slice e))
    (hinfo : (P.info? e).map (fun i => (i.zero, i.size, i.bytes)) = some (some z, size, bytes)) (hzs : z.cells.size = size) (hsz : 0 < size)
    (hnews : Cells w x (ys.flatMap enc)) (hx : x = none → ys = []) (hl : ∀ y, (enc y).length = size) (h1 : ∀ y, (enc y).all (·.oneCell') = true) (hb : (l.length + ys.length) * bytes ≤ 140737488355328 ∧ l.length + ys.length ≤ 140737488355328)
    (k : ∀ a' cap' w', Sep w0 (L.set j (rowOf enc a' cap' e size (l ++ ys))) w' → J P f N R (popK K) ((d, .slice a' (l ++ ys).length cap') :: env) w') : J P f N R K env w := by
  subst hn
  obtain ⟨a', cap', w', hok, hS⟩ := OK.appendL enc S j l ys d t z bytes x c hj h ht hinfo hzs hsz hnews hx hl h1 hb
  exact J.ok hok (k a' cap' w' hS)

theorem J.make {α : Type} (enc : α → List Value) (x0 : α) {w0 w : World} {L : List Claim} (S : Sep w0 L w) {K : List Item} {env : Env} (d : Nat) (t e : TypeId) (size : Nat) (ii jj : Int) (n : Nat) (z : Value) (bytes : Nat) (h : mkAt N K env = some (some d, t, ii, jj)) (hn : ii = n) (hm : jj = n) (ht : P.underlying t = some (.slice e))
    (hinfo : (P.info? e).map (fun i => (i.zero, i.size, i.bytes)) = some (some z, size, bytes)) (hzs : z.cells.size = size) (hz : z.cells.toList = enc x0) (hb : bytes * n ≤ 281474976710656 ∧ n ≤ 9223372036854775807)
    (k : ∀ b w', Sep w0 (rowOf enc (some ⟨b, 0, none⟩) n e size (List.replicate n x0) :: L) w' → J P f N R (popK K) ((d, .slice (some ⟨b, 0, none⟩) (List.replicate n x0).length n) :: env) w') : J P f N R K env w := by
  obtain ⟨b, w', hok, hS⟩ := OK.make enc x0 S d t e size ii jj n z bytes h hn hm ht hinfo hzs hz hb
  exact J.ok hok (k b w' hS)

theorem J.appz {α : Type} (enc : α → List Value) (x0 : α) {w0 w : World} {L : List Claim} (S : Sep w0 L w) {K : List Item} {env : Env} (d : Nat) (t t' e : TypeId) (size : Nat) (kk kn : IntKind) (ii : Int) (n : Nat) (z : Value) (bytes : Nat) (h : appzAt P N K env = some (some d, t, t', kk, ii)) (hn : ii = n) (h0 : 0 < n) (ht : P.underlying t = some (.slice e)) (ht' : P.underlying t' = some (.int kn))
    (hinfo : (P.info? e).map (fun i => (i.zero, i.size, i.bytes)) = some (some z, size, bytes)) (hzs : z.cells.size = size) (hsz : 0 < size) (hz : z.cells.toList = enc x0) (hb : n * bytes ≤ 140737488355328 ∧ n ≤ 140737488355328)
    (k : ∀ b cap w', Sep w0 (rowOf enc (some ⟨b, 0, none⟩) cap e size (List.replicate n x0) :: L) w' → J P f N R (popK K) ((d, .slice (some ⟨b, 0, none⟩) (List.replicate n x0).length cap) :: env) w') : J P f N R K env w := by
  obtain ⟨b, cap, w', hok, hS⟩ := OK.appz enc x0 S d t t' e size kk kn ii n z bytes h hn h0 ht ht' hinfo hzs hsz hz hb
  exact J.ok hok (k b cap w' hS)

theorem TL.newSlice {w0 w : World} {L : List Claim} (S : Sep w0 L w) (d n : Nat) (cs : List Value) (T : TypeId) {K : List Item} {q : Nat} {env : Env}
    (h : opRun P N (rItem (rOps K) q) env w = some (some d, .ok (.value (.slice (some ⟨w.heap.size, 0, none⟩) n n)) (w.alloc (.cells cs.toArray T))))
    (k : ∀ b w', Sep w0 (box b cs T :: L) w' → TL P f N R K (q + 1) ((d, .slice (some ⟨b, 0, none⟩) n n) :: env) w') : TL P f N R K q env w := by
  obtain ⟨o, ho, hd, hr⟩ := opRun_spec h
  exact TL.ok ⟨o, ho, hd, .inl hr⟩ (k _ _ (S.alloc cs T))

theorem TL.append {α : Type} (enc : α → List Value) {w0 w : World} {L : List Claim} (S : Sep w0 L w) (j : Nat) {a : Option Addr} {cap : Nat} {e : TypeId} {size : Nat} (l : List α) (x : α) {K : List Item} {q : Nat} {env : Env} (d : Nat) (t : TypeId) (z : Value) (bytes : Nat) (ad : Addr) (c : Nat)
    (hj : L[j]? = some (rowOf enc a cap e size l)) (h : appAt N (rItem (rOps K) q) env = some (some d, t, .slice a l.length cap, .slice (some ad) 1 c)) (ht : P.underlying t = some (.slice e))
    (hinfo : (P.info? e).map (fun i => (i.zero, i.size, i.bytes)) = some (some z, size, bytes)) (hzs : z.cells.size = size) (hsz : 0 < size)
    (hnews : Cells w (some ad) (enc x)) (hl : (enc x).length = size) (h1 : (enc x).all (·.oneCell') = true) (hb : (l.length + 1) * bytes ≤ 140737488355328 ∧ l.length < 140737488355328)
    (k : ∀ a' cap' w', Sep w0 (L.set j (rowOf enc a' cap' e size (l ++ [x]))) w' → TL P f N R K (q + 1) ((d, .slice a' (l ++ [x]).length cap') :: env) w') : TL P f N R K q env w := by
  obtain ⟨a', cap', w', hok, hS⟩ := OK.append enc S j l x d t z bytes ad c hj h ht hinfo hzs hsz hnews hl h1 hb
  exact TL.ok hok (k a' cap' w' hS)

theorem TL.appendN {α : Type} (enc : α → List Value) {w0 w : World} {L : List Claim} (S : Sep w0 L w) (j : Nat) {a : Option Addr} {cap : Nat} {e : TypeId} {size : Nat} (l ys : List α) (n : Nat) (hn : ys.length = n) {K : List Item} {q : Nat} {env : Env} (d : Nat) (t : TypeId) (z : Value) (bytes : Nat) (x : Option Addr) (c : Nat)
    (hj : L[j]? = some (rowOf enc a cap e size l)) (h : appAt N (rItem (rOps K) q) env = some (some d, t, .slice a l.length cap, .slice x n c)) (ht : P.underlying t = some (.slice e))
    (hinfo : (P.info? e).map (fun i => (i.zero, i.size, i.bytes)) = some (some z, size, bytes)) (hzs : z.cells.size = size) (hsz : 0 < size)
    (hnews : Cells w x (ys.flatMap enc)) (hx : x = none → ys = []) (hl : ∀ y, (enc y).length = size) (h1 : ∀ y, (enc y).all (·.oneCell') = true) (hb : (l.length + ys.length) * bytes ≤ 140737488355328 ∧ l.length + ys.length ≤ 140737488355328)
    (k : ∀ a' cap' w', Sep w0 (L.set j (rowOf enc a' cap' e size (l ++ ys))) w' → TL P f N R K (q + 1) ((d, .slice a' (l ++ ys).length cap') :: env) w') : TL P f N R K q env w := by
  subst hn
  obtain ⟨a', cap', w', hok, hS⟩ := OK.appendL enc S j l ys d t z bytes x c hj h ht hinfo hzs hsz hnews hx hl h1 hb
  exact TL.ok hok (k a' cap' w' hS)

theorem TL.make {α : Type} (enc : α → List Value) (x0 : α) {w0 w : World} {L : List Claim} (S : Sep w0 L w) {K : List Item} {q : Nat} {env : Env} (d : Nat) (t e : TypeId) (size : Nat) (ii jj : Int) (n : Nat) (z : Value) (bytes : Nat) (h : mkAt N (rItem (rOps K) q) env = some (some d, t, ii, jj)) (hn : ii = n) (hm : jj = n) (ht : P.underlying t = some (.slice e))
    (hinfo : (P.info? e).map (fun i => (i.zero, i.size, i.bytes)) = some (some z, size, bytes)) (hzs : z.cells.size = size) (hz : z.cells.toList = enc x0) (hb : bytes * n ≤ 281474976710656 ∧ n ≤ 9223372036854775807)
    (k : ∀ b w', Sep w0 (rowOf enc (some ⟨b, 0, none⟩) n e size (List.replicate n x0) :: L) w' → TL P f N R K (q + 1) ((d, .slice (some ⟨b, 0, none⟩) (List.replicate n x0).length n) :: env) w') : TL P f N R K q env w := by
  obtain ⟨b, w', hok, hS⟩ := OK.make enc x0 S d t e size ii jj n z bytes h hn hm ht hinfo hzs hz hb
  exact TL.ok hok (k b w' hS)

theorem TL.appz {α : Type} (enc : α → List Value) (x0 : α) {w0 w : World} {L : List Claim} (S : Sep w0 L w) {K : List Item} {q : Nat} {env : Env} (d : Nat) (t t' e : TypeId) (size : Nat) (kk kn : IntKind) (ii : Int) (n : Nat) (z : Value) (bytes : Nat) (h : appzAt P N (rItem (rOps K) q) env = some (some d, t, t', kk, ii)) (hn : ii = n) (h0 : 0 < n) (ht : P.underlying t = some (.slice e)) (ht' : P.underlying t' = some (.int kn))
    (hinfo : (P.info? e).map (fun i => (i.zero, i.size, i.bytes)) = some (some z, size, bytes)) (hzs : z.cells.size = size) (hsz : 0 < size) (hz : z.cells.toList = enc x0) (hb : n * bytes ≤ 140737488355328 ∧ n ≤ 140737488355328)
    (k : ∀ b cap w', Sep w0 (rowOf enc (some ⟨b, 0, none⟩) cap e size (List.replicate n x0) :: L) w' → TL P f N R K (q + 1) ((d, .slice (some ⟨b, 0, none⟩) (List.replicate n x0).length cap) :: env) w') : TL P f N R K q env w := by
  obtain ⟨b, cap, w', hok, hS⟩ := OK.appz enc x0 S d t t' e size kk kn ii n z bytes h hn h0 ht ht' hinfo hzs hsz hz hb
  exact TL.ok hok (k b cap w' hS)

theorem WO.newSlice {w0 w : World} {L : List Claim} (S : Sep w0 L w) (d n : Nat) (cs : List Value) (T : TypeId) {K : List Item} {H : World → Prop} {fuel : Nat} {ar : Array Bool} {q : Nat} {env : Env}
    (h : opRun P N (rItem (rOps K) q) env w = some (some d, .ok (.value (.slice (some ⟨w.heap.size, 0, none⟩) n n)) (w.alloc (.cells cs.toArray T))))
    (k : ∀ b w', Sep w0 (box b cs T :: L) w' → WB P f N R K H fuel ar ((d, .slice (some ⟨b, 0, none⟩) n n) :: env) w') : WO P f N R K H fuel ar q env w := by
  obtain ⟨o, ho, hd, hr⟩ := opRun_spec h
  exact WO.ok ⟨o, ho, hd, .inl hr⟩ (k _ _ (S.alloc cs T))

theorem WO.append {α : Type} (enc : α → List Value) {w0 w : World} {L : List Claim} (S : Sep w0 L w) (j : Nat) {a : Option Addr} {cap : Nat} {e : TypeId} {size : Nat} (l : List α) (x : α) {K : List Item} {H : World → Prop} {fuel : Nat} {ar : Array Bool} {q : Nat} {env : Env} (d : Nat) (t : TypeId) (z : Value) (bytes : Nat) (ad : Addr) (c : Nat)
    (hj : L[j]? = some (rowOf enc a cap e size l)) (h : appAt N (rItem (rOps K) q) env = some (some d, t, .slice a l.length cap, .slice (some ad) 1 c)) (ht : P.underlying t = some (.slice e))
    (hinfo : (P.info? e).map (fun i => (i.zero, i.size, i.bytes)) = some (some z, size, bytes)) (hzs : z.cells.size = size) (hsz : 0 < size)
    (hnews : Cells w (some ad) (enc x)) (hl : (enc x).length = size) (h1 : (enc x).all (·.oneCell') = true) (hb : (l.length + 1) * bytes ≤ 140737488355328 ∧ l.length < 140737488355328)
    (k : ∀ a' cap' w', Sep w0 (L.set j (rowOf enc a' cap' e size (l ++ [x]))) w' → WB P f N R K H fuel ar ((d, .slice a' (l ++ [x]).length cap') :: env) w') : WO P f N R K H fuel ar q env w := by
  obtain ⟨a', cap', w', hok, hS⟩ := OK.append enc S j l x d t z bytes ad c hj h ht hinfo hzs hsz hnews hl h1 hb
  exact WO.ok hok (k a' cap' w' hS)

theorem WO.appendN {α : Type} (enc : α → List Value) {w0 w : World} {L : List Claim} (S : Sep w0 L w) (j : Nat) {a : Option Addr} {cap : Nat} {e : TypeId} {size : Nat} (l ys : List α) (n : Nat) (hn : ys.length = n) {K : List Item} {H : World → Prop} {fuel : Nat} {ar : Array Bool} {q : Nat} {env : Env} (d : Nat) (t : TypeId) (z : Value) (bytes : Nat) (x : Option Addr) (c : Nat)
    (hj : L[j]? = some (rowOf enc a cap e size l)) (h : appAt N (rItem (rOps K) q) env = some (some d, t, .slice a l.length cap, .slice x n c)) (ht : P.underlying t = some (.slice e))
    (hinfo : (P.info? e).map (fun i => (i.zero, i.size, i.bytes)) = some (some z, size, bytes)) (hzs : z.cells.size = size) (hsz : 0 < size)
    (hnews : Cells w x (ys.flatMap enc)) (hx : x = none → ys = []) (hl : ∀ y, (enc y).length = size) (h1 : ∀ y, (enc y).all (·.oneCell') = true) (hb : (l.length + ys.length) * bytes ≤ 140737488355328 ∧ l.length + ys.length ≤ 140737488355328)
    (k : ∀ a' cap' w', Sep w0 (L.set j (rowOf enc a' cap' e size (l ++ ys))) w' → WB P f N R K H fuel ar ((d, .slice a' (l ++ ys).length cap') :: env) w') : WO P f N R K H fuel ar q env w := by
  subst hn
  obtain ⟨a', cap', w', hok, hS⟩ := OK.appendL enc S j l ys d t z bytes x c hj h ht hinfo hzs hsz hnews hx hl h1 hb
  exact WO.ok hok (k a' cap' w' hS)

theorem WO.make {α : Type} (enc : α → List Value) (x0 : α) {w0 w : World} {L : List Claim} (S : Sep w0 L w) {K : List Item} {H : World → Prop} {fuel : Nat} {ar : Array Bool} {q : Nat} {env : Env} (d : Nat) (t e : TypeId) (size : Nat) (ii jj : Int) (n : Nat) (z : Value) (bytes : Nat) (h : mkAt N (rItem (rOps K) q) env = some (some d, t, ii, jj)) (hn : ii = n) (hm : jj = n) (ht : P.underlying t = some (.slice e))
    (hinfo : (P.info? e).map (fun i => (i.zero, i.size, i.bytes)) = some (some z, size, bytes)) (hzs : z.cells.size = size) (hz : z.cells.toList = enc x0) (hb : bytes * n ≤ 281474976710656 ∧ n ≤ 9223372036854775807)
    (k : ∀ b w', Sep w0 (rowOf enc (some ⟨b, 0, none⟩) n e size (List.replicate n x0) :: L) w' → WB P f N R K H fuel ar ((d, .slice (some ⟨b, 0, none⟩) (List.replicate n x0).length n) :: env) w') : WO P f N R K H fuel ar q env w := by
  obtain ⟨b, w', hok, hS⟩ := OK.make enc x0 S d t e size ii jj n z bytes h hn hm ht hinfo hzs hz hb
  exact WO.ok hok (k b w' hS)

theorem WO.appz {α : Type} (enc : α → List Value) (x0 : α) {w0 w : World} {L : List Claim} (S : Sep w0 L w) {K : List Item} {H : World → Prop} {fuel : Nat} {ar : Array Bool} {q : Nat} {env : Env} (d : Nat) (t t' e : TypeId) (size : Nat) (kk kn : IntKind) (ii : Int) (n : Nat) (z : Value) (bytes : Nat) (h : appzAt P N (rItem (rOps K) q) env = some (some d, t, t', kk, ii)) (hn : ii = n) (h0 : 0 < n) (ht : P.underlying t = some (.slice e)) (ht' : P.underlying t' = some (.int kn))
    (hinfo : (P.info? e).map (fun i => (i.zero, i.size, i.bytes)) = some (some z, size, bytes)) (hzs : z.cells.size = size) (hsz : 0 < size) (hz : z.cells.toList = enc x0) (hb : n * bytes ≤ 140737488355328 ∧ n ≤ 140737488355328)
    (k : ∀ b cap w', Sep w0 (rowOf enc (some ⟨b, 0, none⟩) cap e size (List.replicate n x0) :: L) w' → WB P f N R K H fuel ar ((d, .slice (some ⟨b, 0, none⟩) (List.replicate n x0).length cap) :: env) w') : WO P f N R K H fuel ar q env w := by
  obtain ⟨b, cap, w', hok, hS⟩ := OK.appz enc x0 S d t t' e size kk kn ii n z bytes h hn h0 ht ht' hinfo hzs hsz hz hb
  exact WO.ok hok (k b cap w' hS)

theorem PL.newSlice {w0 w : World} {L : List Claim} (S : Sep w0 L w) (d n : Nat) (cs : List Value) (T : TypeId) {K : List Item} {H : World → Prop} {plan : List (Nat × Bool)} {q : Nat} {env : Env}
    (h : opRun P N (rItem (rOps K) q) env w = some (some d, .ok (.value (.slice (some ⟨w.heap.size, 0, none⟩) n n)) (w.alloc (.cells cs.toArray T))))
    (k : ∀ b w', Sep w0 (box b cs T :: L) w' → PB P f N R K H plan ((d, .slice (some ⟨b, 0, none⟩) n n) :: env) w') : PL P f N R K H ((q, false) :: plan) env w := by
  obtain ⟨o, ho, hd, hr⟩ := opRun_spec h
  exact PL.ok ⟨o, ho, hd, .inl hr⟩ (k _ _ (S.alloc cs T))

theorem PL.append {α : Type} (enc : α → List Value) {w0 w : World} {L : List Claim} (S : Sep w0 L w) (j : Nat) {a : Option Addr} {cap : Nat} {e : TypeId} {size : Nat} (l : List α) (x : α) {K : List Item} {H : World → Prop} {plan : List (Nat × Bool)} {q : Nat} {env : Env} (d : Nat) (t : TypeId) (z : Value) (bytes : Nat) (ad : Addr) (c : Nat)
    (hj : L[j]? = some (rowOf enc a cap e size l)) (h : appAt N (rItem (rOps K) q) env = some (some d, t, .slice a l.length cap, .slice (some ad) 1 c)) (ht : P.underlying t = some (.slice e))
    (hinfo : (P.info? e).map (fun i => (i.zero, i.size, i.bytes)) = some (some z, size, bytes)) (hzs : z.cells.size = size) (hsz : 0 < size)
    (hnews : Cells w (some ad) (enc x)) (hl : (enc x).length = size) (h1 : (enc x).all (·.oneCell') = true) (hb : (l.length + 1) * bytes ≤ 140737488355328 ∧ l.length < 140737488355328)
    (k : ∀ a' cap' w', Sep w0 (L.set j (rowOf enc a' cap' e size (l ++ [x]))) w' → PB P f N R K H plan ((d, .slice a' (l ++ [x]).length cap') :: env) w') : PL P f N R K H ((q, false) :: plan) env w := by
  obtain ⟨a', cap', w', hok, hS⟩ := OK.append enc S j l x d t z bytes ad c hj h ht hinfo hzs hsz hnews hl h1 hb
  exact PL.ok hok (k a' cap' w' hS)

theorem PL.appendN {α : Type} (enc : α → List Value) {w0 w : World} {L : List Claim} (S : Sep w0 L w) (j : Nat) {a : Option Addr} {cap : Nat} {e : TypeId} {size : Nat} (l ys : List α) (n : Nat) (hn : ys.length = n) {K : List Item} {H : World → Prop} {plan : List (Nat × Bool)} {q : Nat} {env : Env} (d : Nat) (t : TypeId) (z : Value) (bytes : Nat) (x : Option Addr) (c : Nat)
    (hj : L[j]? = some (rowOf enc a cap e size l)) (h : appAt N (rItem (rOps K) q) env = some (some d, t, .slice a l.length cap, .slice x n c)) (ht : P.underlying t = some (.slice e))
    (hinfo : (P.info? e).map (fun i => (i.zero, i.size, i.bytes)) = some (some z, size, bytes)) (hzs : z.cells.size = size) (hsz : 0 < size)
    (hnews : Cells w x (ys.flatMap enc)) (hx : x = none → ys = []) (hl : ∀ y, (enc y).length = size) (h1 : ∀ y, (enc y).all (·.oneCell') = true) (hb : (l.length + ys.length) * bytes ≤ 140737488355328 ∧ l.length + ys.length ≤ 140737488355328)
    (k : ∀ a' cap' w', Sep w0 (L.set j (rowOf enc a' cap' e size (l ++ ys))) w' → PB P f N R K H plan ((d, .slice a' (l ++ ys).length cap') :: env) w') : PL P f N R K H ((q, false) :: plan) env w := by
  subst hn
  obtain ⟨a', cap', w', hok, hS⟩ := OK.appendL enc S j l ys d t z bytes x c hj h ht hinfo hzs hsz hnews hx hl h1 hb
  exact PL.ok hok (k a' cap' w' hS)

theorem PL.make {α : Type} (enc : α → List Value) (x0 : α) {w0 w : World} {L : List Claim} (S : Sep w0 L w) {K : List Item} {H : World → Prop} {plan : List (Nat × Bool)} {q : Nat} {env : Env} (d : Nat) (t e : TypeId) (size : Nat) (ii jj : Int) (n : Nat) (z : Value) (bytes : Nat) (h : mkAt N (rItem (rOps K) q) env = some (some d, t, ii, jj)) (hn : ii = n) (hm : jj = n) (ht : P.underlying t = some (.slice e))
    (hinfo : (P.info? e).map (fun i => (i.zero, i.size, i.bytes)) = some (some z, size, bytes)) (hzs : z.cells.size = size) (hz : z.cells.toList = enc x0) (hb : bytes * n ≤ 281474976710656 ∧ n ≤ 9223372036854775807)
    (k : ∀ b w', Sep w0 (rowOf enc (some ⟨b, 0, none⟩) n e size (List.replicate n x0) :: L) w' → PB P f N R K H plan ((d, .slice (some ⟨b, 0, none⟩) (List.replicate n x0).length n) :: env) w') : PL P f N R K H ((q, false) :: plan) env w := by
  obtain ⟨b, w', hok, hS⟩ := OK.make enc x0 S d t e size ii jj n z bytes h hn hm ht hinfo hzs hz hb
  exact PL.ok hok (k b w' hS)

theorem PL.appz {α : Type} (enc : α → List Value) (x0 : α) {w0 w : World} {L : List Claim} (S : Sep w0 L w) {K : List Item} {H : World → Prop} {plan : List (Nat × Bool)} {q : Nat} {env : Env} (d : Nat) (t t' e : TypeId) (size : Nat) (kk kn : IntKind) (ii : Int) (n : Nat) (z : Value) (bytes : Nat) (h : appzAt P N (rItem (rOps K) q) env = some (some d, t, t', kk, ii)) (hn : ii = n) (h0 : 0 < n) (ht : P.underlying t = some (.slice e)) (ht' : P.underlying t' = some (.int kn))
    (hinfo : (P.info? e).map (fun i => (i.zero, i.size, i.bytes)) = some (some z, size, bytes)) (hzs : z.cells.size = size) (hsz : 0 < size) (hz : z.cells.toList = enc x0) (hb : n * bytes ≤ 140737488355328 ∧ n ≤ 140737488355328)
    (k : ∀ b cap w', Sep w0 (rowOf enc (some ⟨b, 0, none⟩) cap e size (List.replicate n x0) :: L) w' → PB P f N R K H plan ((d, .slice (some ⟨b, 0, none⟩) (List.replicate n x0).length cap) :: env) w') : PL P f N R K H ((q, false) :: plan) env w := by
  obtain ⟨b, cap, w', hok, hS⟩ := OK.appz enc x0 S d t t' e size kk kn ii n z bytes h hn h0 ht ht' hinfo hzs hsz hz hb
  exact PL.ok hok (k b cap w' hS)

end Go.Eng

