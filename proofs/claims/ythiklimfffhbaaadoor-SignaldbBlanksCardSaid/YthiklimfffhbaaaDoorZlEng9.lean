/- The proof engine, ninth part: slices that are made, slices compared with nil, an append of a slice that reads as a list. Conditions: none; it is generic in the program. -/
import Derived.Test.YthiklimfffhbaaaDoorZlEng8
import Derived.Laws.OwnMore
import Derived.Lib.AppendZeros
namespace Go.Eng
set_option linter.unusedSimpArgs false
set_option linter.unusedVariables false
open Go.RowKit
variable {P : Program} {f : FuncId} {N : Nat} {R : Value → World → Prop}

theorem Ones.nil {α : Type} {g : α → Value} {w : World} {len : Nat} {l : List α} (h : Ones g w none len l) : l = [] := by
  cases l with
  | nil => rfl
  | cons x l =>
    obtain ⟨p, hp, _⟩ := h.cells 0 (g x) (by simp)
    cases hp

theorem Ones.enc {α : Type} {g : α → Value} {w : World} {a : Option Addr} {len : Nat} {l : List α} (h : Ones g w a len l) : Cells w a (l.flatMap (enc1 g)) := by
  rw [flatMap_enc1]; exact h.cells

/-- a slice of the call's own cut short -/
theorem Sep.cut {α : Type} {enc : α → List Value} {w0 w : World} {L : List Claim} (S : Sep w0 L w) (j : Nat) {a : Option Addr} {cap : Nat} {e : TypeId} {size : Nat} {l : List α} (hj : L[j]? = some (rowOf enc a cap e size l)) (hs : ∀ x, (enc x).length = size) (r : Nat) (hr : r ≤ l.length) :
    Sep w0 (L.set j (rowOf enc a cap e size (l.take r))) w := by
  have hown : w.ownsRow 0 e size (.slice a l.length cap) l.length (l.flatMap enc) := S.nth j hj
  have hlen : ∀ zs : List α, (zs.flatMap enc).length = zs.length * size := by
    intro zs
    induction zs with
    | nil => simp
    | cons y zs ih => simp [List.flatMap_cons, ih, hs, Nat.add_mul]; omega
  have hl : (l.take r).length = r := by rw [List.length_take]; omega
  refine S.set j hj (fun b hb => .inl ?_) rfl rfl rfl (Nat.le_refl _) (fun _ _ _ => rfl) ?_
  · have hb' : Value.ownBlock (.slice a (l.take r).length cap) = some b := hb
    show Value.ownBlock (.slice a l.length cap) = some b
    cases a with
    | none => simp [Value.ownBlock] at hb'
    | some p => simpa [Value.ownBlock] using hb'
  · show w.ownsRow 0 e size (.slice a (l.take r).length cap) (l.take r).length ((l.take r).flatMap enc)
    rw [hl]
    refine ⟨by rw [hlen, hl], ?_⟩
    rcases hown.2 with ⟨h1, h2⟩ | ⟨g, cap', cur, h3, h4, h5, h6, h7, h8, h9⟩
    · left
      simp only [Value.slice.injEq] at h1
      obtain ⟨rfl, h10, rfl⟩ := h1
      have : r = 0 := by omega
      subst this
      exact ⟨rfl, by simp⟩
    · right
      simp only [Value.slice.injEq] at h3
      obtain ⟨rfl, _, rfl⟩ := h3
      refine ⟨g, cap, cur, rfl, h4, h5, by omega, h7, h8, ?_⟩
      have hsplit : l.flatMap enc = (l.take r).flatMap enc ++ (l.drop r).flatMap enc := by rw [← List.flatMap_append, List.take_append_drop]
      have h10 : r * size ≤ l.length * size := Nat.mul_le_mul_right _ hr
      have : cur.toList.take (r * size) = (cur.toList.take (l.length * size)).take (r * size) := by rw [List.take_take, Nat.min_eq_left h10]
      rw [this, h9, hsplit, List.take_append_of_le_length (by rw [hlen, hl]; exact Nat.le_refl _), List.take_of_length_le (by rw [hlen, hl]; exact Nat.le_refl _)]

/-- the first claim, put back where it stood -/
theorem Sep.back {w0 w : World} {c : Claim} {L : List Claim} (S : Sep w0 (c :: L) w) (j : Nat) : Sep w0 (L.take j ++ c :: L.drop j) w := by
  have hp : (L.take j ++ c :: L.drop j).Perm (c :: L) := by
    have := List.perm_middle (a := c) (l₁ := L.take j) (l₂ := L.drop j)
    rwa [List.take_append_drop] at this
  refine ⟨S.below, fun d hd => S.all d (hp.mem_iff.1 hd), fun d hd => S.fresh d (hp.mem_iff.1 hd), ?_⟩
  exact hp.symm.pairwise S.apart fun h b hb hb' => h b hb' hb

theorem Sep.two {w0 w : World} {L : List Claim} (S : Sep w0 L w) (i j : Nat) {c d : Claim} (hi : L[i]? = some c) (hj : (c :: L.eraseIdx i)[j]? = some d) (hne : j ≠ 0) : Sep w0 [d, c] w := by
  have S2 := (S.front i hi).front j hj
  cases j with
  | zero => exact absurd rfl hne
  | succ j =>
    rw [List.eraseIdx_cons_succ] at S2
    exact S2.sub (List.Sublist.cons_cons _ (List.Sublist.cons_cons _ (List.nil_sublist _)))

/-! The operations that write, in every mode -/

theorem J.newSlice {w0 w : World} {L : List Claim} (S : Sep w0 L w) (d n : Nat) (cs : List Value) (T : TypeId) {K : List Item} {env : Env}
    (h : opRun P N K env w = some (some d, .ok (.value (.slice (some ⟨w.heap.size, 0, none⟩) n n)) (w.alloc (.cells cs.toArray T))))
    (k : ∀ b w', Sep w0 (box b cs T :: L) w' → J P f N R (popK K) ((d, .slice (some ⟨b, 0, none⟩) n n) :: env) w') : J P f N R K env w := by
  obtain ⟨o, ho, hd, hr⟩ := opRun_spec h
  exact J.ok ⟨o, ho, hd, .inl hr⟩ (k _ _ (S.alloc cs T))

theorem J.append {α : Type} (enc : α → List Value) {w0 w : World} {L : List Claim} (S : Sep w0 L w) (j : Nat) {a : Option Addr} {cap : Nat} {e : TypeId} {size : Nat} (l : List α) (x : α) {K : List Item} {env : Env} (d : Nat) (t : TypeId) (z : Value) (bytes : Nat) (ad : Addr) (c : Nat)
    (hj : L[j]? = some (rowOf enc a cap e size l)) (h : appAt N K env = some (some d, t, .slice a l.length cap, .slice (some ad) 1 c)) (ht : P.underlying t = some (.slice e))
    (hinfo : (P.info? e).map (fun i => (i.zero, i.size, i.bytes)) = some (some z, size, bytes)) (hzs : z.cells.size = size) (hsz : 0 < size)
    (hnews : Cells w (some ad) (enc x)) (hl : (enc x).length = size) (h1 : (enc x).all (·.oneCell') = true) (hb : (l.length + 1) * bytes ≤ 140737488355328 ∧ l.length < 140737488355328)
    (k : ∀ a' cap' w', Sep w0 (L.set j (rowOf enc a' cap' e size (l ++ [x]))) w' → J P f N R (popK K) ((d, .slice a' (l ++ [x]).length cap') :: env) w') : J P f N R K env w := by
  obtain ⟨a', cap', w', hok, hS⟩ := OK.append enc S j l x d t z bytes ad c hj h ht hinfo hzs hsz hnews hl h1 hb
  exact J.ok hok (k a' cap' w' hS)

theorem J.appendN {α : Type} (enc : α → List Value) {w0 w : World} {L : List Claim} (S : Sep w0 L w) (j : Nat) {a : Option Addr} {cap : Nat} {e : TypeId} {size : Nat} (l ys : List α) (n : Nat) (hn : ys.length = n) {K : List Item} {env : Env} (d : Nat) (t : TypeId) (z : Value) (bytes : Nat) (x : Option Addr) (c : Nat)
    (hj : L[j]? = some (rowOf enc a cap e size l)) (h : appAt N K env = some (some d, t, .slice a l.length cap, .slice x n c)) (ht : P.underlying t = some (.slice e))
    (hinfo : (P.info? e).map (fun i => (i.zero, i.size, i.bytes)) = some (some z, size, bytes)) (hzs : z.cells.size = size) (hsz : 0 < size)
    (hnews : Cells w x (ys.flatMap enc)) (hx : x = none → ys = []) (hl : ∀ y, (enc y).length = size) (h1 : ∀ y, (enc y).all (·.oneCell') = true) (hb : (l.length + ys.length) * bytes ≤ 140737488355328 ∧ l.length + ys.length ≤ 140737488355328)
    (k : ∀ a' cap' w', Sep w0 (L.set j (rowOf enc a' cap' e size (l ++ ys))) w' → J P f N R (popK K) ((d, .slice a' (l ++ ys).length cap') :: env) w') : J P f N R K env w := by
  subst hn
  obtain ⟨a', cap', w', hok, hS⟩ := OK.appendL enc S j l ys d t z bytes x c hj h ht hinfo hzs hsz hnews hx hl h1 hb
  exact J.ok hok (k a' cap' w' hS)

theorem J.stRow1 {α : Type} (g : α → Value) (hg1 : ∀ x, (g x).cells = #[g x] ∧ (g x).oneCell' = true) {w0 w : World} {L : List Claim} (S : Sep w0 L w) (j : Nat) {a : Option Addr} {cap : Nat} {e : TypeId} (l : List α) {K : List Item} {env : Env} (t : TypeId) (p : Addr) (i : Nat) (x : α) (hj : L[j]? = some (rowOf (enc1 g) a cap e 1 l))
    (h : stAt N K env = some (none, t, p.add i, g x)) (hp : a = some p) (hi : i < l.length) (ht : (P.info? t).map (·.size) = some 1)
    (k : ∀ w', Sep w0 (L.set j (rowOf (enc1 g) a cap e 1 (l.set i x))) w' → J P f N R (popK K) env w') : J P f N R K env w := by
  obtain ⟨w', hr, hS⟩ := S.setRow1 (P := P) g hg1 j hj i hi x hp ht
  exact J.ok (OK.store w' h hr) (k w' hS)

theorem TL.newSlice {w0 w : World} {L : List Claim} (S : Sep w0 L w) (d n : Nat) (cs : List Value) (T : TypeId) {K : List Item} {q : Nat} {env : Env}
    (h : opRun P N (rItem (rOps K) q) env w = some (some d, .ok (.value (.slice (some ⟨w.heap.size, 0, none⟩) n n)) (w.alloc (.cells cs.toArray T))))
    (k : ∀ b w', Sep w0 (box b cs T :: L) w' → TL P f N R K (q + 1) ((d, .slice (some ⟨b, 0, none⟩) n n) :: env) w') : TL P f N R K q env w := by
  obtain ⟨o, ho, hd, hr⟩ := opRun_spec h
  exact TL.ok ⟨o, ho, hd, .inl hr⟩ (k _ _ (S.alloc cs T))

theorem TL.append {α : Type} (enc : α → List Value) {w0 w : World} {L : List Claim} (S : Sep w0 L w) (j : Nat) {a : Option Addr} {cap : Nat} {e : TypeId} {size : Nat} (l : List α) (x : α) {K : List Item} {q : Nat} {env : Env} (d : Nat) (t : TypeId) (z : Value) (bytes : Nat) (ad : Addr) (c : Nat)
    (hj : L[j]? = some (rowOf enc a cap e size l)) (h : appAt N (rItem (rOps K) q) env = some (some d, t, .slice a l.length cap, .slice (some ad) 1 c)) (ht : P.underlying t = some (.slice e))
    (hinfo : (P.info? e).map (fun i => (i.zero, i.size, i.bytes)) = some (some z, size, bytes)) (hzs : z.cells.size = size) (hsz : 0 < size)
    (hnews : Cells w (some ad) (enc x)) (hl : (enc x).length = size) (h1 : (enc x).all (·.oneCell') = true) (hb : (l.length + 1) * bytes ≤ 140737488355328 ∧ l.length < 140737488355328)
    (k : ∀ a' cap' w', Sep w0 (L.set j (rowOf enc a' cap' e size (l ++ [x]))) w' → TL P f N R K (q + 1) ((d, .slice a' (l ++ [x]).length cap') :: env) w') : TL P f N R K q env w := by
  obtain ⟨a', cap', w', hok, hS⟩ := OK.append enc S j l x d t z bytes ad c hj h ht hinfo hzs hsz hnews hl h1 hb
  exact TL.ok hok (k a' cap' w' hS)

theorem TL.appendN {α : Type} (enc : α → List Value) {w0 w : World} {L : List Claim} (S : Sep w0 L w) (j : Nat) {a : Option Addr} {cap : Nat} {e : TypeId} {size : Nat} (l ys : List α) (n : Nat) (hn : ys.length = n) {K : List Item} {q : Nat} {env : Env} (d : Nat) (t : TypeId) (z : Value) (bytes : Nat) (x : Option Addr) (c : Nat)
    (hj : L[j]? = some (rowOf enc a cap e size l)) (h : appAt N (rItem (rOps K) q) env = some (some d, t, .slice a l.length cap, .slice x n c)) (ht : P.underlying t = some (.slice e))
    (hinfo : (P.info? e).map (fun i => (i.zero, i.size, i.bytes)) = some (some z, size, bytes)) (hzs : z.cells.size = size) (hsz : 0 < size)
    (hnews : Cells w x (ys.flatMap enc)) (hx : x = none → ys = []) (hl : ∀ y, (enc y).length = size) (h1 : ∀ y, (enc y).all (·.oneCell') = true) (hb : (l.length + ys.length) * bytes ≤ 140737488355328 ∧ l.length + ys.length ≤ 140737488355328)
    (k : ∀ a' cap' w', Sep w0 (L.set j (rowOf enc a' cap' e size (l ++ ys))) w' → TL P f N R K (q + 1) ((d, .slice a' (l ++ ys).length cap') :: env) w') : TL P f N R K q env w := by
  subst hn
  obtain ⟨a', cap', w', hok, hS⟩ := OK.appendL enc S j l ys d t z bytes x c hj h ht hinfo hzs hsz hnews hx hl h1 hb
  exact TL.ok hok (k a' cap' w' hS)

theorem TL.stRow1 {α : Type} (g : α → Value) (hg1 : ∀ x, (g x).cells = #[g x] ∧ (g x).oneCell' = true) {w0 w : World} {L : List Claim} (S : Sep w0 L w) (j : Nat) {a : Option Addr} {cap : Nat} {e : TypeId} (l : List α) {K : List Item} {q : Nat} {env : Env} (t : TypeId) (p : Addr) (i : Nat) (x : α) (hj : L[j]? = some (rowOf (enc1 g) a cap e 1 l))
    (h : stAt N (rItem (rOps K) q) env = some (none, t, p.add i, g x)) (hp : a = some p) (hi : i < l.length) (ht : (P.info? t).map (·.size) = some 1)
    (k : ∀ w', Sep w0 (L.set j (rowOf (enc1 g) a cap e 1 (l.set i x))) w' → TL P f N R K (q + 1) env w') : TL P f N R K q env w := by
  obtain ⟨w', hr, hS⟩ := S.setRow1 (P := P) g hg1 j hj i hi x hp ht
  exact TL.ok (OK.store w' h hr) (k w' hS)

theorem WO.newSlice {w0 w : World} {L : List Claim} (S : Sep w0 L w) (d n : Nat) (cs : List Value) (T : TypeId) {K : List Item} {H : World → Prop} {fuel : Nat} {ar : Array Bool} {q : Nat} {env : Env}
    (h : opRun P N (rItem (rOps K) q) env w = some (some d, .ok (.value (.slice (some ⟨w.heap.size, 0, none⟩) n n)) (w.alloc (.cells cs.toArray T))))
    (k : ∀ b w', Sep w0 (box b cs T :: L) w' → WB P f N R K H fuel ar ((d, .slice (some ⟨b, 0, none⟩) n n) :: env) w') : WO P f N R K H fuel ar q env w := by
  obtain ⟨o, ho, hd, hr⟩ := opRun_spec h
  exact WO.ok ⟨o, ho, hd, .inl hr⟩ (k _ _ (S.alloc cs T))

theorem WO.append {α : Type} (enc : α → List Value) {w0 w : World} {L : List Claim} (S : Sep w0 L w) (j : Nat) {a : Option Addr} {cap : Nat} {e : TypeId} {size : Nat} (l : List α) (x : α) {K : List Item} {H : World → Prop} {fuel : Nat} {ar : Array Bool} {q : Nat} {env : Env} (d : Nat) (t : TypeId) (z : Value) (bytes : Nat) (ad : Addr) (c : Nat)
    (hj : L[j]? = some (rowOf enc a cap e size l)) (h : appAt N (rItem (rOps K) q) env = some (some d, t, .slice a l.length cap, .slice (some ad) 1 c)) (ht : P.underlying t = some (.slice e))
    (hinfo : (P.info? e).map (fun i => (i.zero, i.size, i.bytes)) = some (some z, size, bytes)) (hzs : z.cells.size = size) (hsz : 0 < size)
    (hnews : Cells w (some ad) (enc x)) (hl : (enc x).length = size) (h1 : (enc x).all (·.oneCell') = true) (hb : (l.length + 1) * bytes ≤ 140737488355328 ∧ l.length < 140737488355328)
    (k : ∀ a' cap' w', Sep w0 (L.set j (rowOf enc a' cap' e size (l ++ [x]))) w' → WB P f N R K H fuel ar ((d, .slice a' (l ++ [x]).length cap') :: env) w') : WO P f N R K H fuel ar q env w := by
  obtain ⟨a', cap', w', hok, hS⟩ := OK.append enc S j l x d t z bytes ad c hj h ht hinfo hzs hsz hnews hl h1 hb
  exact WO.ok hok (k a' cap' w' hS)

theorem WO.appendN {α : Type} (enc : α → List Value) {w0 w : World} {L : List Claim} (S : Sep w0 L w) (j : Nat) {a : Option Addr} {cap : Nat} {e : TypeId} {size : Nat} (l ys : List α) (n : Nat) (hn : ys.length = n) {K : List Item} {H : World → Prop} {fuel : Nat} {ar : Array Bool} {q : Nat} {env : Env} (d : Nat) (t : TypeId) (z : Value) (bytes : Nat) (x : Option Addr) (c : Nat)
    (hj : L[j]? = some (rowOf enc a cap e size l)) (h : appAt N (rItem (rOps K) q) env = some (some d, t, .slice a l.length cap, .slice x n c)) (ht : P.underlying t = some (.slice e))
    (hinfo : (P.info? e).map (fun i => (i.zero, i.size, i.bytes)) = some (some z, size, bytes)) (hzs : z.cells.size = size) (hsz : 0 < size)
    (hnews : Cells w x (ys.flatMap enc)) (hx : x = none → ys = []) (hl : ∀ y, (enc y).length = size) (h1 : ∀ y, (enc y).all (·.oneCell') = true) (hb : (l.length + ys.length) * bytes ≤ 140737488355328 ∧ l.length + ys.length ≤ 140737488355328)
    (k : ∀ a' cap' w', Sep w0 (L.set j (rowOf enc a' cap' e size (l ++ ys))) w' → WB P f N R K H fuel ar ((d, .slice a' (l ++ ys).length cap') :: env) w') : WO P f N R K H fuel ar q env w := by
  subst hn
  obtain ⟨a', cap', w', hok, hS⟩ := OK.appendL enc S j l ys d t z bytes x c hj h ht hinfo hzs hsz hnews hx hl h1 hb
  exact WO.ok hok (k a' cap' w' hS)

theorem WO.stRow1 {α : Type} (g : α → Value) (hg1 : ∀ x, (g x).cells = #[g x] ∧ (g x).oneCell' = true) {w0 w : World} {L : List Claim} (S : Sep w0 L w) (j : Nat) {a : Option Addr} {cap : Nat} {e : TypeId} (l : List α) {K : List Item} {H : World → Prop} {fuel : Nat} {ar : Array Bool} {q : Nat} {env : Env} (t : TypeId) (p : Addr) (i : Nat) (x : α) (hj : L[j]? = some (rowOf (enc1 g) a cap e 1 l))
    (h : stAt N (rItem (rOps K) q) env = some (none, t, p.add i, g x)) (hp : a = some p) (hi : i < l.length) (ht : (P.info? t).map (·.size) = some 1)
    (k : ∀ w', Sep w0 (L.set j (rowOf (enc1 g) a cap e 1 (l.set i x))) w' → WB P f N R K H fuel ar env w') : WO P f N R K H fuel ar q env w := by
  obtain ⟨w', hr, hS⟩ := S.setRow1 (P := P) g hg1 j hj i hi x hp ht
  exact WO.ok (OK.store w' h hr) (k w' hS)

theorem PL.newSlice {w0 w : World} {L : List Claim} (S : Sep w0 L w) (d n : Nat) (cs : List Value) (T : TypeId) {K : List Item} {H : World → Prop} {plan : List (Nat × Bool)} {q : Nat} {env : Env}
    (h : opRun P N (rItem (rOps K) q) env w = some (some d, .ok (.value (.slice (some ⟨w.heap.size, 0, none⟩) n n)) (w.alloc (.cells cs.toArray T))))
    (k : ∀ b w', Sep w0 (box b cs T :: L) w' → PB P f N R K H plan ((d, .slice (some ⟨b, 0, none⟩) n n) :: env) w') : PL P f N R K H ((q, false) :: plan) env w := by
  obtain ⟨o, ho, hd, hr⟩ := opRun_spec h
  exact PL.ok ⟨o, ho, hd, .inl hr⟩ (k _ _ (S.alloc cs T))

theorem PL.append {α : Type} (enc : α → List Value) {w0 w : World} {L : List Claim} (S : Sep w0 L w) (j : Nat) {a : Option Addr} {cap : Nat} {e : TypeId} {size : Nat} (l : List α) (x : α) {K : List Item} {H : World → Prop} {plan : List (Nat × Bool)} {q : Nat} {env : Env} (d : Nat) (t : TypeId) (z : Value) (bytes : Nat) (ad : Addr) (c : Nat)
    (hj : L[j]? = some (rowOf enc a cap e size l)) (h : appAt N (rItem (rOps K) q) env = some (some d, t, .slice a l.length cap, .slice (some ad) 1 c)) (ht : P.underlying t = some (.slice e))
    (hinfo : (P.info? e).map (fun i => (i.zero, i.size, i.bytes)) = some (some z, size, bytes)) (hzs : z.cells.size = size) (hsz : 0 < size)
    (hnews : Cells w (some ad) (enc x)) (hl : (enc x).length = size) (h1 : (enc x).all (·.oneCell') = true) (hb : (l.length + 1) * bytes ≤ 140737488355328 ∧ l.length < 140737488355328)
    (k : ∀ a' cap' w', Sep w0 (L.set j (rowOf enc a' cap' e size (l ++ [x]))) w' → PB P f N R K H plan ((d, .slice a' (l ++ [x]).length cap') :: env) w') : PL P f N R K H ((q, false) :: plan) env w := by
  obtain ⟨a', cap', w', hok, hS⟩ := OK.append enc S j l x d t z bytes ad c hj h ht hinfo hzs hsz hnews hl h1 hb
  exact PL.ok hok (k a' cap' w' hS)

theorem PL.appendN {α : Type} (enc : α → List Value) {w0 w : World} {L : List Claim} (S : Sep w0 L w) (j : Nat) {a : Option Addr} {cap : Nat} {e : TypeId} {size : Nat} (l ys : List α) (n : Nat) (hn : ys.length = n) {K : List Item} {H : World → Prop} {plan : List (Nat × Bool)} {q : Nat} {env : Env} (d : Nat) (t : TypeId) (z : Value) (bytes : Nat) (x : Option Addr) (c : Nat)
    (hj : L[j]? = some (rowOf enc a cap e size l)) (h : appAt N (rItem (rOps K) q) env = some (some d, t, .slice a l.length cap, .slice x n c)) (ht : P.underlying t = some (.slice e))
    (hinfo : (P.info? e).map (fun i => (i.zero, i.size, i.bytes)) = some (some z, size, bytes)) (hzs : z.cells.size = size) (hsz : 0 < size)
    (hnews : Cells w x (ys.flatMap enc)) (hx : x = none → ys = []) (hl : ∀ y, (enc y).length = size) (h1 : ∀ y, (enc y).all (·.oneCell') = true) (hb : (l.length + ys.length) * bytes ≤ 140737488355328 ∧ l.length + ys.length ≤ 140737488355328)
    (k : ∀ a' cap' w', Sep w0 (L.set j (rowOf enc a' cap' e size (l ++ ys))) w' → PB P f N R K H plan ((d, .slice a' (l ++ ys).length cap') :: env) w') : PL P f N R K H ((q, false) :: plan) env w := by
  subst hn
  obtain ⟨a', cap', w', hok, hS⟩ := OK.appendL enc S j l ys d t z bytes x c hj h ht hinfo hzs hsz hnews hx hl h1 hb
  exact PL.ok hok (k a' cap' w' hS)

theorem PL.stRow1 {α : Type} (g : α → Value) (hg1 : ∀ x, (g x).cells = #[g x] ∧ (g x).oneCell' = true) {w0 w : World} {L : List Claim} (S : Sep w0 L w) (j : Nat) {a : Option Addr} {cap : Nat} {e : TypeId} (l : List α) {K : List Item} {H : World → Prop} {plan : List (Nat × Bool)} {q : Nat} {env : Env} (t : TypeId) (p : Addr) (i : Nat) (x : α) (hj : L[j]? = some (rowOf (enc1 g) a cap e 1 l))
    (h : stAt N (rItem (rOps K) q) env = some (none, t, p.add i, g x)) (hp : a = some p) (hi : i < l.length) (ht : (P.info? t).map (·.size) = some 1)
    (k : ∀ w', Sep w0 (L.set j (rowOf (enc1 g) a cap e 1 (l.set i x))) w' → PB P f N R K H plan env w') : PL P f N R K H ((q, false) :: plan) env w := by
  obtain ⟨w', hr, hS⟩ := S.setRow1 (P := P) g hg1 j hj i hi x hp ht
  exact PL.ok (OK.store w' h hr) (k w' hS)

end Go.Eng

