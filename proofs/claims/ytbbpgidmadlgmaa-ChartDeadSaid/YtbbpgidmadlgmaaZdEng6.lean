/- The proof engine, sixth part: what an argument's reading says of its cells. Conditions: none; it is generic in the program. -/
import Derived.Test.YtbbpgidmadlgmaaZdEng5
import Derived.ProofKit
import Derived.OpenShut
import Derived.ShutString
import Derived.ChangeOld
namespace Go.Eng
set_option linter.unusedSimpArgs false
set_option linter.unusedVariables false
open Go.RowKit Go.ChangeShapes Go.WideShapes Go.ChangeAt

section
variable {H : Type} {enc : TypeId × Value → H} {P : Program} {w : World} {t : TypeId} {cs : List Value}

/-- these cells can be read at this type -/
def Tr {H : Type} (enc : TypeId × Value → H) (P : Program) (w : World) (t : TypeId) (cs : List Value) : Prop :=
  ∃ fuel x, DataW.trod enc P w 0 (fun _ => true) true fuel t cs = some x

theorem Tr.of {v : Value} {d : DataW H} {ps : List MemPlace} (h : DataW.Trod enc P w 0 (fun _ => true) true t v d ps) : Tr enc P w t v.cells.toList := by
  obtain ⟨fuel, hf⟩ := h
  exact ⟨fuel, _, hf⟩

theorem Tr.int {k : IntKind} (hu : P.underlying t = some (.int k)) (h : Tr enc P w t cs) : ∃ n, cs = [.int k n] ∧ k.min ≤ n ∧ n ≤ k.max := by
  obtain ⟨fuel, x, hf⟩ := h
  cases fuel with
  | zero => cases hf
  | succ fuel =>
    unfold DataW.trod at hf
    rw [hu] at hf
    split at hf <;> simp_all
    rename_i k' n he
    obtain ⟨⟨rfl, hw⟩, _⟩ := hf
    simpa [Lit.wf] using hw

theorem Tr.bool (hu : P.underlying t = some .bool) (h : Tr enc P w t cs) : ∃ b, cs = [.bool b] := by
  obtain ⟨fuel, x, hf⟩ := h
  cases fuel with
  | zero => cases hf
  | succ fuel =>
    unfold DataW.trod at hf
    rw [hu] at hf
    split at hf <;> simp_all

theorem Tr.string (hu : P.underlying t = some .string) (h : Tr enc P w t cs) : ∃ s, cs = [.string s] ∧ s.size ≤ maxLen := by
  obtain ⟨fuel, x, hf⟩ := h
  cases fuel with
  | zero => cases hf
  | succ fuel =>
    unfold DataW.trod at hf
    rw [hu] at hf
    split at hf <;> simp_all

theorem mapM_each {α β : Type} {f : α → Option β} : ∀ {l : List α} {ys : List β}, l.mapM f = some ys → ∀ x ∈ l, ∃ y, f x = some y := by
  intro l
  induction l with
  | nil => intro ys h x hx; cases hx
  | cons a l ih =>
    intro ys h x hx
    simp only [List.mapM_cons] at h
    cases ha : f a with
    | none => rw [ha] at h; cases h
    | some b =>
      rw [ha] at h
      cases hl : l.mapM f with
      | none => rw [hl] at h; cases h
      | some bs =>
        rcases List.mem_cons.1 hx with rfl | hx
        · exact ⟨b, ha⟩
        · exact ih hl x hx

theorem Tr.struct {fs : Array Field} (hu : P.underlying t = some (.struct fs)) (h : Tr enc P w t cs) : cs.length = P.cellsOf t ∧ ∀ (i : Nat) (f : Field), fs[i]? = some f → Tr enc P w f.type ((cs.drop f.offset).take (P.cellsOf f.type)) := by
  obtain ⟨fuel, x, hf⟩ := h
  cases fuel with
  | zero => cases hf
  | succ fuel =>
    unfold DataW.trod at hf
    rw [hu] at hf
    simp only at hf
    split at hf
    · rename_i hl
      refine ⟨hl, fun i f hi => ?_⟩
      obtain ⟨ys, hy, _⟩ := Option.map_eq_some_iff.1 hf
      obtain ⟨y, hy'⟩ := mapM_each hy f (by simpa using Array.mem_of_getElem? hi)
      exact ⟨fuel, y, hy'⟩
    · cases hf

theorem Tr.array {n : Nat} {e : TypeId} (hu : P.underlying t = some (.array n e)) (h : Tr enc P w t cs) : cs.length = P.cellsOf t ∧ ∀ i, i < n → Tr enc P w e ((cs.drop (i * P.cellsOf e)).take (P.cellsOf e)) := by
  obtain ⟨fuel, x, hf⟩ := h
  cases fuel with
  | zero => cases hf
  | succ fuel =>
    unfold DataW.trod at hf
    rw [hu] at hf
    simp only at hf
    split at hf
    · rename_i hl
      refine ⟨hl, fun i hi => ?_⟩
      obtain ⟨ys, hy, _⟩ := Option.map_eq_some_iff.1 hf
      obtain ⟨y, hy'⟩ := mapM_each hy i (by simpa using hi)
      exact ⟨fuel, y, hy'⟩
    · cases hf

theorem mapM_nth {α β : Type} {f : α → Option β} : ∀ {l : List α} {ys : List β}, l.mapM f = some ys → ys.length = l.length ∧ ∀ (j : Nat) (a : α) (y : β), l[j]? = some a → ys[j]? = some y → f a = some y := by
  intro l
  induction l with
  | nil => intro ys h; simp at h; subst h; simp
  | cons b l ih =>
    intro ys h
    simp only [List.mapM_cons] at h
    cases hb : f b with
    | none => rw [hb] at h; cases h
    | some u =>
      rw [hb] at h
      cases hl : l.mapM f with
      | none => rw [hl] at h; cases h
      | some us =>
        rw [hl] at h
        simp at h
        subst h
        obtain ⟨h1, h2⟩ := ih hl
        refine ⟨by simp [h1], fun j a y hj hy => ?_⟩
        cases j with
        | zero => simp at hj hy; subst hj hy; exact hb
        | succ j => exact h2 j a y (by simpa using hj) (by simpa using hy)

theorem cells?_spec {base : Nat} {a : Addr} {n : Nat} {cs : List Value} (h : w.cells? base a n = some cs) : cs.length = n ∧ ∀ j v, cs[j]? = some v → w.cell? (a.add j) = some v := by
  unfold World.cells? at h
  split at h
  · obtain ⟨h1, h2⟩ := mapM_nth h
    have hn : cs.length = n := by simpa using h1
    refine ⟨hn, fun j v hj => h2 j j v ?_ hj⟩
    have hj' := (List.getElem?_eq_some_iff.1 hj).1
    simp [show j < n by omega]
  · cases h

theorem Tr.slice {e : TypeId} (hu : P.underlying t = some (.slice e)) (h : Tr enc P w t cs) :
    ∃ a len cap, cs = [.slice a len cap] ∧ len ≤ maxLen ∧ ∃ xs : List (List Value), xs.length = len ∧ (∀ x ∈ xs, x.length = P.cellsOf e ∧ Tr enc P w e x) ∧ Cells w a xs.flatten := by
  obtain ⟨fuel, x, hf⟩ := h
  cases fuel with
  | zero => cases hf
  | succ fuel =>
    unfold DataW.trod at hf
    rw [hu] at hf
    split at hf <;> try (simp_all; done)
    · rename_i e' he
      exact ⟨none, 0, 0, rfl, by simp [maxLen], [], rfl, by simp, fun j v hj => by simp at hj⟩
    · rename_i e' a len cap he
      simp only [Option.some.injEq, TypeDesc.slice.injEq] at he
      subst he
      simp only at hf
      split at hf
      · rename_i hb
        cases hm : ((List.range len).mapM fun i => (w.cells? 0 (a.add (i * P.cellsOf e)) (P.cellsOf e)).bind (DataW.trod enc P w 0 (fun _ => true) true fuel e)) with
        | none => rw [hm] at hf; cases hf
        | some ys =>
          have each : ∀ i, i < len → ∃ c, w.cells? 0 (a.add (i * P.cellsOf e)) (P.cellsOf e) = some c ∧ Tr enc P w e c := fun i hi => by
            obtain ⟨y, hy⟩ := mapM_each hm i (by simpa using hi)
            obtain ⟨c, hc, ht⟩ := Option.bind_eq_some_iff.1 hy
            exact ⟨c, hc, fuel, y, ht⟩
          have build : ∀ n, n ≤ len → ∃ xs : List (List Value), xs.length = n ∧ ∀ j c, xs[j]? = some c → w.cells? 0 (a.add (j * P.cellsOf e)) (P.cellsOf e) = some c ∧ Tr enc P w e c := by
            intro n
            induction n with
            | zero => intro _; exact ⟨[], rfl, by simp⟩
            | succ n ih =>
              intro hn
              obtain ⟨xs, h1, h2⟩ := ih (by omega)
              obtain ⟨c, hc, ht⟩ := each n (by omega)
              refine ⟨xs ++ [c], by simp [h1], fun j c' hj => ?_⟩
              rw [List.getElem?_append] at hj
              split at hj
              · exact h2 j c' hj
              · rename_i hlt
                have hj0 : j - xs.length = 0 := by
                  have := (List.getElem?_eq_some_iff.1 hj).1
                  simp at this; omega
                rw [hj0] at hj
                simp at hj
                subst hj
                rw [show j = n by omega]
                exact ⟨hc, ht⟩
          obtain ⟨xs, h1, h2⟩ := build len (Nat.le_refl _)
          have hlen : ∀ x ∈ xs, x.length = P.cellsOf e ∧ Tr enc P w e x := fun x hx => by
            obtain ⟨j, hj⟩ := List.mem_iff_getElem?.1 hx
            obtain ⟨h3, h4⟩ := h2 j x hj
            exact ⟨(cells?_spec h3).1, h4⟩
          refine ⟨some a, len, cap, rfl, Nat.le_trans hb.2.1 hb.2.2, xs, h1, hlen, ?_⟩
          have flat : ∀ (zs : List (List Value)) (off : Nat), (∀ z ∈ zs, z.length = P.cellsOf e) → (∀ j c, zs[j]? = some c → w.cells? 0 (a.add ((off + j) * P.cellsOf e)) (P.cellsOf e) = some c) →
              ∀ j v, zs.flatten[j]? = some v → w.cell? (a.add (off * P.cellsOf e + j)) = some v := by
            intro zs
            induction zs with
            | nil => intro off _ _ j v hj; simp at hj
            | cons z zs ih =>
              intro off hz hc j v hj
              simp only [List.flatten_cons] at hj
              rw [List.getElem?_append] at hj
              have hzl := hz z (by simp)
              split at hj
              · have := (cells?_spec (hc 0 z (by simp))).2 j v hj
                rw [addr_add_add] at this
                simpa using this
              · rename_i hlt
                have := ih (off + 1) (fun z hz' => hz z (by simp [hz'])) (fun j c hj => by have := hc (j + 1) c (by simpa using hj); rwa [show off + 1 + j = off + (j + 1) by omega]) (j - z.length) v hj
                rw [show off * P.cellsOf e + j = (off + 1) * P.cellsOf e + (j - z.length) by rw [Nat.add_mul]; omega]
                exact this
          intro j v hj
          refine ⟨a, rfl, ?_⟩
          have := flat xs 0 (fun z hz => (hlen z hz).1) (fun j c hj => by have := (h2 j c hj).1; simpa using this) j v hj
          simpa using this
      · cases hf

theorem Tr.cap {e : TypeId} {a : Option Addr} {len cap : Nat} (hu : P.underlying t = some (.slice e)) (h : Tr enc P w t [.slice a len cap]) : len ≤ cap ∧ cap ≤ 9223372036854775807 := by
  obtain ⟨fuel, x, hf⟩ := h
  cases fuel with
  | zero => cases hf
  | succ fuel =>
    unfold DataW.trod at hf
    rw [hu] at hf
    split at hf <;> try (simp_all; done)
    rename_i e' a len cap he hc
    simp only [List.cons.injEq, Value.slice.injEq, and_true] at hc
    obtain ⟨rfl, rfl, rfl⟩ := hc
    simp only at hf
    split at hf
    · rename_i hb
      exact ⟨hb.2.1, by have := hb.2.2; simpa [maxLen] using this⟩
    · cases hf

theorem list_choose {α β : Type} {g : α → β} {Q : α → Prop} : ∀ {xs : List β}, (∀ x ∈ xs, ∃ y, x = g y ∧ Q y) → ∃ l : List α, xs = l.map g ∧ ∀ y ∈ l, Q y := by
  intro xs
  induction xs with
  | nil => intro _; exact ⟨[], rfl, by simp⟩
  | cons x xs ih =>
    intro h
    obtain ⟨y, hy, hq⟩ := h x (by simp)
    obtain ⟨l, hl, hql⟩ := ih fun z hz => h z (by simp [hz])
    refine ⟨y :: l, by simp [hy, hl], fun z hz => ?_⟩
    rcases List.mem_cons.1 hz with rfl | hz
    · exact hq
    · exact hql z hz

/-- a slice whose elements are told by 'g', each with the property Q -/
theorem Tr.list {α : Type} {e : TypeId} (g : α → List Value) (Q : α → Prop) (hu : P.underlying t = some (.slice e)) (h : Tr enc P w t cs) (he : ∀ x, Tr enc P w e x → ∃ y, x = g y ∧ Q y) :
    ∃ a len cap, cs = [.slice a len cap] ∧ len ≤ 9223372036854775807 ∧ ∃ l : List α, l.length = len ∧ (∀ y ∈ l, Q y) ∧ Cells w a (l.flatMap g) := by
  obtain ⟨a, len, cap, h1, h2, xs, h3, h4, h5⟩ := Tr.slice hu h
  obtain ⟨l, hl, hq⟩ := list_choose fun x hx => he x (h4 x hx).2
  subst hl
  exact ⟨a, len, cap, h1, by simpa [maxLen] using h2, l, by simpa using h3, hq, by simpa [List.flatMap_def] using h5⟩

/-- the same, each element being one cell -/
theorem Tr.ones {α : Type} {e : TypeId} (g : α → Value) (Q : α → Prop) (hu : P.underlying t = some (.slice e)) (h : Tr enc P w t cs) (he : ∀ x, Tr enc P w e x → ∃ y, x = [g y] ∧ Q y) :
    ∃ a len cap, cs = [.slice a len cap] ∧ len ≤ 9223372036854775807 ∧ ∃ l : List α, (∀ y ∈ l, Q y) ∧ Ones g w a len l := by
  obtain ⟨a, len, cap, h1, h2, l, h3, h4, h5⟩ := Tr.list (fun y => [g y]) Q hu h he
  refine ⟨a, len, cap, h1, h2, l, h4, h3, ?_⟩
  have : l.flatMap (fun y => [g y]) = l.map g := by
    clear h3 h4 h5
    induction l with
    | nil => rfl
    | cons x l ih => simp [List.flatMap_cons, ih]
  rwa [this] at h5

theorem val_slice {e : TypeId} {v : Value} {r : Reach} {base : Nat} {w' : World} (hu : P.underlying t = some (.slice e)) (ho : Value.okWide P w' r base t v) : v.cells.toList = [v] := by
  obtain ⟨a, len, cap, rfl⟩ := okWide_slice hu ho
  rfl

end
end Go.Eng

