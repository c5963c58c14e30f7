/- The proof engine, fifth part: slices that the call itself makes. Conditions: none; it is generic in the program. -/
import Derived.Test.YtbbpgidmadlgmaaZdEng4
namespace Go.Eng
set_option linter.unusedSimpArgs false
set_option linter.unusedVariables false
open Go.RowKit

section
variable {P : Program} {f : FuncId} {N : Nat} {R : Value → World → Prop}

theorem Sep.nilRow {w0 w : World} {L : List Claim} (h : Sep w0 L w) (e : TypeId) (size : Nat) : Sep w0 (row (.slice none 0 0) e size 0 [] :: L) w := by
  refine ⟨h.below, fun c hc => ?_, fun c hc b hb => ?_, ?_⟩
  · rcases List.mem_cons.1 hc with rfl | hc
    · exact World.ownsRow_nil w 0 e size
    · exact h.all c hc
  · rcases List.mem_cons.1 hc with rfl | hc
    · cases hb
    · exact h.fresh c hc b hb
  · exact List.pairwise_cons.2 ⟨fun c _ b hb => (by cases hb), h.apart⟩

theorem Sep.erase {w0 w : World} {L : List Claim} (h : Sep w0 L w) (i : Nat) : Sep w0 (L.eraseIdx i) w := h.sub (List.eraseIdx_sublist L i)

theorem box_cells {w : World} {b : Nat} {cs : List Value} {T : TypeId} (h : (box b cs T).holds w) : Cells w (some ⟨b, 0, none⟩) cs := fun j v hj => by
  have h' : w.heap[b]? = some (.cells cs.toArray T (0, 0)) := h
  refine ⟨_, rfl, ?_⟩
  have hadd : (⟨b, 0, none⟩ : Addr).add j = ⟨b, j, none⟩ := by unfold Addr.add; split <;> simp_all
  rw [hadd]
  simp [World.cell?, h', hj]

theorem box_ints {w : World} {b : Nat} {cs : List Value} {T : TypeId} (l : List Int) (h : (box b cs T).holds w) (hc : cs = l.map (Value.int .i64)) (n : Nat) (hn : l.length = n) : Ints w (some ⟨b, 0, none⟩) n l :=
  ⟨hn, by rw [← hc]; exact box_cells h⟩

/-- what an append to a slice of the call's own gives; where the new slice lies -/
theorem run_append_row (w : World) (t ty e : TypeId) (i : TypeInfo) (z : Value) (size bytes : Nat) (ht : P.underlying t = some (.slice e)) (hi : P.info? e = some i) (hz : i.zero = some z)
    (hsize : i.size = size) (hby : i.bytes = bytes) (hzs : z.cells.size = size) (hsz : 0 < size)
    (v : Value) (n : Nat) (xs : List Value) (hown : w.ownsRow 0 e size v n xs)
    (a : Addr) (m c : Nat) (news : List Value) (hl : news.length = m * size) (hnews : ∀ j u, news[j]? = some u → w.cell? (a.add j) = some u) (h1 : ∀ u ∈ news, u.oneCell' = true)
    (h63 : n + m ≤ maxLen) (hbytes : (n + m) * bytes ≤ 140737488355328) :
    ∃ v' w', (Builtin.append_ #[t, t] ty #[v, .slice (some a) m c]).run P w = .ok v' w' ∧ w'.ownsRow 0 e size v' (n + m) (xs ++ news) ∧ w.grownBy w' v.ownBlock ∧
      (∀ b, v'.ownBlock = some b → v.ownBlock = some b ∨ w.heap.size ≤ b) := by
  obtain ⟨v', w', hr, ho, hg, _⟩ := run_append_own (P := P) w 0 t ty e i z size bytes ht hi hz hsize hby hzs hsz v n xs hown a m c news hl hnews h1 h63 hbytes (Nat.zero_le _)
  refine ⟨v', w', hr, ho, hg, fun b hb => ?_⟩
  rcases hown.2 with ⟨rfl, rfl⟩ | ⟨g, cap, cur, rfl, _, hgc, hnc, hcm, hcs, htake⟩
  · obtain ⟨v2, w2, hr2, ho2, _, _⟩ := run_append_own (P := P) w w.heap.size t ty e i z size bytes ht hi hz hsize hby hzs hsz (.slice none 0 0) 0 xs ⟨hown.1, .inl ⟨rfl, rfl⟩⟩ a m c news hl hnews h1 h63 hbytes (Nat.le_refl _)
    rw [hr] at hr2
    cases hr2
    exact .inr (ho2.lt b hb).1
  · by_cases hroom : n + m ≤ cap
    · have hr2 := run_append_room (P := P) w t ty e i ht hi g n cap cur hgc a m c news (by rw [hsize]; exact hl) hnews h1 hroom (by rw [hsize, hl, hcs, ← Nat.add_mul]; exact Nat.mul_le_mul_right _ hroom)
      rw [hr] at hr2
      cases hr2
      exact .inl hb
    · have holds : ∀ j u, xs[j]? = some u → w.cell? ((⟨g, 0, none⟩ : Addr).add j) = some u := hown.cells (g := g) rfl
      have hsmall : n + m ≤ 9223372036854775807 := by simp only [maxLen] at h63; omega
      have hr2 := run_append_grow (P := P) w t ty e i z ht hi hz ⟨g, 0, none⟩ n cap xs (by rw [hsize]; exact hown.1) holds a m c news (by rw [hsize]; exact hl) hnews (by omega) (by omega) (growslice_fits (by omega) (by rw [hby]; exact hbytes))
      rw [hr] at hr2
      cases hr2
      simp only [Value.ownBlock, Option.some.injEq] at hb
      subst hb
      exact .inr (Nat.le_refl _)

/-- an append at hand: where it writes, the slice type, the two slices -/
def appAt (N : Nat) (K : List Item) (env : Env) : Option (Option Nat × TypeId × Value × Value) :=
  match opAt N K env with
  | some o => match o.op with
    | .call { callee := .builtin .append, args, argTypes } =>
      match args.toList, argTypes.toList with
      | [x, y], [t, t'] => if t = t' then some (o.dst, t, ev env x, ev env y) else none
      | _, _ => none
    | _ => none
  | none => none

/-- a list of elements in a slice of the call's own: each element as cells -/
def rowOf {α : Type} (enc : α → List Value) (a : Option Addr) (cap : Nat) (e : TypeId) (size : Nat) (l : List α) : Claim := row (.slice a l.length cap) e size l.length (l.flatMap enc)

theorem OK.append {α : Type} (enc : α → List Value) {w0 w : World} {L : List Claim} (S : Sep w0 L w) (j : Nat) {a : Option Addr} {cap : Nat} {e : TypeId} {size : Nat} (l : List α) (x : α) {K : List Item} {env : Env} (d : Nat) (t : TypeId) (z : Value) (bytes : Nat) (ad : Addr) (c : Nat)
    (hj : L[j]? = some (rowOf enc a cap e size l)) (h : appAt N K env = some (some d, t, .slice a l.length cap, .slice (some ad) 1 c)) (ht : P.underlying t = some (.slice e))
    (hinfo : (P.info? e).map (fun i => (i.zero, i.size, i.bytes)) = some (some z, size, bytes)) (hzs : z.cells.size = size) (hsz : 0 < size)
    (hnews : Cells w (some ad) (enc x)) (hl : (enc x).length = size) (h1 : (enc x).all (·.oneCell') = true) (hb : (l.length + 1) * bytes ≤ 140737488355328 ∧ l.length < 140737488355328)
    : ∃ a' cap' w', OK P N K env w (some d) (.slice a' (l ++ [x]).length cap') w' ∧ Sep w0 (L.set j (rowOf enc a' cap' e size (l ++ [x]))) w' := by
  obtain ⟨i, hi, hzz⟩ := Option.map_eq_some_iff.1 hinfo
  simp only [Prod.mk.injEq] at hzz
  obtain ⟨hz, hsize, hby⟩ := hzz
  have hown : w.ownsRow 0 e size (.slice a l.length cap) l.length (l.flatMap enc) := S.nth j hj
  have hn : ∀ q u, (enc x)[q]? = some u → w.cell? (ad.add q) = some u := fun q u hq => by
    obtain ⟨p, hp, hc⟩ := hnews q u hq
    cases hp; exact hc
  unfold appAt at h
  split at h
  · rename_i o ho
    split at h
    · rename_i args argTypes hop
      split at h
      · rename_i xo yo t1 t2 hargs hts
        split at h
        · rename_i htt
          subst htt
          simp only [Option.some.injEq, Prod.mk.injEq] at h
          obtain ⟨hd, rfl, hx, hy⟩ := h
          obtain ⟨v', w', hr, ho', hg, hblk⟩ := run_append_row (P := P) w t1 o.type e i z size bytes ht hi hz hsize hby hzs hsz _ _ _ hown ad 1 c (enc x) (by omega) hn (by simpa using h1) (by simp only [maxLen]; omega) hb.1
          have hlen : (l ++ [x]).length = l.length + 1 := by simp
          have hfm : l.flatMap enc ++ enc x = (l ++ [x]).flatMap enc := by simp
          rw [hfm, ← hlen] at ho'
          obtain ⟨a', cap', rfl, _, _, _, _⟩ := row_cells (v := v') (e := e) (size := size) (n := (l ++ [x]).length) (xs := (l ++ [x]).flatMap enc) (w := w') ho'
          have hS : Sep w0 (L.set j (rowOf enc a' cap' e size (l ++ [x]))) w' := by
            refine S.set j hj (fun b hb' => ?_) hg.os hg.tape hg.output hg.size (fun b hb1 hb2 => hg.block b hb1 fun e => hb2 e.symm) ho'
            rcases hblk b hb' with h2 | h2
            · exact .inl h2
            · exact .inr ⟨h2, (ho'.lt b hb').2⟩
          refine ⟨a', cap', w', ⟨_, ho, hd, .inl ?_⟩, hS⟩
          have ea : args = #[xo, yo] := by rw [← hargs]
          have et : argTypes = #[t1, t1] := by rw [← hts]
          subst ea et
          unfold execOp
          simp [hop, resolve, invoke, builtin, hx, hy, hr, Result.andThen]
        · cases h
      · cases h
    · cases h
  · cases h

abbrev encI (x : Int) : List Value := [.int .i64 x]

end
end Go.Eng

