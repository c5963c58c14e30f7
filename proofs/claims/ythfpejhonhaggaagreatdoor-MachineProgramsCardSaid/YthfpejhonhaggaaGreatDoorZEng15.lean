/- The proof engine, fifteenth part: bytes of a constant text, records in a block of the call's own. Conditions: none; it is generic in the program. -/
import Derived.Test.YthfpejhonhaggaaGreatDoorZEng14
import Derived.Lib.SlBytesConst
namespace Go.Eng
set_option linter.unusedSimpArgs false
set_option linter.unusedVariables false
open Go.RowKit
variable {P : Program} {f : FuncId} {N : Nat} {R : Value → World → Prop}

def cellsB (x : ByteArray) : List Value := (ls x).map fun c => .int .u8 c.toNat
def isBytesT (P : Program) (t : TypeId) : Option TypeId :=
  match P.underlying t with
  | some (.slice e) => match P.underlying e with
    | some (.int .u8) => some e
    | _ => none
  | _ => none
/-- the world after a constant's bytes are marked -/
theorem freeze_at {w : World} {b k : Nat} {C : Array Value} {e : TypeId} (hb : w.heap[b]? = some (.cells C e (0, 0))) : (w.freeze ⟨b, k, none⟩ 1).heap[b]? = some (.cells C e (k, k + 1)) := by
  unfold World.freeze
  rw [if_neg (by decide)]
  show (w.heap.modify b _)[b]? = _
  rw [Array.getElem?_modify, if_pos rfl, hb]; rfl
theorem freeze_ne {w : World} {b k j : Nat} (h : j ≠ b) : (w.freeze ⟨b, k, none⟩ 1).heap[j]? = w.heap[j]? := by
  unfold World.freeze
  rw [if_neg (by decide)]
  show (w.heap.modify b _)[j]? = _
  rw [Array.getElem?_modify, if_neg (Ne.symm h)]
theorem freeze_size {w : World} {b k : Nat} : (w.freeze ⟨b, k, none⟩ 1).heap.size = w.heap.size := by
  unfold World.freeze
  rw [if_neg (by decide)]
  show (w.heap.modify b _).size = _
  rw [Array.size_modify]
theorem run_const_bytes {w : World} {t e : TypeId} {b n c : Nat} {C : Array Value} (hb : w.heap[b]? = some (.cells C e (0, 0))) (ht : P.underlying t = some (.slice e)) (he : P.underlying e = some (.int .u8)) :
    (convert t t (.slice (some ⟨b, 0, none⟩) n c)).run P w = .ok (.slice (some ⟨b, 0, none⟩) n c) (w.freeze ⟨b, C.size, none⟩ 1) := by
  have hsh : w.shape? b = some (e, C.size) := by unfold World.shape?; rw [hb]
  simp [convert, run_underlying ht, run_underlying he, markStringish, hsh]
/-- CONVERT of a constant's bytes to their own type -/
theorem J.constBytes {w0 w : World} {L : List Claim} (S : Sep w0 L w) (i : Nat) {b : Nat} (x : ByteArray) {e : TypeId} {K : List Item} {env : Env} (d t n c : Nat) (hi : L[i]? = some (box b (cellsB x) e)) (h : cvAt N K env = some (some d, t, t, .slice (some ⟨b, 0, none⟩) n c)) (ht : isBytesT P t = some e)
    (k : ∀ w', Sep w0 (L.set i (rows8 b x)) w' → J P f N R (popK K) ((d, .slice (some ⟨b, 0, none⟩) n c) :: env) w') : J P f N R K env w := by
  unfold isBytesT at ht
  split at ht
  · rename_i e' hd
    split at ht
    · rename_i he
      obtain rfl := Option.some.inj ht
      have hb : w.heap[b]? = some (.cells (cellsB x).toArray e' (0, 0)) := S.nth i hi
      have hlt : b < w.heap.size := by
        rcases Nat.lt_or_ge b w.heap.size with h' | h'
        · exact h'
        · rw [Array.getElem?_eq_none h'] at hb; cases hb
      have hr := run_const_bytes (P := P) (n := n) (c := c) hb hd he
      have hos : ∀ k, (w.freeze ⟨b, k, none⟩ 1).os = w.os ∧ (w.freeze ⟨b, k, none⟩ 1).tape = w.tape ∧ (w.freeze ⟨b, k, none⟩ 1).output = w.output := fun k => by
        unfold World.freeze; rw [if_neg (by decide)]; exact ⟨rfl, rfl, rfl⟩
      refine J.ok (OK.conv d t t _ _ h hr) (k _ (S.set i hi (fun b' hb' => .inl hb') (hos _).1 (hos _).2.1 (hos _).2.2 (Nat.le_of_eq freeze_size.symm) (fun b' _ hn => freeze_ne hn) ?_))
      refine ⟨_, _, _, freeze_at hb, fun j hj => ?_⟩
      have hl := ls_length x
      rw [List.getElem?_toArray]
      unfold cellsB
      rw [List.getElem?_map, byteAt_ls, List.getD_eq_getElem?_getD, List.getElem?_eq_getElem (by omega)]; rfl
    · cases ht
  · cases ht
theorem add_block (b o j : Nat) : (⟨b, o, none⟩ : Addr).add j = ⟨b, o + j, none⟩ := by
  unfold Addr.add
  split
  · rename_i h0; subst h0; rfl
  · simp
/-- a record of a block of the call's own -/
theorem box_rec_at {α : Type} {g : α → List Value} {s b : Nat} {l : List α} {T : TypeId} {w : World} (h : (box b (l.flatMap g) T).holds w) (hs : ∀ x, (g x).length = s) (hp : 0 < s) (d : α) (n : Nat) (hn : n < l.length) :
    ∀ j v, (g (l.getD n d))[j]? = some v → w.cell? ((⟨b, n * s, none⟩ : Addr).add j) = some v := by
  have hr : Recs g s w (some ⟨b, 0, none⟩) l.length l := ⟨rfl, hs, hp, box_cells h⟩
  obtain ⟨p, hp', hc⟩ := hr.at d n hn
  cases hp'
  intro j v hj
  have := hc j v hj
  rw [add_block, Nat.zero_add] at this; exact this
theorem box_rec_one {α : Type} {g : α → List Value} {s b : Nat} {l : List α} {T : TypeId} {w : World} (h : (box b (l.flatMap g) T).holds w) (hs : ∀ x, (g x).length = s) (hp : 0 < s) (d : α) (n : Nat) (hn : n < l.length) (j : Nat) (v : Value) (hj : (g (l.getD n d))[j]? = some v) :
    w.cell? ⟨b, n * s + j, none⟩ = some v := by
  have := box_rec_at h hs hp d n hn j v hj
  rw [add_block] at this; exact this
end Go.Eng

