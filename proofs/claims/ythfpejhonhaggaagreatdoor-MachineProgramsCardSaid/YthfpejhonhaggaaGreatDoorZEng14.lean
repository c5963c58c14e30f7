/- The proof engine, fourteenth part: a text turned into bytes, one byte appended to bytes of the call's own, such bytes turned into a text. Conditions: none; it is generic in the program. -/
import Derived.Test.YthfpejhonhaggaaGreatDoorZEng13
import Derived.Lib.ConvBytes
import Derived.Lib.AtoiErrMem
namespace Go.Eng
set_option linter.unusedSimpArgs false
set_option linter.unusedVariables false
open Go.RowKit
variable {P : Program} {f : FuncId} {N : Nat} {R : Value → World → Prop}

/-- a block that holds a text's bytes, to be read only -/
def rows8 (b : Nat) (x : ByteArray) : Claim :=
  ⟨(· = b), fun w => ∃ cs T fz, w.heap[b]? = some (.cells cs T fz) ∧ ∀ j, j < x.size → cs[j]? = some (.int .u8 (byteAt x j)), fun w w' h hw => by rw [h b rfl]; exact hw⟩

theorem rows8_at {w : World} {b : Nat} {x : ByteArray} (h : (rows8 b x).holds w) (i : Nat) (hi : i < x.size) : ∃ p, (some ⟨b, 0, none⟩ : Option Addr) = some p ∧ w.cell? (p.add i) = some (.int .u8 (byteAt x i)) := by
  obtain ⟨cs, T, fz, hb, hc⟩ := h
  refine ⟨_, rfl, ?_⟩
  have e2 : (⟨b, 0, none⟩ : Addr).add i = ⟨b, i, none⟩ := by
    unfold Addr.add
    split
    · rename_i h0; subst h0; rfl
    · simp
  rw [e2]
  simp [World.cell?, hb, hc i hi]
def isStrBytes (P : Program) (s t : TypeId) : Option TypeId :=
  match P.underlying s, P.underlying t with
  | some .string, some (.slice e) => match P.underlying e with
    | some (.int .u8) => some e
    | _ => none
  | _, _ => none

/-- CONVERT: 'string' to '[]byte' -/
theorem J.strBytes {w0 w : World} {L : List Claim} (S : Sep w0 L w) {K : List Item} {env : Env} (d : Nat) (s t e : TypeId) (x : ByteArray) (h : cvAt N K env = some (some d, s, t, .string x)) (ht : isStrBytes P s t = some e)
    (k : ∀ b cap w', Sep w0 (rows8 b x :: L) w' → J P f N R (popK K) ((d, .slice (some ⟨b, 0, none⟩) x.size cap) :: env) w') : J P f N R K env w := by
  unfold isStrBytes at ht
  split at ht
  · rename_i e' hs hd
    split at ht
    · rename_i he
      obtain rfl := Option.some.inj ht
      have hr := Lib.run_convert_string_bytes (P := P) w s t e' x hs hd he
      have hS : Sep w [rows8 w.heap.size x] (Lib.bytesWorld w e' x) := by
        refine ⟨Lib.bytesWorld_below _ _ _, ?_, ?_, .cons (by simp) .nil⟩
        · intro c hc
          obtain rfl := List.mem_singleton.1 hc
          refine ⟨_, _, _, Lib.bytesWorld_at_new w e' x, fun j hj => ?_⟩
          have hj2 : j < x.data.size := hj
          unfold Lib.bytesCells
          rw [Array.getElem?_append_left (by simpa using hj2)]
          rw [byteAt_ls]
          simp [ls, hj2, List.getD]
          exact ⟨_, Array.getElem?_eq_getElem hj2, by rw [Array.getElem?_eq_getElem hj2]; rfl⟩
        · intro c hc b hb
          obtain rfl := List.mem_singleton.1 hc
          obtain rfl : b = w.heap.size := hb
          exact ⟨Nat.le_refl _, by rw [Lib.bytesWorld_size]; omega⟩
      exact J.ok (OK.conv d s t _ _ h hr) (k _ _ _ (S.trans hS))
    · cases ht
  · cases ht

end Go.Eng

