/- The proof engine, fourteenth part: a text turned into bytes, one byte appended to bytes of the call's own, such bytes turned into a text. Conditions: none; it is generic in the program. -/
import Derived.Test.YthfpejhonhaggaaDoorEng13
import Derived.Lib.ConvBytes
import Derived.Lib.AtoiErrMem
namespace Go.Eng
set_option linter.unusedSimpArgs false
set_option linter.unusedVariables false
open Go.RowKit
variable {P : Program} {f : FuncId} {N : Nat} {R : Value → World → Prop}

/-- a block that holds a text's bytes, to be read only -/
def rows8 (b : Nat) (x : ByteArray) : Claim :=
  ⟨(· = b), fun w => ∃ cs T fz, w.heap[b]? = some (.cells cs T fz) ∧ ∀ j, j < x.size → cs[j]? = some (.int .u8 (byteAt x j)), fun w w' h hw => by rw [h b rfl]; exact hw⟩

def bytesI (x : ByteArray) : List Int := (ls x).map fun c => (c.toNat : Int)
theorem bytesI_length (x : ByteArray) : (bytesI x).length = x.size := by unfold bytesI; rw [List.length_map, ls_length]
theorem bytesI_getD (x : ByteArray) (i : Nat) : (bytesI x).getD i 0 = byteAt x i := by
  unfold bytesI byteAt
  rw [List.getD_eq_getElem?_getD, List.getElem?_map, List.getD_eq_getElem?_getD]
  show (Option.map _ ((ls x)[i]?)).getD 0 = (((ls x)[i]?.getD 0).toNat : Int)
  cases (ls x)[i]? <;> rfl
theorem rows8_at {w : World} {b : Nat} {x : ByteArray} (h : (rows8 b x).holds w) (i : Nat) (hi : i < x.size) : ∃ p, (some ⟨b, 0, none⟩ : Option Addr) = some p ∧ w.cell? (p.add i) = some (.int .u8 (byteAt x i)) := by
  obtain ⟨cs, T, fz, hb, hc⟩ := h
  refine ⟨_, rfl, ?_⟩
  have e2 : (⟨b, 0, none⟩ : Addr).add i = ⟨b, i, none⟩ := by
    unfold Addr.add
    split
    · rename_i h0; subst h0; rfl
    · simp
  rw [e2]
  simp [World.cell?, hb, hc i hi]
theorem rows8_ones {w : World} {b : Nat} {x : ByteArray} (h : (rows8 b x).holds w) (n : Nat) (hn : x.size = n) : Ones (Value.int .u8) w (some ⟨b, 0, none⟩) n (bytesI x) := by
  subst hn
  refine ⟨bytesI_length x, fun j v hj => ?_⟩
  rw [List.getElem?_map] at hj
  have hlt : j < (bytesI x).length := by
    cases hh : (bytesI x)[j]? with
    | none => rw [hh] at hj; cases hj
    | some y => exact (List.getElem?_eq_some_iff.1 hh).1
  obtain ⟨p, hp, hc⟩ := rows8_at h j (by rw [bytesI_length] at hlt; exact hlt)
  refine ⟨p, hp, ?_⟩
  rw [hc, ← bytesI_getD, List.getD_eq_getElem?_getD, List.getElem?_eq_getElem hlt]
  rw [List.getElem?_eq_getElem hlt] at hj
  exact hj

def isStrBytes (P : Program) (s t : TypeId) : Option TypeId :=
  match P.underlying s, P.underlying t with
  | some .string, some (.slice e) => match P.underlying e with
    | some (.int .u8) => some e
    | _ => none
  | _, _ => none

/-- CONVERT: 'string' to '[]byte' -/
theorem J.strBytes {w0 w : World} {L : List Claim} (S : Sep w0 L w) {K : List Item} {env : Env} (d : Nat) (s t e : TypeId) (x : ByteArray) (h : cvAt N K env = some (some d, s, t, .string x)) (ht : isStrBytes P s t = some e)
    (k : ∀ b cap w', Sep w0 (rows8 b x :: L) w' → J P f N R (popK K) ((d, .slice (some ⟨b, 0, none⟩) x.size cap) :: env) w') : J P f N R K env w := by
  unfold isStrBytes at ht
  split at ht
  · rename_i e' hs hd
    split at ht
    · rename_i he
      obtain rfl := Option.some.inj ht
      have hr := Lib.run_convert_string_bytes (P := P) w s t e' x hs hd he
      have hS : Sep w [rows8 w.heap.size x] (Lib.bytesWorld w e' x) := by
        refine ⟨Lib.bytesWorld_below _ _ _, ?_, ?_, .cons (by simp) .nil⟩
        · intro c hc
          obtain rfl := List.mem_singleton.1 hc
          refine ⟨_, _, _, Lib.bytesWorld_at_new w e' x, fun j hj => ?_⟩
          have hj2 : j < x.data.size := hj
          unfold Lib.bytesCells
          rw [Array.getElem?_append_left (by simpa using hj2)]
          rw [byteAt_ls]
          simp [ls, hj2, List.getD]
          exact ⟨_, Array.getElem?_eq_getElem hj2, by rw [Array.getElem?_eq_getElem hj2]; rfl⟩
        · intro c hc b hb
          obtain rfl := List.mem_singleton.1 hc
          obtain rfl : b = w.heap.size := hb
          exact ⟨Nat.le_refl _, by rw [Lib.bytesWorld_size]; omega⟩
      exact J.ok (OK.conv d s t _ _ h hr) (k _ _ _ (S.trans hS))
    · cases ht
  · cases ht

theorem ls_byte (x : ByteArray) (c : UInt8) : ls x ++ [c] = ls (x ++ ⟨#[c]⟩) := by rw [ls_append]
theorem J.append8 {w0 w : World} {L : List Claim} (S : Sep w0 L w) (j : Nat) {a : Option Addr} {cap : Nat} {e : TypeId} (x : ByteArray) (c : UInt8) {K : List Item} {env : Env} (d : Nat) (t : TypeId) (z : Value) (bytes : Nat) (ad : Addr) (cc : Nat)
    (hj : L[j]? = some (rowOf enc8 a cap e 1 (ls x))) (h : appAt N K env = some (some d, t, .slice a (ls x).length cap, .slice (some ad) 1 cc)) (ht : P.underlying t = some (.slice e))
    (hinfo : (P.info? e).map (fun i => (i.zero, i.size, i.bytes)) = some (some z, 1, bytes)) (hzs : z.cells.size = 1) (hnews : Cells w (some ad) (enc8 c)) (hb : ((ls x).length + 1) * bytes ≤ 140737488355328 ∧ (ls x).length < 140737488355328)
    (k : ∀ a' cap' w', Sep w0 (L.set j (rowOf enc8 a' cap' e 1 (ls (x ++ ⟨#[c]⟩)))) w' → J P f N R (popK K) ((d, .slice a' (ls (x ++ ⟨#[c]⟩)).length cap') :: env) w') : J P f N R K env w := by
  refine J.append enc8 S j (ls x) c d t z bytes ad cc hj h ht hinfo hzs (by decide) hnews rfl rfl hb fun a' cap' w' hS => ?_
  rw [ls_byte] at hS ⊢
  exact k a' cap' w' hS
/-- bytes of the call's own, read as numbers -/
theorem enc8_ones {w : World} {a : Option Addr} {cap : Nat} {e : TypeId} {x : ByteArray} (h : (rowOf enc8 a cap e 1 (ls x)).holds w) (n : Nat) (hn : (ls x).length = n) : Ones (Value.int .u8) w a n (bytesI x) := by
  have hc := (rowOf_cells h).1
  subst hn
  refine ⟨by rw [bytesI_length, ls_length], ?_⟩
  have e1 : (bytesI x).map (Value.int .u8) = (ls x).flatMap enc8 := by
    unfold bytesI
    rw [List.map_map]
    generalize ls x = l
    induction l with
    | nil => rfl
    | cons c l ih => rw [List.map_cons, List.flatMap_cons, ih]; rfl
  rw [e1]; exact hc
theorem bytesB_bytesI (x : ByteArray) : bytesB (bytesI x) = x := by
  apply ls_inj
  rw [bytesB_ls]
  unfold bytesL bytesI
  rw [List.map_map]
  have e : ((fun n : Int => UInt8.ofNat n.toNat) ∘ fun c : UInt8 => (c.toNat : Int)) = id := by
    funext c
    show UInt8.ofNat ((c.toNat : Int)).toNat = c
    rw [Int.toNat_natCast]; exact UInt8.ofNat_toNat
  rw [e, List.map_id]
end Go.Eng
