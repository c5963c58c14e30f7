/- The proof engine, seventh part: shifts by what is not a literal, a byte of a text. Conditions: none; it is generic in the program. -/
import Derived.Test.YtbbpgidmadlgmaaZdEng5
namespace Go.Eng
set_option linter.unusedSimpArgs false
set_option linter.unusedVariables false
open Go.RowKit
variable {P : Program} {f : FuncId} {N : Nat} {R : Value → World → Prop}

/-- a shift at hand: where it writes, which, its kind and operands -/
def shAt (N : Nat) (K : List Item) (env : Env) : Option (Option Nat × BinOp × IntKind × Int × Int) :=
  match opAt N K env with
  | some o => match o.op with
    | .binOp op _ x y _ => match ev env x, ev env y with
      | .int k a, .int _ b => some (o.dst, op, k, a, b)
      | _, _ => none
    | _ => none
  | none => none

theorem OK.shl {K : List Item} {env : Env} {w : World} (d : Nat) (kk : IntKind) (x y r : Int) (h : shAt N K env = some (some d, .shl, kk, x, y)) (hy : 0 ≤ y) (hr : kk.wrap (x * 2 ^ min y.toNat kk.bits) = r) :
    OK P N K env w (some d) (.int kk r) w := by
  subst hr
  unfold shAt at h
  split at h
  · rename_i o ho
    split at h
    · rename_i op t xo yo t' hop
      split at h
      · rename_i k1 a k2 b hx hy'
        simp only [Option.some.injEq, Prod.mk.injEq] at h
        obtain ⟨hd, rfl, rfl, rfl, rfl⟩ := h
        refine ⟨o, ho, hd, .inl ?_⟩
        unfold execOp
        simp [hop, hx, hy', eqGuard, binOp, Op.shift, Int.not_lt.2 hy]
      · cases h
    · cases h
  · cases h

/-- the byte at a place of a text -/
def byteAt (s : ByteArray) (i : Nat) : Int := ((s.data.toList.getD i 0).toNat : Int)
theorem byteAt_bounds (s : ByteArray) (i : Nat) : 0 ≤ byteAt s i ∧ byteAt s i ≤ 255 := by
  unfold byteAt; have := (s.data.toList.getD i 0).toNat_lt; omega

/-- a byte of a text at hand: where it is written, the type, the text, the index -/
def sixAt (N : Nat) (K : List Item) (env : Env) : Option (Option Nat × TypeId × ByteArray × Int) :=
  match opAt N K env with
  | some o => match o.op with
    | .index t x y => match ev env x, ev env y with
      | .string s, .int _ i => some (o.dst, t, s, i)
      | _, _ => none
    | _ => none
  | none => none

def isStr (P : Program) (t : TypeId) : Bool := match P.underlying t with
  | some .string => true
  | _ => false

theorem OK.byte {K : List Item} {env : Env} {w : World} (d : Nat) (t : TypeId) (s : ByteArray) (i r : Int) (h : sixAt N K env = some (some d, t, s, i)) (ht : isStr P t = true) (h0 : 0 ≤ i) (h1 : i < (s.size : Int)) (hr : byteAt s i.toNat = r) :
    OK P N K env w (some d) (.int .u8 r) w := by
  subst hr
  unfold sixAt at h
  split at h
  · rename_i o ho
    split at h
    · rename_i t' x y hop
      split at h
      · rename_i s' k i' hx hy
        simp only [Option.some.injEq, Prod.mk.injEq] at h
        obtain ⟨hd, rfl, rfl, rfl⟩ := h
        unfold isStr at ht
        split at ht
        · rename_i hu
          refine ⟨o, ho, hd, .inl ?_⟩
          unfold execOp
          have hlt : i'.toNat < s'.size := by omega
          have hb : s'[i'.toNat]? = some (s'.data.toList.getD i'.toNat 0) := by
            rw [getElem?_pos s' i'.toNat hlt]
            have h2 : i'.toNat < s'.data.size := hlt
            have h3 : s'.data.toList.getD i'.toNat 0 = s'.data[i'.toNat]'h2 := by
              rw [List.getD_eq_getElem?_getD, List.getElem?_eq_getElem (by simpa using h2)]
              simp
            exact congrArg some h3.symm
          simp only [hop, hx, hy, Instr.index, asIntOf, Sem.run_bind, Sem.run_pure, Result.andThen_ok, run_underlying hu w, h0, if_true, hb, byteAt]
        · cases ht
      · cases h
    · cases h
  · cases h

/-- a slice that reads as a list, each element in s cells -/
structure Recs {α : Type} (g : α → List Value) (s : Nat) (w : World) (a : Option Addr) (len : Nat) (l : List α) : Prop where
  len_eq : l.length = len
  size : ∀ x, (g x).length = s
  pos : 0 < s
  cells : Cells w a (l.flatMap g)

theorem flatMap_at {α : Type} {g : α → List Value} {s : Nat} (hs : ∀ x, (g x).length = s) (d : α) : ∀ (l : List α) (j i : Nat) (v : Value), j < l.length → (g (l.getD j d))[i]? = some v → (l.flatMap g)[j * s + i]? = some v := by
  intro l
  induction l with
  | nil => intro j i v hj; simp at hj
  | cons x l ih =>
    intro j i v hj h
    have hi : i < s := by have := (List.getElem?_eq_some_iff.1 h).1; rw [hs] at this; exact this
    rw [List.flatMap_cons]
    cases j with
    | zero =>
      rw [List.getElem?_append_left (by rw [hs]; omega)]
      simpa using h
    | succ j =>
      rw [List.getElem?_append_right (by rw [hs, Nat.add_mul]; omega), hs, show (j + 1) * s + i - s = j * s + i by rw [Nat.add_mul]; omega]
      exact ih j i v (by simpa using hj) (by simpa using h)

theorem Recs.at {α : Type} {g : α → List Value} {s : Nat} {w : World} {a : Option Addr} {len : Nat} {l : List α} (h : Recs g s w a len l) (d : α) (j : Nat) (hj : j < len) :
    ∃ p, a = some p ∧ ∀ (i : Nat) (v : Value), (g (l.getD j d))[i]? = some v → w.cell? ((p.add (j * s)).add i) = some v := by
  have key : ∀ (i : Nat) (v : Value), (g (l.getD j d))[i]? = some v → ∃ p, a = some p ∧ w.cell? ((p.add (j * s)).add i) = some v := fun i v hv => by
    obtain ⟨p, hp, hc⟩ := h.cells _ v (flatMap_at h.size d l j i v (by rw [h.len_eq]; exact hj) hv)
    exact ⟨p, hp, by rw [addr_add_add]; exact hc⟩
  obtain ⟨p, hp, _⟩ := key 0 ((g (l.getD j d))[0]'(by rw [h.size]; exact h.pos)) (by simp [h.size, h.pos])
  refine ⟨p, hp, fun i v hv => ?_⟩
  obtain ⟨p', hp', hc⟩ := key i v hv
  rw [hp] at hp'; cases hp'
  exact hc

theorem Recs.sep {α : Type} {g : α → List Value} {s : Nat} {w0 w : World} {L : List Claim} {a : Option Addr} {len : Nat} {l : List α} (h : Recs g s w0 a len l) (S : Sep w0 L w) : Recs g s w a len l := ⟨h.len_eq, h.size, h.pos, h.cells.sep S⟩
end Go.Eng

