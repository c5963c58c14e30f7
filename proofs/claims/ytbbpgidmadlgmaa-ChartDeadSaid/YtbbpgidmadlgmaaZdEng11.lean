/- The proof engine, eleventh part: texts as lists of bytes, decimal numerals, bytes turned into a text, strconv.Atoi. Conditions: none; it is generic in the program. -/
import Derived.Test.YtbbpgidmadlgmaaZdEng9
import Derived.Lib.ItoaNum
import Derived.Lib.Join
import Derived.Lib.SmallJoins
import Derived.WalkSmall
import Derived.Sort.Grow
import Derived.Lib.AtoiAll
import Derived.Laws.BytesArg
import Derived.Lib.Strings
namespace Go.Eng
set_option linter.unusedSimpArgs false
set_option linter.unusedVariables false
open Go.RowKit
variable {P : Program} {f : FuncId} {N : Nat} {R : Value → World → Prop}

/-- the bytes of a text -/
abbrev ls (s : ByteArray) : List UInt8 := s.data.toList
/-- a sentinel error stands in a variable -/
def ErrW (w : World) (g : Nat) : Prop := ∃ ev, w.cell? ⟨g, 0, none⟩ = some ev ∧ (ev = .nilIface ∨ ∃ te pe, ev = .iface te pe)
theorem ErrW.sep {w w' : World} {L : List Claim} {g : Nat} (h : ErrW w g) (S : Sep w L w') : ErrW w' g := by
  obtain ⟨ev, h1, h2⟩ := h
  exact ⟨ev, S.cell h1, h2⟩

/-! ### bytes turned into a text -/

/-- a conversion at hand: where it writes, the types, the operand -/
def cvAt (N : Nat) (K : List Item) (env : Env) : Option (Option Nat × TypeId × TypeId × Value) :=
  match opAt N K env with
  | some o => match o.op with
    | .convert s d x => some (o.dst, s, d, ev env x)
    | _ => none
  | none => none

theorem OK.conv {K : List Item} {env : Env} {w w' : World} (d : Nat) (s t : TypeId) (x v : Value) (h : cvAt N K env = some (some d, s, t, x)) (hr : (convert s t x).run P w = .ok v w') : OK P N K env w (some d) v w' := by
  unfold cvAt at h
  split at h
  · rename_i o ho
    split at h
    · rename_i s' t' x' hop
      simp only [Option.some.injEq, Prod.mk.injEq] at h
      obtain ⟨hd, rfl, rfl, rfl⟩ := h
      refine ⟨o, ho, hd, .inl ?_⟩
      unfold execOp
      simp only [hop, Sem.run_bind, hr, Result.andThen_ok, Sem.run_pure]
    · cases h
  · cases h

/-- numbers as bytes -/
abbrev bytesL (xs : List Int) : List UInt8 := xs.map fun n => UInt8.ofNat n.toNat
def bytesB (xs : List Int) : ByteArray := ⟨(bytesL xs).toArray⟩
def isBytes (P : Program) (s t : TypeId) : Bool :=
  match P.underlying s, P.underlying t with
  | some (.slice e), some .string => match P.underlying e with
    | some (.int .u8) => true
    | _ => false
  | _, _ => false

/-- CONVERT: '[]byte' to 'string' -/
theorem OK.bytes {K : List Item} {env : Env} {w : World} (d : Nat) (s t : TypeId) (a : Option Addr) (n cap : Nat) (xs : List Int) (h : cvAt N K env = some (some d, s, t, .slice a n cap)) (ht : isBytes P s t = true)
    (hc : Ones (Value.int .u8) w a n xs) (hp : ∀ p, a = some p → p = ⟨p.block, p.off, none⟩) : OK P N K env w (some d) (.string (bytesB xs)) w := by
  unfold isBytes at ht
  split at ht
  · rename_i e hs hd
    split at ht
    · rename_i he
      refine OK.conv d s t _ _ h ?_
      cases a with
      | none =>
        have := hc.nil; subst this
        exact run_convert_bytes_nil (P := P) w s e hs he _ _ t hd
      | some p =>
        obtain ⟨b, off, hnone⟩ := p
        have e1 := hp _ rfl
        simp only [Addr.mk.injEq, true_and] at e1
        subst e1
        refine run_convert_bytes_arg (P := P) w s e hs he b off n cap xs hc.len_eq (fun i hi => ?_) t hd
        obtain ⟨q, hq, hcq⟩ := hc.at 0 i hi
        cases hq
        have e2 : (⟨b, off, none⟩ : Addr).add i = ⟨b, off + i, none⟩ := by
          unfold Addr.add
          split
          · rename_i h0; subst h0; rfl
          · rfl
        rw [e2] at hcq; exact hcq
    · cases ht
  · cases ht

/-! ### decimal numerals -/

/-! with a sign -/
end Go.Eng

