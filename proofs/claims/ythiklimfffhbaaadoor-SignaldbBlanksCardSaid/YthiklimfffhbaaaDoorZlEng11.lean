/- The proof engine, eleventh part: texts as lists of bytes, decimal numerals, bytes turned into a text, strconv.Atoi. Conditions: none; it is generic in the program. -/
import Derived.Test.YthiklimfffhbaaaDoorZlEng10
import Derived.Lib.AtoiAll
import Derived.Laws.BytesArg
import Derived.Lib.Strings
namespace Go.Eng
set_option linter.unusedSimpArgs false
set_option linter.unusedVariables false
open Go.RowKit
variable {P : Program} {f : FuncId} {N : Nat} {R : Value → World → Prop}

/-- the bytes of a text -/
abbrev ls (s : ByteArray) : List UInt8 := s.data.toList
theorem ls_inj {a b : ByteArray} (h : ls a = ls b) : a = b := ByteArray.ext (Array.toList_inj.1 h)
theorem beq_ls (a b : ByteArray) : (a.toList == b.toList) = (ls a == ls b) := by rw [ByteArray.toList_eq, ByteArray.toList_eq]
theorem ls_mk (l : List UInt8) : ls ⟨l.toArray⟩ = l := rfl
theorem ls_append (a b : ByteArray) : ls (a ++ b) = ls a ++ ls b := by simp [ls]
theorem ls_length (s : ByteArray) : (ls s).length = s.size := size_toList s
theorem ls_extract (s : ByteArray) (i j : Nat) : ls (s.extract i j) = ((ls s).take j).drop i := by
  simp [ls, ByteArray.data_extract, Array.toList_extract, List.extract_eq_take_drop, List.drop_take]
theorem byteAt_ls (s : ByteArray) (i : Nat) : byteAt s i = (((ls s).getD i 0).toNat : Int) := rfl
theorem size_extract (s : ByteArray) {i j : Nat} (h : j ≤ s.size) : (s.extract i j).size = j - i := by rw [ByteArray.size_extract]; omega
theorem empty_ls : ls ByteArray.empty = [] := rfl
theorem beq_empty (s : ByteArray) : (s.toList == ByteArray.empty.toList) = decide (s.size = 0) := by
  rw [beq_ls, Bool.eq_iff_iff, beq_iff_eq, decide_eq_true_eq, empty_ls, ← ls_length]
  exact List.length_eq_zero_iff.symm

theorem beq_nil_eql (s : ByteArray) : (s.toList == (⟨#[]⟩ : ByteArray).toList) = ((s.size : Int) == 0) := by
  have := beq_empty s
  rw [show (⟨#[]⟩ : ByteArray) = ByteArray.empty from rfl, this, Bool.eq_iff_iff, decide_eq_true_eq, beq_iff_eq]; omega
theorem beq_nil_neq (s : ByteArray) : (!(s.toList == (⟨#[]⟩ : ByteArray).toList)) = ((s.size : Int) != 0) := by rw [beq_nil_eql]; rfl

/-- a sentinel error stands in a variable -/
def ErrW (w : World) (g : Nat) : Prop := ∃ ev, w.cell? ⟨g, 0, none⟩ = some ev ∧ (ev = .nilIface ∨ ∃ te pe, ev = .iface te pe)
theorem ErrW.sep {w w' : World} {L : List Claim} {g : Nat} (h : ErrW w g) (S : Sep w L w') : ErrW w' g := by
  obtain ⟨ev, h1, h2⟩ := h
  exact ⟨ev, S.cell h1, h2⟩

/-! ### bytes turned into a text -/

/-- a conversion at hand: where it writes, the types, the operand -/
def cvAt (N : Nat) (K : List Item) (env : Env) : Option (Option Nat × TypeId × TypeId × Value) :=
  match opAt N K env with
  | some o => match o.op with
    | .convert s d x => some (o.dst, s, d, ev env x)
    | _ => none
  | none => none

theorem OK.conv {K : List Item} {env : Env} {w w' : World} (d : Nat) (s t : TypeId) (x v : Value) (h : cvAt N K env = some (some d, s, t, x)) (hr : (convert s t x).run P w = .ok v w') : OK P N K env w (some d) v w' := by
  unfold cvAt at h
  split at h
  · rename_i o ho
    split at h
    · rename_i s' t' x' hop
      simp only [Option.some.injEq, Prod.mk.injEq] at h
      obtain ⟨hd, rfl, rfl, rfl⟩ := h
      refine ⟨o, ho, hd, .inl ?_⟩
      unfold execOp
      simp only [hop, Sem.run_bind, hr, Result.andThen_ok, Sem.run_pure]
    · cases h
  · cases h

/-- numbers as bytes -/
abbrev bytesL (xs : List Int) : List UInt8 := xs.map fun n => UInt8.ofNat n.toNat
def bytesB (xs : List Int) : ByteArray := ⟨(bytesL xs).toArray⟩
def isBytes (P : Program) (s t : TypeId) : Bool :=
  match P.underlying s, P.underlying t with
  | some (.slice e), some .string => match P.underlying e with
    | some (.int .u8) => true
    | _ => false
  | _, _ => false

/-- CONVERT: '[]byte' to 'string' -/
theorem OK.bytes {K : List Item} {env : Env} {w : World} (d : Nat) (s t : TypeId) (a : Option Addr) (n cap : Nat) (xs : List Int) (h : cvAt N K env = some (some d, s, t, .slice a n cap)) (ht : isBytes P s t = true)
    (hc : Ones (Value.int .u8) w a n xs) (hp : ∀ p, a = some p → p = ⟨p.block, p.off, none⟩) : OK P N K env w (some d) (.string (bytesB xs)) w := by
  unfold isBytes at ht
  split at ht
  · rename_i e hs hd
    split at ht
    · rename_i he
      refine OK.conv d s t _ _ h ?_
      cases a with
      | none =>
        have := hc.nil; subst this
        exact run_convert_bytes_nil (P := P) w s e hs he _ _ t hd
      | some p =>
        obtain ⟨b, off, hnone⟩ := p
        have e1 := hp _ rfl
        simp only [Addr.mk.injEq, true_and] at e1
        subst e1
        refine run_convert_bytes_arg (P := P) w s e hs he b off n cap xs hc.len_eq (fun i hi => ?_) t hd
        obtain ⟨q, hq, hcq⟩ := hc.at 0 i hi
        cases hq
        have e2 : (⟨b, off, none⟩ : Addr).add i = ⟨b, off + i, none⟩ := by
          unfold Addr.add
          split
          · rename_i h0; subst h0; rfl
          · rfl
        rw [e2] at hcq; exact hcq
    · cases ht
  · cases ht

/-! ### decimal numerals -/

def isDig (c : UInt8) : Bool := decide (48 ≤ c.toNat) && decide (c.toNat ≤ 57)
def foldV (a : Nat) (l : List UInt8) : Nat := l.foldl (fun a c => a * 10 + (c.toNat - 48)) a
abbrev decV (l : List UInt8) : Nat := foldV 0 l
theorem foldV_cons (a : Nat) (l : List UInt8) (c : UInt8) : foldV a (c :: l) = foldV (a * 10 + (c.toNat - 48)) l := by unfold foldV; rw [List.foldl_cons]
theorem foldV_le : ∀ (l : List UInt8) (a : Nat), a ≤ foldV a l
  | [], a => Nat.le_refl _
  | c :: l, a => by rw [foldV_cons]; have := foldV_le l (a * 10 + (c.toNat - 48)); omega
theorem parse_eq : ∀ (l : List UInt8) (a : Nat), a < 18446744073709551616 → (∀ c ∈ l, isDig c = true) → Lib.parseUint10 a l = if foldV a l < 18446744073709551616 then .ok (foldV a l) else .range
  | [], a, ha, _ => by simp [Lib.parseUint10, foldV, ha]
  | c :: l, a, ha, h => by
    have h3 := h c (by simp)
    simp only [isDig, Bool.and_eq_true, decide_eq_true_eq] at h3
    rw [Lib.parseUint10, if_pos h3]
    have hle := foldV_le l (a * 10 + (c.toNat - 48))
    split
    · rw [if_neg (by rw [foldV_cons]; omega)]
    · split
      · rw [if_neg (by rw [foldV_cons]; omega)]
      · rw [parse_eq l _ (by omega) (fun x hx => h x (List.mem_cons_of_mem _ hx)), foldV_cons]

/-- a canonical numeral without a sign -/
def canonL (l : List UInt8) : Bool := !l.isEmpty && l.all isDig && !(l.head? == some 48 && decide (1 < l.length))
theorem canonL_facts {l : List UInt8} (h : canonL l = true) : l ≠ [] ∧ (∀ c ∈ l, isDig c = true) ∧ (l.head? = some 48 → l.length = 1) := by
  simp only [canonL, Bool.and_eq_true, Bool.not_eq_true', List.all_eq_true] at h
  obtain ⟨⟨h1, h2⟩, h3⟩ := h
  refine ⟨fun e => by rw [e] at h1; simp at h1, h2, fun e => ?_⟩
  rw [e, beq_self_eq_true, Bool.true_and, decide_eq_false_iff_not] at h3
  cases l with
  | nil => simp at h1
  | cons c l => simp only [List.length_cons] at h3 ⊢; omega

/-! with a sign -/
def negL (l : List UInt8) : Bool := l.head? == some 45
def digL (l : List UInt8) : List UInt8 := if negL l then l.tail else l
/-- is it a canonical numeral? -/
def formL (l : List UInt8) : Bool := !(digL l).isEmpty && (digL l).all isDig && !((digL l).head? == some 48 && decide (1 < l.length))
def valL (l : List UInt8) : Int := if negL l then -(decV (digL l) : Int) else (decV (digL l) : Int)
def fitL (n : Int) : Bool := decide (-9223372036854775808 ≤ n) && decide (n ≤ 9223372036854775807)
theorem digL_len (l : List UInt8) : (digL l).length ≤ l.length ∧ l.length ≤ (digL l).length + 1 := by
  unfold digL; split
  · rw [List.length_tail]; omega
  · omega
theorem digL_pos {l : List UInt8} (h : negL l = false) : digL l = l := by unfold digL; rw [h]; rfl
theorem form_canon {l : List UInt8} (h : formL l = true) : canonL (digL l) = true := by
  simp only [formL, canonL, Bool.and_eq_true, Bool.not_eq_true', Bool.and_eq_false_iff] at h ⊢
  obtain ⟨⟨h1, h2⟩, h3⟩ := h
  refine ⟨⟨h1, h2⟩, ?_⟩
  rcases h3 with h3 | h3
  · exact .inl h3
  · right; rw [decide_eq_false_iff_not] at h3 ⊢; have := (digL_len l).1; omega
theorem atoi_form {l : List UInt8} (h : formL l = true) : Lib.atoiAll l = if fitL (valL l) then .ok (valL l) else .range := by
  obtain ⟨f1, f2, f3⟩ := canonL_facts (form_canon h)
  have hp : Lib.parseMag (digL l) = if decV (digL l) < 18446744073709551616 then .ok (decV (digL l)) else .range := by
    unfold Lib.parseMag; rw [if_neg f1, parse_eq _ _ (by omega) f2]
  cases l with
  | nil => exact absurd rfl f1
  | cons c r =>
    cases hn : negL (c :: r) with
    | true =>
      have hc : c = 45 := by simpa [negL] using hn
      subst hc
      have hd : digL (45 :: r) = r := rfl
      rw [hd] at hp
      have hv : valL (45 :: r) = -(decV r : Int) := by unfold valL; rw [hn, if_pos rfl, hd]
      have h45 : (45 : UInt8).toNat = 45 := rfl
      unfold Lib.atoiAll
      simp only [h45, or_true, if_true, hp, hv]
      by_cases h1 : decV r < 18446744073709551616
      · rw [if_pos h1]
        simp only [not_true_eq_false, false_and, if_false, true_and, if_true]
        by_cases h2 : 9223372036854775808 < decV r
        · rw [if_pos h2, if_neg (by simp only [fitL, Bool.and_eq_true, decide_eq_true_eq]; omega)]
        · rw [if_neg h2, if_pos (by simp only [fitL, Bool.and_eq_true, decide_eq_true_eq]; omega)]
      · rw [if_neg h1]
        rw [if_neg (by simp only [fitL, Bool.and_eq_true, decide_eq_true_eq]; omega)]
    | false =>
      have hd := digL_pos hn
      rw [hd] at hp f2
      have hv : valL (c :: r) = (decV (c :: r) : Int) := by unfold valL; rw [hn, if_neg (by decide), hd]
      have hcd := f2 c (by simp)
      simp only [isDig, Bool.and_eq_true, decide_eq_true_eq] at hcd
      have n1 : (c.toNat = 43 ∨ c.toNat = 45) = False := eq_false (by omega)
      have n2 : (c.toNat = 45) = False := eq_false (by omega)
      unfold Lib.atoiAll
      simp only [n2, or_false, show (c.toNat = 43) = False from eq_false (by omega), if_false, hp, hv]
      by_cases h1 : decV (c :: r) < 18446744073709551616
      · rw [if_pos h1]
        simp only [not_false_eq_true, true_and, false_and, if_false]
        by_cases h2 : 9223372036854775808 ≤ decV (c :: r)
        · rw [if_pos h2, if_neg (by simp only [fitL, Bool.and_eq_true, decide_eq_true_eq]; omega)]
        · rw [if_neg h2, if_pos (by simp only [fitL, Bool.and_eq_true, decide_eq_true_eq]; omega)]
      · rw [if_neg h1]
        rw [if_neg (by simp only [fitL, Bool.and_eq_true, decide_eq_true_eq]; omega)]

end Go.Eng

