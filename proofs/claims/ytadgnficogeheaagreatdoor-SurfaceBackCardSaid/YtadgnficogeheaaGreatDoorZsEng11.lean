/- The proof engine, eleventh part: texts as lists of bytes, decimal numerals, bytes turned into a text, strconv.Atoi. Conditions: none; it is generic in the program. -/
import Derived.Test.YtadgnficogeheaaGreatDoorZsEng10
import Derived.Lib.AtoiAll
import Derived.Laws.BytesArg
import Derived.Lib.Strings
namespace Go.Eng
set_option linter.unusedSimpArgs false
set_option linter.unusedVariables false
open Go.RowKit
variable {P : Program} {f : FuncId} {N : Nat} {R : Value → World → Prop}

/-- the bytes of a text -/
abbrev ls (s : ByteArray) : List UInt8 := s.data.toList
theorem ls_inj {a b : ByteArray} (h : ls a = ls b) : a = b := ByteArray.ext (Array.toList_inj.1 h)
theorem beq_ls (a b : ByteArray) : (a.toList == b.toList) = (ls a == ls b) := by rw [ByteArray.toList_eq, ByteArray.toList_eq]
theorem ls_mk (l : List UInt8) : ls ⟨l.toArray⟩ = l := rfl
theorem ls_append (a b : ByteArray) : ls (a ++ b) = ls a ++ ls b := by simp [ls]
theorem ls_length (s : ByteArray) : (ls s).length = s.size := size_toList s
theorem ls_extract (s : ByteArray) (i j : Nat) : ls (s.extract i j) = ((ls s).take j).drop i := by
  simp [ls, ByteArray.data_extract, Array.toList_extract, List.extract_eq_take_drop, List.drop_take]
theorem byteAt_ls (s : ByteArray) (i : Nat) : byteAt s i = (((ls s).getD i 0).toNat : Int) := rfl
theorem size_extract (s : ByteArray) {i j : Nat} (h : j ≤ s.size) : (s.extract i j).size = j - i := by rw [ByteArray.size_extract]; omega
theorem empty_ls : ls ByteArray.empty = [] := rfl
theorem beq_empty (s : ByteArray) : (s.toList == ByteArray.empty.toList) = decide (s.size = 0) := by
  rw [beq_ls, Bool.eq_iff_iff, beq_iff_eq, decide_eq_true_eq, empty_ls, ← ls_length]
  exact List.length_eq_zero_iff.symm

theorem beq_nil_eql (s : ByteArray) : (s.toList == (⟨#[]⟩ : ByteArray).toList) = ((s.size : Int) == 0) := by
  have := beq_empty s
  rw [show (⟨#[]⟩ : ByteArray) = ByteArray.empty from rfl, this, Bool.eq_iff_iff, decide_eq_true_eq, beq_iff_eq]; omega
theorem beq_nil_neq (s : ByteArray) : (!(s.toList == (⟨#[]⟩ : ByteArray).toList)) = ((s.size : Int) != 0) := by rw [beq_nil_eql]; rfl

/-- a sentinel error stands in a variable -/
def ErrW (w : World) (g : Nat) : Prop := ∃ ev, w.cell? ⟨g, 0, none⟩ = some ev ∧ (ev = .nilIface ∨ ∃ te pe, ev = .iface te pe)
theorem ErrW.sep {w w' : World} {L : List Claim} {g : Nat} (h : ErrW w g) (S : Sep w L w') : ErrW w' g := by
  obtain ⟨ev, h1, h2⟩ := h
  exact ⟨ev, S.cell h1, h2⟩

/-! ### bytes turned into a text -/

/-- a conversion at hand: where it writes, the types, the operand -/
def cvAt (N : Nat) (K : List Item) (env : Env) : Option (Option Nat × TypeId × TypeId × Value) :=
  match opAt N K env with
  | some o => match o.op with
    | .convert s d x => some (o.dst, s, d, ev env x)
    | _ => none
  | none => none

theorem OK.conv {K : List Item} {env : Env} {w w' : World} (d : Nat) (s t : TypeId) (x v : Value) (h : cvAt N K env = some (some d, s, t, x)) (hr : (convert s t x).run P w = .ok v w') : OK P N K env w (some d) v w' := by
  unfold cvAt at h
  split at h
  · rename_i o ho
    split at h
    · rename_i s' t' x' hop
      simp only [Option.some.injEq, Prod.mk.injEq] at h
      obtain ⟨hd, rfl, rfl, rfl⟩ := h
      refine ⟨o, ho, hd, .inl ?_⟩
      unfold execOp
      simp only [hop, Sem.run_bind, hr, Result.andThen_ok, Sem.run_pure]
    · cases h
  · cases h

/-- numbers as bytes -/
abbrev bytesL (xs : List Int) : List UInt8 := xs.map fun n => UInt8.ofNat n.toNat
def bytesB (xs : List Int) : ByteArray := ⟨(bytesL xs).toArray⟩
def isBytes (P : Program) (s t : TypeId) : Bool :=
  match P.underlying s, P.underlying t with
  | some (.slice e), some .string => match P.underlying e with
    | some (.int .u8) => true
    | _ => false
  | _, _ => false

/-- CONVERT: '[]byte' to 'string' -/
theorem OK.bytes {K : List Item} {env : Env} {w : World} (d : Nat) (s t : TypeId) (a : Option Addr) (n cap : Nat) (xs : List Int) (h : cvAt N K env = some (some d, s, t, .slice a n cap)) (ht : isBytes P s t = true)
    (hc : Ones (Value.int .u8) w a n xs) (hp : ∀ p, a = some p → p = ⟨p.block, p.off, none⟩) : OK P N K env w (some d) (.string (bytesB xs)) w := by
  unfold isBytes at ht
  split at ht
  · rename_i e hs hd
    split at ht
    · rename_i he
      refine OK.conv d s t _ _ h ?_
      cases a with
      | none =>
        have := hc.nil; subst this
        exact run_convert_bytes_nil (P := P) w s e hs he _ _ t hd
      | some p =>
        obtain ⟨b, off, hnone⟩ := p
        have e1 := hp _ rfl
        simp only [Addr.mk.injEq, true_and] at e1
        subst e1
        refine run_convert_bytes_arg (P := P) w s e hs he b off n cap xs hc.len_eq (fun i hi => ?_) t hd
        obtain ⟨q, hq, hcq⟩ := hc.at 0 i hi
        cases hq
        have e2 : (⟨b, off, none⟩ : Addr).add i = ⟨b, off + i, none⟩ := by
          unfold Addr.add
          split
          · rename_i h0; subst h0; rfl
          · rfl
        rw [e2] at hcq; exact hcq
    · cases ht
  · cases ht

/-! ### decimal numerals -/

def isDig (c : UInt8) : Bool := decide (48 ≤ c.toNat) && decide (c.toNat ≤ 57)
def foldV (a : Nat) (l : List UInt8) : Nat := l.foldl (fun a c => a * 10 + (c.toNat - 48)) a
abbrev decV (l : List UInt8) : Nat := foldV 0 l
theorem foldV_snoc (a : Nat) (l : List UInt8) (c : UInt8) : foldV a (l ++ [c]) = foldV a l * 10 + (c.toNat - 48) := by simp [foldV]
theorem foldV_cons (a : Nat) (l : List UInt8) (c : UInt8) : foldV a (c :: l) = foldV (a * 10 + (c.toNat - 48)) l := by unfold foldV; rw [List.foldl_cons]
theorem foldV_le : ∀ (l : List UInt8) (a : Nat), a ≤ foldV a l
  | [], a => Nat.le_refl _
  | c :: l, a => by rw [foldV_cons]; have := foldV_le l (a * 10 + (c.toNat - 48)); omega
theorem foldV_ge : ∀ (l : List UInt8) (a : Nat), a * 10 ^ l.length ≤ foldV a l
  | [], a => by simp [foldV]
  | c :: l, a => by
    rw [foldV_cons, List.length_cons, Nat.pow_succ]
    have := foldV_ge l (a * 10 + (c.toNat - 48))
    have h2 : a * 10 * 10 ^ l.length ≤ (a * 10 + (c.toNat - 48)) * 10 ^ l.length := Nat.mul_le_mul_right _ (by omega)
    rw [Nat.mul_comm (10 ^ l.length) 10, ← Nat.mul_assoc]; omega
theorem decV_pos {l : List UInt8} {c : UInt8} (h : ∀ x ∈ c :: l, isDig x = true) (hc : c.toNat ≠ 48) : 10 ^ l.length ≤ decV (c :: l) := by
  have h3 := h c (by simp)
  simp only [isDig, Bool.and_eq_true, decide_eq_true_eq] at h3
  have := foldV_ge l (0 * 10 + (c.toNat - 48))
  rw [← foldV_cons] at this
  exact Nat.le_trans (Nat.le_trans (by omega : 10 ^ l.length ≤ 1 * 10 ^ l.length) (Nat.mul_le_mul_right _ (by omega))) this

theorem parse_eq : ∀ (l : List UInt8) (a : Nat), a < 18446744073709551616 → (∀ c ∈ l, isDig c = true) → Lib.parseUint10 a l = if foldV a l < 18446744073709551616 then .ok (foldV a l) else .range
  | [], a, ha, _ => by simp [Lib.parseUint10, foldV, ha]
  | c :: l, a, ha, h => by
    have h3 := h c (by simp)
    simp only [isDig, Bool.and_eq_true, decide_eq_true_eq] at h3
    rw [Lib.parseUint10, if_pos h3]
    have hle := foldV_le l (a * 10 + (c.toNat - 48))
    split
    · rw [if_neg (by rw [foldV_cons]; omega)]
    · split
      · rw [if_neg (by rw [foldV_cons]; omega)]
      · rw [parse_eq l _ (by omega) (fun x hx => h x (List.mem_cons_of_mem _ hx)), foldV_cons]

/-- a canonical numeral without a sign -/
def canonL (l : List UInt8) : Bool := !l.isEmpty && l.all isDig && !(l.head? == some 48 && decide (1 < l.length))
theorem canonL_facts {l : List UInt8} (h : canonL l = true) : l ≠ [] ∧ (∀ c ∈ l, isDig c = true) ∧ (l.head? = some 48 → l.length = 1) := by
  simp only [canonL, Bool.and_eq_true, Bool.not_eq_true', List.all_eq_true] at h
  obtain ⟨⟨h1, h2⟩, h3⟩ := h
  refine ⟨fun e => by rw [e] at h1; simp at h1, h2, fun e => ?_⟩
  rw [e, beq_self_eq_true, Bool.true_and, decide_eq_false_iff_not] at h3
  cases l with
  | nil => simp at h1
  | cons c l => simp only [List.length_cons] at h3 ⊢; omega

theorem dig_of (d : Nat) (h : d < 10) : isDig (UInt8.ofNat (48 + d)) = true ∧ (UInt8.ofNat (48 + d)).toNat = 48 + d := by
  have : (UInt8.ofNat (48 + d)).toNat = 48 + d := by rw [UInt8.toNat_ofNat']; omega
  refine ⟨?_, this⟩
  simp only [isDig, this, Bool.and_eq_true, decide_eq_true_eq]; omega

theorem digits_facts (u : Nat) : canonL (Lib.decDigits u) = true ∧ decV (Lib.decDigits u) = u ∧ (u ≠ 0 → (Lib.decDigits u).head? ≠ some 48) := by
  induction u using Nat.strongRecOn with
  | _ u ih =>
    by_cases h : u < 10
    · rw [Lib.decDigits_one h]
      obtain ⟨d1, d2⟩ := dig_of u h
      refine ⟨by simp only [canonL, List.all_cons, List.all_nil, d1, List.isEmpty_cons, List.length_singleton]; simp, by simp only [decV, foldV, List.foldl_cons, List.foldl_nil, d2]; omega, fun h0 e => ?_⟩
      simp only [List.head?_cons, Option.some.injEq] at e
      have : (UInt8.ofNat (48 + u)).toNat = (48 : UInt8).toNat := by rw [e]
      rw [d2] at this
      have h48 : (48 : UInt8).toNat = 48 := rfl
      omega
    · obtain ⟨i1, i2, i3⟩ := ih (u / 10) (by omega)
      obtain ⟨d1, d2⟩ := dig_of (u % 10) (by omega)
      obtain ⟨f1, f2, f3⟩ := canonL_facts i1
      rw [Lib.decDigits, dif_neg h]
      have hh : (Lib.decDigits (u / 10) ++ [UInt8.ofNat (48 + u % 10)]).head? = (Lib.decDigits (u / 10)).head? := by
        cases hd : Lib.decDigits (u / 10) with
        | nil => exact absurd hd f1
        | cons c l => rfl
      have hne := i3 (by omega)
      refine ⟨?_, by rw [decV, foldV_snoc, show foldV 0 (Lib.decDigits (u / 10)) = u / 10 from i2, d2]; omega, fun _ => by rw [hh]; exact hne⟩
      simp only [canonL, Bool.and_eq_true, Bool.not_eq_true', List.all_eq_true]
      refine ⟨⟨by simp, fun c hc => ?_⟩, by rw [hh, beq_eq_false_iff_ne.2 hne, Bool.false_and]⟩
      rcases List.mem_append.1 hc with hc | hc
      · exact f2 c hc
      · simp only [List.mem_singleton] at hc; subst hc; exact d1

theorem snoc_ind {α : Type} {p : List α → Prop} (h0 : p []) (h1 : ∀ l x, p l → p (l ++ [x])) : ∀ l, p l := by
  intro l
  have := fun l : List α => (List.rec (motive := fun l => p l.reverse) (by simpa using h0) (fun x l ih => by rw [List.reverse_cons]; exact h1 _ _ ih) l : p l.reverse)
  have h2 := this l.reverse
  rwa [List.reverse_reverse] at h2

theorem digits_canon (l : List UInt8) : canonL l = true → Lib.decDigits (decV l) = l := by
  refine snoc_ind (p := fun l => canonL l = true → Lib.decDigits (decV l) = l) (fun h => by simp [canonL] at h) (fun l c ih h => ?_) l
  obtain ⟨f1, f2, f3⟩ := canonL_facts h
  have hc := f2 c (by simp)
  simp only [isDig, Bool.and_eq_true, decide_eq_true_eq] at hc
  have hb : UInt8.ofNat (48 + (c.toNat - 48)) = c := by rw [show 48 + (c.toNat - 48) = c.toNat by omega]; exact UInt8.ofNat_toNat
  cases l with
  | nil =>
    have e : decV ([] ++ [c]) = c.toNat - 48 := by simp [decV, foldV]
    rw [e, Lib.decDigits_one (by omega), hb]; rfl
  | cons x l =>
    have hx : x.toNat ≠ 48 := fun e => by
      have e2 : x = 48 := UInt8.toNat_inj.1 (by rw [e]; rfl)
      have := f3 (by rw [e2]; rfl)
      simp at this
    have hl : canonL (x :: l) = true := by
      simp only [canonL, Bool.and_eq_true, Bool.not_eq_true', List.all_eq_true]
      refine ⟨⟨rfl, fun y hy => f2 y (by simp only [List.mem_append]; exact .inl hy)⟩, ?_⟩
      rw [List.head?_cons, beq_eq_false_iff_ne.2 (fun e => hx (by rw [Option.some.inj e]; rfl)), Bool.false_and]
    have hp := decV_pos (l := l) (c := x) (fun y hy => f2 y (by simp only [List.mem_append]; exact .inl hy)) hx
    have hp1 : 1 ≤ 10 ^ l.length := Nat.one_le_pow _ _ (by decide)
    have e : decV (x :: l ++ [c]) = decV (x :: l) * 10 + (c.toNat - 48) := foldV_snoc _ _ _
    rw [e, Lib.decDigits, dif_neg (by omega), show (decV (x :: l) * 10 + (c.toNat - 48)) / 10 = decV (x :: l) by omega, show (decV (x :: l) * 10 + (c.toNat - 48)) % 10 = c.toNat - 48 by omega, hb, ih hl]

/-! with a sign -/
def negL (l : List UInt8) : Bool := l.head? == some 45
def digL (l : List UInt8) : List UInt8 := if negL l then l.tail else l
/-- is it a canonical numeral? -/
def formL (l : List UInt8) : Bool := !(digL l).isEmpty && (digL l).all isDig && !((digL l).head? == some 48 && decide (1 < l.length))
def valL (l : List UInt8) : Int := if negL l then -(decV (digL l) : Int) else (decV (digL l) : Int)
def fitL (n : Int) : Bool := decide (-9223372036854775808 ≤ n) && decide (n ≤ 9223372036854775807)
theorem digL_len (l : List UInt8) : (digL l).length ≤ l.length ∧ l.length ≤ (digL l).length + 1 := by
  unfold digL; split
  · rw [List.length_tail]; omega
  · omega
theorem digL_neg {l : List UInt8} (h : negL l = true) : l = 45 :: digL l := by
  cases l with
  | nil => simp [negL] at h
  | cons c l =>
    have : c = 45 := by simpa [negL] using h
    subst this; rfl
theorem digL_pos {l : List UInt8} (h : negL l = false) : digL l = l := by unfold digL; rw [h]; rfl
theorem form_canon {l : List UInt8} (h : formL l = true) : canonL (digL l) = true := by
  simp only [formL, canonL, Bool.and_eq_true, Bool.not_eq_true', Bool.and_eq_false_iff] at h ⊢
  obtain ⟨⟨h1, h2⟩, h3⟩ := h
  refine ⟨⟨h1, h2⟩, ?_⟩
  rcases h3 with h3 | h3
  · exact .inl h3
  · right; rw [decide_eq_false_iff_not] at h3 ⊢; have := (digL_len l).1; omega
theorem form_neg {l : List UInt8} (h : formL l = true) (hn : negL l = true) : decV (digL l) ≠ 0 := by
  obtain ⟨f1, f2, f3⟩ := canonL_facts (form_canon h)
  simp only [formL, Bool.and_eq_true, Bool.not_eq_true', Bool.and_eq_false_iff] at h
  have hl := congrArg List.length (digL_neg hn)
  cases hd : digL l with
  | nil => exact absurd hd f1
  | cons c r =>
    rw [hd] at h f2 hl
    have hc : c.toNat ≠ 48 := fun e => by
      have e2 : c = 48 := UInt8.toNat_inj.1 (by rw [e]; rfl)
      rcases h.2 with h3 | h3
      · rw [e2] at h3; simp at h3
      · rw [decide_eq_false_iff_not] at h3; simp only [List.length_cons] at hl; omega
    have := decV_pos (l := r) (c := c) f2 hc
    have hp1 : 1 ≤ 10 ^ r.length := Nat.one_le_pow _ _ (by decide)
    omega
/-- a canonical numeral is the text of its number -/
theorem itoa_form {l : List UInt8} (h : formL l = true) : Lib.itoa (valL l) = l := by
  have hc := digits_canon _ (form_canon h)
  unfold Lib.itoa valL
  cases hn : negL l with
  | true =>
    have := form_neg h hn
    rw [if_pos rfl, if_pos (by omega), Int.natAbs_neg, Int.natAbs_natCast, hc, ← digL_neg hn]
  | false =>
    rw [if_neg (show ¬ (false = true) by decide)]
    rw [if_neg (by omega), Int.toNat_natCast, hc, digL_pos hn]
/-- the text of a number is a canonical numeral of it -/
theorem form_itoa (n : Int) : formL (Lib.itoa n) = true ∧ valL (Lib.itoa n) = n := by
  unfold Lib.itoa
  split
  · rename_i h
    obtain ⟨d1, d2, d3⟩ := digits_facts n.natAbs
    have hn : negL (45 :: Lib.decDigits n.natAbs) = true := rfl
    have hd : digL (45 :: Lib.decDigits n.natAbs) = Lib.decDigits n.natAbs := rfl
    refine ⟨?_, by unfold valL; rw [hn, if_pos rfl, hd, d2]; omega⟩
    simp only [canonL, Bool.and_eq_true] at d1
    simp only [formL, hd, Bool.and_eq_true]
    exact ⟨d1.1, by rw [beq_eq_false_iff_ne.2 (d3 (by omega)), Bool.false_and]; rfl⟩
  · rename_i h
    obtain ⟨d1, d2, d3⟩ := digits_facts n.toNat
    obtain ⟨f1, f2, f3⟩ := canonL_facts d1
    have hn : negL (Lib.decDigits n.toNat) = false := by
      cases hd : Lib.decDigits n.toNat with
      | nil => exact absurd hd f1
      | cons c r =>
        have := f2 c (by rw [hd]; simp)
        simp only [isDig, Bool.and_eq_true, decide_eq_true_eq] at this
        unfold negL
        rw [List.head?_cons, beq_eq_false_iff_ne]
        intro e
        have e2 := Option.some.inj e
        rw [e2] at this
        exact absurd this.1 (by decide)
    refine ⟨?_, by unfold valL; rw [hn, if_neg (by decide), digL_pos hn, d2]; omega⟩
    unfold formL; rw [digL_pos hn]; exact d1

theorem atoi_form {l : List UInt8} (h : formL l = true) : Lib.atoiAll l = if fitL (valL l) then .ok (valL l) else .range := by
  obtain ⟨f1, f2, f3⟩ := canonL_facts (form_canon h)
  have hp : Lib.parseMag (digL l) = if decV (digL l) < 18446744073709551616 then .ok (decV (digL l)) else .range := by
    unfold Lib.parseMag; rw [if_neg f1, parse_eq _ _ (by omega) f2]
  cases l with
  | nil => exact absurd rfl f1
  | cons c r =>
    cases hn : negL (c :: r) with
    | true =>
      have hc : c = 45 := by simpa [negL] using hn
      subst hc
      have hd : digL (45 :: r) = r := rfl
      rw [hd] at hp
      have hv : valL (45 :: r) = -(decV r : Int) := by unfold valL; rw [hn, if_pos rfl, hd]
      have h45 : (45 : UInt8).toNat = 45 := rfl
      unfold Lib.atoiAll
      simp only [h45, or_true, if_true, hp, hv]
      by_cases h1 : decV r < 18446744073709551616
      · rw [if_pos h1]
        simp only [not_true_eq_false, false_and, if_false, true_and, if_true]
        by_cases h2 : 9223372036854775808 < decV r
        · rw [if_pos h2, if_neg (by simp only [fitL, Bool.and_eq_true, decide_eq_true_eq]; omega)]
        · rw [if_neg h2, if_pos (by simp only [fitL, Bool.and_eq_true, decide_eq_true_eq]; omega)]
      · rw [if_neg h1]
        rw [if_neg (by simp only [fitL, Bool.and_eq_true, decide_eq_true_eq]; omega)]
    | false =>
      have hd := digL_pos hn
      rw [hd] at hp f2
      have hv : valL (c :: r) = (decV (c :: r) : Int) := by unfold valL; rw [hn, if_neg (by decide), hd]
      have hcd := f2 c (by simp)
      simp only [isDig, Bool.and_eq_true, decide_eq_true_eq] at hcd
      have n1 : (c.toNat = 43 ∨ c.toNat = 45) = False := eq_false (by omega)
      have n2 : (c.toNat = 45) = False := eq_false (by omega)
      unfold Lib.atoiAll
      simp only [n2, or_false, show (c.toNat = 43) = False from eq_false (by omega), if_false, hp, hv]
      by_cases h1 : decV (c :: r) < 18446744073709551616
      · rw [if_pos h1]
        simp only [not_false_eq_true, true_and, false_and, if_false]
        by_cases h2 : 9223372036854775808 ≤ decV (c :: r)
        · rw [if_pos h2, if_neg (by simp only [fitL, Bool.and_eq_true, decide_eq_true_eq]; omega)]
        · rw [if_neg h2, if_pos (by simp only [fitL, Bool.and_eq_true, decide_eq_true_eq]; omega)]
      · rw [if_neg h1]
        rw [if_neg (by simp only [fitL, Bool.and_eq_true, decide_eq_true_eq]; omega)]

end Go.Eng

