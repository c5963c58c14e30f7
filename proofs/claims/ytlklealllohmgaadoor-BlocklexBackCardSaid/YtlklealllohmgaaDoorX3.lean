/- Walks of functions of this seat, printed by a program over the engine. Conditions: as each theorem says. -/
import Derived.Test.YtlklealllohmgaaDoorX2
namespace Go.Proofs.YtlklealllohmgaaDoor
open Go.Eng Go.RowKit
set_option linter.unusedSimpArgs false
set_option linter.unusedVariables false
structure Tk where
  gKind : Int
  gText : ByteArray
  gPlace_Line : Int
  gPlace_Column : Int
def tkE (x : Tk) : List Value := [.int .i64 x.gKind, .string x.gText, .int .i64 x.gPlace_Line, .int .i64 x.gPlace_Column]
def tkQ (w : World) (x : Tk) : Prop := ((-9223372036854775808) ≤ x.gKind ∧ x.gKind ≤ 9223372036854775807) ∧ x.gText.size ≤ 9223372036854775807 ∧ ((-9223372036854775808) ≤ x.gPlace_Line ∧ x.gPlace_Line ≤ 9223372036854775807) ∧ ((-9223372036854775808) ≤ x.gPlace_Column ∧ x.gPlace_Column ≤ 9223372036854775807) ∧ True
theorem tkQ_sep {w0 w : World} {L : List Eng.Claim} {x : Tk} (h : tkQ w0 x) (S : Sep w0 L w) : tkQ w x := by
  obtain ⟨hgKind, hgText, hgPlace_Line, hgPlace_Column, _⟩ := h
  exact ⟨hgKind, hgText, hgPlace_Line, hgPlace_Column, trivial⟩
/-! bytes -/
abbrev b2 (c : UInt8) : Int := (c.toNat : Int)
def letB (c : Int) : Bool := (decide (97 ≤ c) && decide (c ≤ 122)) || (decide (65 ≤ c) && decide (c ≤ 90))
def digB (c : Int) : Bool := decide (48 ≤ c) && decide (c ≤ 57)
def innB (c : Int) : Bool := letB c || digB c || c == 95
def symL : List Int := [40, 41, 44, 61, 58, 59, 42, 47, 94]
def symB (c : Int) : Bool := symL.contains c
def badC (c : Int) : Bool := decide (126 < c) || (decide (c < 32) && c != 9)
theorem letB_iff {c : Int} : letB c = true ↔ (97 ≤ c ∧ c ≤ 122) ∨ (65 ≤ c ∧ c ≤ 90) := by simp [letB]
theorem digB_iff {c : Int} : digB c = true ↔ 48 ≤ c ∧ c ≤ 57 := by simp [digB]
theorem isDig_b2 (c : UInt8) : isDig c = digB (b2 c) := by
  rw [Bool.eq_iff_iff, digB_iff]; simp only [isDig, Bool.and_eq_true, decide_eq_true_eq]
  show (48 ≤ c.toNat ∧ c.toNat ≤ 57) ↔ (48 ≤ (c.toNat : Int) ∧ (c.toNat : Int) ≤ 57)
  omega
/-- how many bytes at the head have a property -/
def runL (p : Int → Bool) : List UInt8 → Nat
  | [] => 0
  | c :: r => if p (b2 c) then runL p r + 1 else 0
theorem runL_le (p : Int → Bool) : ∀ r, runL p r ≤ r.length
  | [] => Nat.le_refl _
  | c :: r => by unfold runL; have := runL_le p r; split <;> simp only [List.length_cons] <;> omega
theorem runL_append {p : Int → Bool} (hp : p 10 = false) (t : List UInt8) (ht : t = [] ∨ ∃ b, t = 10 :: b) : ∀ r, runL p (r ++ t) = runL p r
  | [] => by
    rcases ht with rfl | ⟨b, rfl⟩
    · rfl
    · show (if p 10 = true then runL p b + 1 else 0) = 0
      rw [hp]; rfl
  | c :: r => by
    rw [List.cons_append]; unfold runL; rw [runL_append hp t ht r]
theorem runL_at {p : Int → Bool} : ∀ {r : List UInt8} {k : Nat}, (∀ j, j < k → j < r.length ∧ p (b2 (r.getD j 0)) = true) → (k < r.length → p (b2 (r.getD k 0)) = false) → k ≤ r.length → runL p r = k
  | [], k, h1, h2, h3 => by simp at h3; subst h3; rfl
  | c :: r, 0, h1, h2, h3 => by
    have := h2 (by simp)
    unfold runL; rw [if_neg (by rw [show b2 c = b2 ((c :: r).getD 0 0) from rfl, this]; decide)]
  | c :: r, k + 1, h1, h2, h3 => by
    have h0 : p (b2 c) = true := (h1 0 (by omega)).2
    unfold runL; rw [if_pos h0]
    rw [runL_at (r := r) (k := k) (fun j hj => by
      obtain ⟨a, b⟩ := h1 (j + 1) (by omega)
      exact ⟨by simpa using a, by simpa using b⟩) (fun h => by simpa using h2 (by simpa using h)) (by simpa using h3)]
theorem runL_all {p : Int → Bool} : ∀ {r : List UInt8} {j : Nat}, j < runL p r → p (b2 (r.getD j 0)) = true
  | [], j, h => by simp [runL] at h
  | c :: r, j, h => by
    unfold runL at h
    split at h
    · rename_i hc
      cases j with
      | zero => exact hc
      | succ j => have := runL_all (p := p) (r := r) (j := j) (by omega); simpa using this
    · omega
theorem drop_byte {s : ByteArray} {i : Int} (h0 : 0 ≤ i) (hi : i < (s.size : Int)) : ∃ c r, (ls s).drop i.toNat = c :: r ∧ b2 c = byteAt s i.toNat ∧ r = (ls s).drop (i + 1).toNat := by
  have hl := ls_length s
  refine ⟨(ls s)[i.toNat]'(by omega), (ls s).drop (i.toNat + 1), List.drop_eq_getElem_cons (by omega), ?_, by rw [show (i + 1).toNat = i.toNat + 1 by omega]⟩
  rw [byteAt_ls, List.getD_eq_getElem?_getD, List.getElem?_eq_getElem (by omega)]; rfl
theorem getD_drop (l : List UInt8) (i j : Nat) : (l.drop i).getD j 0 = l.getD (i + j) 0 := by
  rw [List.getD_eq_getElem?_getD, List.getD_eq_getElem?_getD, List.getElem?_drop]
theorem run_walk {p : Int → Bool} {s : ByteArray} {fr k : Int} (h0 : 0 ≤ fr) (hf : fr ≤ (s.size : Int)) (hk : 0 ≤ k) (hkl : fr + k ≤ (s.size : Int)) (hq : ∀ j, j < k.toNat → p (byteAt s (fr.toNat + j)) = true) (he : fr + k < (s.size : Int) → p (byteAt s (fr + k).toNat) = false) :
    (runL p ((ls s).drop fr.toNat) : Int) = k := by
  have hl := ls_length s
  have := runL_at (p := p) (r := (ls s).drop fr.toNat) (k := k.toNat) (fun j hj => ⟨by rw [List.length_drop]; omega, by rw [getD_drop]; exact hq j hj⟩) (fun h => by rw [getD_drop]; rw [List.length_drop] at h; have := he (by omega); rw [show (fr + k).toNat = fr.toNat + k.toNat by omega] at this; exact this) (by rw [List.length_drop]; omega)
  omega
theorem extract_mk (s : ByteArray) (i j : Nat) : s.extract i j = (⟨(((ls s).take j).drop i).toArray⟩ : ByteArray) := by
  apply ls_inj; rw [ls_extract]
theorem extract_take (s : ByteArray) {i n : Nat} : s.extract i (i + n) = (⟨(((ls s).drop i).take n).toArray⟩ : ByteArray) := by
  apply ls_inj; rw [ls_extract, List.drop_take, show i + n - i = n by omega]
/-! numbers -/
def canL (l : List UInt8) : Bool := !(digL l).isEmpty && ((digL l).head? != some 48 || (decide ((digL l).length = 1) && !negL l))
def greatB (s : ByteArray) : Bool := parE s != 0 || decide (1099511627776 < parX s) || decide (parX s < -1099511627776)
def greatL (l : List UInt8) : Bool := greatB ⟨l.toArray⟩
/-! the token at the head of a text: kind, length, error -/
def numB (r : List UInt8) : Bool := match r with
  | [] => false
  | c :: r => digB (b2 c) || (b2 c == 45 && match r with | [] => false | d :: _ => digB (b2 d))
def nextB (r : List UInt8) : Bool := match r with
  | [] => false
  | c :: _ => letB (b2 c) || b2 c == 95
def tokAt (r : List UInt8) : Int × Nat × Int := match r with
  | [] => (0, 0, 3)
  | c :: t =>
    if b2 c = 32 ∨ b2 c = 9 then (0, 1, 0)
    else if letB (b2 c) then (if 24 < runL innB r then (0, 0, 5) else (1, runL innB r, 0))
    else if numB r then
      (if nextB (r.drop (1 + runL digB t)) || !canL (r.take (1 + runL digB t)) then (0, 0, 3) else if greatL (r.take (1 + runL digB t)) then (0, 0, 9) else (2, 1 + runL digB t, 0))
    else if symB (b2 c) then (3, 1, 0) else (0, 0, 3)
theorem nextB_append {t : List UInt8} (ht : t = [] ∨ ∃ b, t = 10 :: b) (r : List UInt8) : nextB (r ++ t) = nextB r := by
  cases r with
  | nil =>
    rcases ht with rfl | ⟨b, rfl⟩
    · rfl
    · rfl
  | cons c r => rfl
theorem numB_append {t : List UInt8} (ht : t = [] ∨ ∃ b, t = 10 :: b) {r : List UInt8} (h : r ≠ []) : numB (r ++ t) = numB r := by
  cases r with
  | nil => exact absurd rfl h
  | cons c r =>
    cases r with
    | nil =>
      rcases ht with rfl | ⟨b, rfl⟩
      · rfl
      · show (digB (b2 c) || (b2 c == 45 && digB (b2 10))) = (digB (b2 c) || (b2 c == 45 && false))
        rw [show digB (b2 10) = false from rfl]
    | cons d r => rfl
theorem innB_ten : innB 10 = false := rfl
theorem digB_ten : digB 10 = false := rfl
/-- a token does not look beyond its line -/
theorem tok_line {t : List UInt8} (ht : t = [] ∨ ∃ b, t = 10 :: b) {r : List UInt8} (h : r ≠ []) : tokAt (r ++ t) = tokAt r := by
  cases r with
  | nil => exact absurd rfl h
  | cons c r =>
    have h1 := runL_append innB_ten t ht (c :: r)
    have h2 := runL_append digB_ten t ht r
    have h3 := numB_append ht (r := c :: r) (by simp)
    have h4 := runL_le digB r
    rw [List.cons_append] at h1 h3
    have e1 : (c :: (r ++ t)).drop (1 + runL digB r) = (c :: r).drop (1 + runL digB r) ++ t := by
      rw [← List.cons_append, List.drop_append_of_le_length (by simp only [List.length_cons]; omega)]
    have e2 : (c :: (r ++ t)).take (1 + runL digB r) = (c :: r).take (1 + runL digB r) := by
      rw [← List.cons_append, List.take_append_of_le_length (by simp only [List.length_cons]; omega)]
    rw [List.cons_append]
    unfold tokAt
    simp only [h1, h2, h3, e1, e2, nextB_append ht]
theorem tok_len {r : List UInt8} (h : (tokAt r).2.2 = 0) : 1 ≤ (tokAt r).2.1 ∧ (tokAt r).2.1 ≤ r.length ∧ 0 ≤ (tokAt r).1 := by
  cases r with
  | nil => simp [tokAt] at h
  | cons c r =>
    have h1 := runL_le innB (c :: r)
    have h2 := runL_le digB r
    simp only [List.length_cons] at h1 ⊢
    unfold tokAt at h ⊢
    simp only at h ⊢
    split
    · simp
    rename_i hn
    rw [if_neg hn] at h
    split
    · rename_i hl
      rw [if_pos hl] at h
      split
      · rename_i h3; rw [if_pos h3] at h; simp at h
      · have : 1 ≤ runL innB (c :: r) := by
          have hi : innB (b2 c) = true := by unfold innB; rw [hl]; rfl
          unfold runL; rw [if_pos hi]; omega
        exact ⟨this, h1, show (0 : Int) ≤ 1 by decide⟩
    · rename_i hl
      rw [if_neg hl] at h
      split
      · rename_i hm
        rw [if_pos hm] at h
        split
        · rename_i h3; rw [if_pos h3] at h; simp at h
        rename_i h3
        rw [if_neg h3] at h
        split
        · rename_i h4; rw [if_pos h4] at h; simp at h
        · exact ⟨by simp, by simp only; omega, show (0 : Int) ≤ 2 by decide⟩
      · rename_i hm
        rw [if_neg hm] at h
        split
        · simp
        · rename_i h3; rw [if_neg h3] at h; simp at h
/-! the tokens of a text -/
structure TR where
  l : List Tk
  pl : Int
  pc : Int
  e : Int
def endT (sm : Bool) (ln col : Int) (out : List Tk) : List Tk := if sm then out ++ [⟨4, ByteArray.empty, ln, col⟩] else out
def addT (t : Int × Nat × Int) (r : List UInt8) (ln col : Int) (out : List Tk) : List Tk := if 0 < t.1 then out ++ [⟨t.1, ⟨(r.take t.2.1).toArray⟩, ln, col⟩] else out
def gS : Nat → List UInt8 → Int → Int → Bool → Bool → List Tk → TR
  | 0, _, _, _, _, _, _ => ⟨[], 0, 0, 0⟩
  | _ + 1, [], ln, col, sm, _, out => ⟨endT sm ln col out, 0, 0, 0⟩
  | f + 1, c :: r, ln, col, sm, cm, out =>
    if b2 c = 10 then gS f r (ln + 1) 1 false false (endT sm ln col out)
    else if cm then (if badC (b2 c) then ⟨[], ln, col, 3⟩ else gS f r ln (col + 1) sm true out)
    else if b2 c = 35 then gS f r ln (col + 1) sm true out
    else if (tokAt (c :: r)).2.2 ≠ 0 then ⟨[], ln, col, (tokAt (c :: r)).2.2⟩
    else gS f ((c :: r).drop (tokAt (c :: r)).2.1) ln (col + (tokAt (c :: r)).2.1) (sm || decide (0 < (tokAt (c :: r)).1)) false (addT (tokAt (c :: r)) (c :: r) ln col out)
theorem gS_fuel : ∀ (f g : Nat) (r : List UInt8) (ln col : Int) (sm cm : Bool) (out : List Tk), r.length < f → r.length < g → gS f r ln col sm cm out = gS g r ln col sm cm out := by
  intro f
  induction f with
  | zero => intro g r _ _ _ _ _ h; omega
  | succ f ih =>
    intro g r ln col sm cm out hf hg
    cases g with
    | zero => omega
    | succ g =>
      cases r with
      | nil => rfl
      | cons c r =>
        simp only [List.length_cons] at hf hg
        unfold gS
        rw [ih g r (ln + 1) 1 false false _ (by omega) (by omega), ih g r ln (col + 1) sm true out (by omega) (by omega)]
        by_cases he : (tokAt (c :: r)).2.2 ≠ 0
        · rw [if_pos he, if_pos he]
        · rw [if_neg he, if_neg he]
          have hl := tok_len (r := c :: r) (by simpa using he)
          rw [ih g ((c :: r).drop (tokAt (c :: r)).2.1) _ _ _ _ _ (by rw [List.length_drop]; simp only [List.length_cons]; omega) (by rw [List.length_drop]; simp only [List.length_cons]; omega)]
def gT (r : List UInt8) (ln col : Int) (sm cm : Bool) (out : List Tk) : TR := gS (r.length + 1) r ln col sm cm out
theorem gT_nil (ln col : Int) (sm cm : Bool) (out : List Tk) : gT [] ln col sm cm out = ⟨endT sm ln col out, 0, 0, 0⟩ := rfl
theorem gT_line (r : List UInt8) (ln col : Int) (sm cm : Bool) (out : List Tk) : gT (10 :: r) ln col sm cm out = gT r (ln + 1) 1 false false (endT sm ln col out) := by
  unfold gT
  rw [List.length_cons, gS, if_pos (show b2 10 = 10 from rfl)]
theorem gT_bad {c : UInt8} (r : List UInt8) (ln col : Int) (sm : Bool) (out : List Tk) (h : b2 c ≠ 10) (hb : badC (b2 c) = true) : gT (c :: r) ln col sm true out = ⟨[], ln, col, 3⟩ := by
  unfold gT
  rw [List.length_cons, gS, if_neg h, if_pos rfl, if_pos hb]
theorem gT_comment {c : UInt8} (r : List UInt8) (ln col : Int) (sm : Bool) (out : List Tk) (h : b2 c ≠ 10) (hb : badC (b2 c) = false) : gT (c :: r) ln col sm true out = gT r ln (col + 1) sm true out := by
  unfold gT
  rw [List.length_cons, gS, if_neg h, if_pos rfl, if_neg (by rw [hb]; decide)]
theorem gT_hash {c : UInt8} (r : List UInt8) (ln col : Int) (sm : Bool) (out : List Tk) (h : b2 c = 35) : gT (c :: r) ln col sm false out = gT r ln (col + 1) sm true out := by
  unfold gT
  rw [List.length_cons, gS, if_neg (by omega), if_neg (by decide), if_pos h]
theorem gT_err {c : UInt8} (r : List UInt8) (ln col : Int) (sm : Bool) (out : List Tk) (h : b2 c ≠ 10) (h2 : b2 c ≠ 35) (he : (tokAt (c :: r)).2.2 ≠ 0) : gT (c :: r) ln col sm false out = ⟨[], ln, col, (tokAt (c :: r)).2.2⟩ := by
  unfold gT
  rw [List.length_cons, gS, if_neg h, if_neg (by decide), if_neg h2, if_pos he]
theorem gT_tok {c : UInt8} (r : List UInt8) (ln col : Int) (sm : Bool) (out : List Tk) (h : b2 c ≠ 10) (h2 : b2 c ≠ 35) (he : (tokAt (c :: r)).2.2 = 0) :
    gT (c :: r) ln col sm false out = gT ((c :: r).drop (tokAt (c :: r)).2.1) ln (col + (tokAt (c :: r)).2.1) (sm || decide (0 < (tokAt (c :: r)).1)) false (addT (tokAt (c :: r)) (c :: r) ln col out) := by
  have hl := tok_len he
  unfold gT
  rw [List.length_cons, gS, if_neg h, if_neg (by decide), if_neg h2, if_neg (by simpa using he)]
  exact gS_fuel _ _ _ _ _ _ _ _ (by rw [List.length_drop]; simp only [List.length_cons]; omega) (by omega)
def tkF (s : ByteArray) : TR := if 16384 < s.size then ⟨[], 0, 0, 5⟩ else gT (ls s) 1 1 false false []
/-! lines -/
def joinL : List (List UInt8) → List UInt8
  | [] => []
  | [x] => x
  | x :: y :: z => x ++ 10 :: joinL (y :: z)
theorem join_split : ∀ l, joinL (splitOn 10 l) = l
  | [] => rfl
  | x :: r => by
    have ih := join_split r
    unfold splitOn
    split
    · rename_i h
      subst h
      cases hs : splitOn 10 r with
      | nil => exact absurd hs (splitOn_ne 10 r)
      | cons a b => rw [hs] at ih; show [] ++ 10 :: joinL (a :: b) = _; rw [ih]; rfl
    · split
      · rename_i h; exact absurd h (splitOn_ne 10 r)
      · rename_i a b h
        rw [h] at ih
        cases b with
        | nil => show x :: a = _; rw [show a = r from ih]
        | cons y z =>
          show (x :: a) ++ 10 :: joinL (y :: z) = _
          rw [List.cons_append]
          show x :: joinL (a :: y :: z) = _
          rw [ih]
theorem split_no {c : UInt8} : ∀ {l x : List UInt8}, x ∈ splitOn c l → c ∉ x
  | [], x, h => by simp [splitOn] at h; subst h; simp
  | y :: r, x, h => by
    unfold splitOn at h
    split at h
    · rcases List.mem_cons.1 h with rfl | h
      · simp
      · exact split_no h
    · rename_i hy
      split at h
      · simp at h; subst h; simp; exact fun e => hy e.symm
      · rename_i a b hs
        rcases List.mem_cons.1 h with rfl | h
        · simp only [List.mem_cons, not_or]; exact ⟨fun e => hy e.symm, split_no (by rw [hs]; simp)⟩
        · exact split_no (by rw [hs]; exact List.mem_cons_of_mem _ h)
theorem piece_no (c : UInt8) (l : List UInt8) {i : Nat} (h : i < (splitOn c l).length) : c ∉ (splitOn c l).getD i [] := by
  rw [List.getD_eq_getElem?_getD, List.getElem?_eq_getElem h]; exact split_no (List.getElem_mem _)
/-- what follows a line -/
def tailL (L : List (List UInt8)) (i : Nat) : List UInt8 := if i + 1 < L.length then 10 :: joinL (L.drop (i + 1)) else []
theorem tailL_or (L : List (List UInt8)) (i : Nat) : tailL L i = [] ∨ ∃ b, tailL L i = 10 :: b := by
  unfold tailL; split
  · exact .inr ⟨_, rfl⟩
  · exact .inl rfl
theorem join_drop {L : List (List UInt8)} {i : Nat} (h : i < L.length) : joinL (L.drop i) = L.getD i [] ++ tailL L i := by
  rw [List.drop_eq_getElem_cons h, List.getD_eq_getElem?_getD, List.getElem?_eq_getElem h, Option.getD_some]
  unfold tailL
  split
  · rename_i h2
    rw [List.drop_eq_getElem_cons h2]; rfl
  · rename_i h2
    rw [List.drop_eq_nil_of_le (by omega), List.append_nil]; rfl
/-- the state between two lines -/
def lineQ (L : List (List UInt8)) (i : Int) (out : List Tk) : TR := if i < (L.length : Int) then gT (joinL (L.drop i.toNat)) (i + 1) 1 false false out else ⟨out, 0, 0, 0⟩
theorem line_end {L : List (List UInt8)} {i : Int} (h0 : 0 ≤ i) (h : i < (L.length : Int)) (col : Int) (sm cm : Bool) (out : List Tk) : gT (tailL L i.toNat) (i + 1) col sm cm out = lineQ L (i + 1) (endT sm (i + 1) col out) := by
  unfold lineQ tailL
  by_cases h2 : i.toNat + 1 < L.length
  · rw [if_pos h2, if_pos (by omega), gT_line, show (i + 1).toNat = i.toNat + 1 by omega]
  · rw [if_neg h2, if_neg (by omega), gT_nil]
theorem line_start {L : List (List UInt8)} {i : Int} (h0 : 0 ≤ i) (h : i < (L.length : Int)) (out : List Tk) : lineQ L i out = gT ((L.getD i.toNat []).drop (0 : Int).toNat ++ tailL L i.toNat) (i + 1) (0 + 1) false false out := by
  unfold lineQ; rw [if_pos h, join_drop (by omega)]; rfl
theorem line_first (s : ByteArray) (h : ¬ 16384 < s.size) : tkF s = lineQ (splitOn 10 (ls s)) 0 [] := by
  unfold tkF lineQ
  rw [if_neg h, if_pos (by have := splitOn_ne 10 (ls s); cases hs : splitOn 10 (ls s) with | nil => exact absurd hs this | cons _ _ => simp)]
  show gT (ls s) 1 1 false false [] = gT (joinL (splitOn 10 (ls s))) 1 1 false false []
  rw [join_split]

/-! what the walks see -/
def ixS (c : Int) : Int := Lib.indexByte (ls (⟨#[40, 41, 44, 61, 58, 59, 42, 47, 94]⟩ : ByteArray)) c.toNat.toUInt8
theorem ixS_fin : ∀ c : Fin 256, decide (ixS (c.val : Int) ≥ 0) = symB (c.val : Int) := by decide +kernel
theorem ixS_sym {c : Int} (h0 : 0 ≤ c) (h : c ≤ 255) : decide (ixS c ≥ 0) = symB c := by
  have := ixS_fin ⟨c.toNat, by omega⟩
  simp only [Int.toNat_of_nonneg h0] at this; exact this
theorem can_eq {s d : ByteArray} (hd : ls d = digL (ls s)) : canL (ls s) = (!decide (d.size = 0) && (!decide (byteAt d 0 = 48) || (decide (d.size = 1) && !negL (ls s)))) := by
  have hl := ls_length d
  unfold canL
  by_cases h0 : d.size = 0
  · rw [← hd, show ls d = [] from List.eq_nil_of_length_eq_zero (by omega), decide_eq_true h0]; rfl
  · rw [decide_eq_false h0, show (digL (ls s)).isEmpty = false by rw [← hd, List.isEmpty_eq_false_iff]; intro e; rw [e] at hl; simp at hl; omega]
    have h1 : ((digL (ls s)).head? != some 48) = !decide (byteAt d 0 = 48) := by
      show (!((digL (ls s)).head? == some 48)) = _
      rw [head48 hd h0]
    rw [h1, ← hd, hl]
theorem can_no {t d : ByteArray} (hd : ls d = digL (ls t)) (h48 : byteAt d 0 = 48) (h1 : 1 < t.size) (hng : negL (ls t) = false → d.size = t.size) : canL (ls t) = false := by
  rw [can_eq hd, decide_eq_true h48]
  cases hn : negL (ls t) with
  | false => rw [decide_eq_false (show ¬ d.size = 1 by have := hng hn; omega)]; simp
  | true => simp
theorem great_eq (s : ByteArray) : greatB s = (!decide (parE s = 0) || (decide (parX s > 1099511627776) || decide (parX s < -1099511627776))) := by
  unfold greatB
  rw [Bool.or_assoc]
  congr 1
theorem ext_take (s : ByteArray) {i k : Int} (h0 : 0 ≤ i) (hk : 0 ≤ k) : s.extract i.toNat (i + k).toNat = (⟨(((ls s).drop i.toNat).take k.toNat).toArray⟩ : ByteArray) := by
  rw [show (i + k).toNat = i.toNat + k.toNat by omega]; exact extract_take s
theorem ls_tail (s : ByteArray) (i : Nat) : ls (s.extract i s.size) = (ls s).drop i := by
  rw [ls_extract, ← ls_length, List.take_length]
section
variable {s : ByteArray} {i : Int} {c : UInt8} {r : List UInt8}
theorem numB_yes (h0 : 0 ≤ i) (hr : (ls s).drop i.toNat = c :: r) (hc : b2 c = byteAt s i.toNat) (hr2 : r = (ls s).drop (i + 1).toNat)
    (h : digB (byteAt s i.toNat) = true ∨ (byteAt s i.toNat = 45 ∧ i + 1 < (s.size : Int) ∧ digB (byteAt s (i + 1).toNat) = true)) : numB (c :: r) = true := by
  unfold numB
  rcases h with h | ⟨h1, h2, h3⟩
  · simp only [hc, h, Bool.true_or]
  · obtain ⟨d, t, e1, e2, _⟩ := drop_byte (s := s) (i := i + 1) (by omega) h2
    rw [e1] at hr2
    subst hr2
    simp only [hc, h1, e2, h3]; rfl
theorem numB_no (h0 : 0 ≤ i) (hr : (ls s).drop i.toNat = c :: r) (hc : b2 c = byteAt s i.toNat) (hr2 : r = (ls s).drop (i + 1).toNat)
    (h : digB (byteAt s i.toNat) = false) (h2 : byteAt s i.toNat ≠ 45 ∨ ¬ i + 1 < (s.size : Int) ∨ digB (byteAt s (i + 1).toNat) = false) : numB (c :: r) = false := by
  have hl := ls_length s
  unfold numB
  simp only [hc, h, Bool.false_or]
  rcases h2 with h2 | h2 | h2
  · rw [beq_eq_false_iff_ne.2 h2]; rfl
  · rw [hr2, List.drop_eq_nil_of_le (by omega), Bool.and_false]
  · by_cases h3 : i + 1 < (s.size : Int)
    · obtain ⟨d, t, e1, e2, _⟩ := drop_byte (s := s) (i := i + 1) (by omega) h3
      rw [e1] at hr2
      subst hr2
      simp only [e2, h2, Bool.and_false]
    · rw [hr2, List.drop_eq_nil_of_le (by omega), Bool.and_false]
theorem next_eq {k : Int} (h0 : 0 ≤ k) : nextB ((ls s).drop k.toNat) = (decide (k < (s.size : Int)) && (letB (byteAt s k.toNat) || decide (byteAt s k.toNat = 95))) := by
  have hl := ls_length s
  by_cases h3 : k < (s.size : Int)
  · obtain ⟨d, t, e1, e2, _⟩ := drop_byte h0 h3
    rw [e1, decide_eq_true h3]
    show (letB (b2 d) || b2 d == 95) = _
    rw [e2, Bool.true_and]; rfl
  · rw [decide_eq_false h3, List.drop_eq_nil_of_le (by omega)]; rfl
theorem drop_more (h0 : 0 ≤ i) (hr : (ls s).drop i.toNat = c :: r) {k : Int} (hk : 0 ≤ k) : (c :: r).drop k.toNat = (ls s).drop (i + k).toNat := by
  rw [← hr, List.drop_drop]; congr 1; omega
end
section
variable {c : UInt8} {r : List UInt8}
theorem tok_blank (h : b2 c = 32 ∨ b2 c = 9) : tokAt (c :: r) = (0, 1, 0) := by unfold tokAt; simp only; rw [if_pos h]
theorem tok_word (h : ¬ (b2 c = 32 ∨ b2 c = 9)) (h2 : letB (b2 c) = true) : tokAt (c :: r) = if 24 < runL innB (c :: r) then (0, 0, 5) else (1, runL innB (c :: r), 0) := by
  unfold tokAt; simp only; rw [if_neg h, if_pos h2]
theorem tok_num (h : ¬ (b2 c = 32 ∨ b2 c = 9)) (h2 : letB (b2 c) = false) (h3 : numB (c :: r) = true) : tokAt (c :: r) =
    if nextB ((c :: r).drop (1 + runL digB r)) || !canL ((c :: r).take (1 + runL digB r)) then (0, 0, 3) else if greatL ((c :: r).take (1 + runL digB r)) then (0, 0, 9) else (2, 1 + runL digB r, 0) := by
  unfold tokAt; simp only; rw [if_neg h, if_neg (by rw [h2]; decide), if_pos h3]
theorem tok_sym (h : ¬ (b2 c = 32 ∨ b2 c = 9)) (h2 : letB (b2 c) = false) (h3 : numB (c :: r) = false) : tokAt (c :: r) = if symB (b2 c) then (3, 1, 0) else (0, 0, 3) := by
  unfold tokAt; simp only; rw [if_neg h, if_neg (by rw [h2]; decide), if_neg (by rw [h3]; decide)]
end
def digitsF (r : List UInt8) : Int := if numB r then ((1 + runL digB r.tail : Nat) : Int) else 0
def numE (t : ByteArray) (nx : List UInt8) : Int := if nextB nx || !canL (ls t) then 3 else if greatB t then 9 else 0

theorem tokF3 {t : List UInt8} {k n e : Int} (h : tokAt t = (k, n.toNat, e)) (hn : 0 ≤ n) : (tokAt t).1 = k ∧ ((tokAt t).2.1 : Int) = n ∧ (tokAt t).2.2 = e := by
  rw [h]; exact ⟨rfl, by show ((n.toNat : Nat) : Int) = n; omega, rfl⟩
theorem digits_first {c : UInt8} {r : List UInt8} (h : numB (c :: r) = true) : (digL ((c :: r).take (1 + runL digB r))) ≠ [] ∧ (digL ((c :: r).take (1 + runL digB r))).all isDig = true := by
  rw [Nat.add_comm, List.take_succ_cons]
  have hall : (r.take (runL digB r)).all isDig = true := by
    rw [List.all_eq_true]
    intro x hx
    obtain ⟨j, hj, rfl⟩ := List.mem_iff_getElem.1 hx
    rw [List.length_take] at hj
    have := runL_all (p := digB) (r := r) (j := j) (by omega)
    rw [List.getD_eq_getElem?_getD, List.getElem?_eq_getElem (by omega), Option.getD_some] at this
    rw [List.getElem_take, isDig_b2]; exact this
  by_cases hc : c = 45
  · subst hc
    refine ⟨?_, hall⟩
    show r.take (runL digB r) ≠ []
    unfold numB at h
    cases r with
    | nil => exact absurd h (by decide)
    | cons d t =>
      have hd : digB (b2 d) = true := by
        have h45 : digB (b2 45) = false := rfl
        simp only [h45, Bool.false_or, Bool.and_eq_true] at h
        exact h.2
      unfold runL; rw [if_pos hd]; simp
  · have hn : negL (c :: r.take (runL digB r)) = false := beq_eq_false_iff_ne.2 (fun e => hc (Option.some.inj e))
    rw [digL_pos hn]
    refine ⟨by simp, ?_⟩
    have hd : digB (b2 c) = true := by
      unfold numB at h
      have h45 : (b2 c == 45) = false := beq_eq_false_iff_ne.2 (fun e => hc (UInt8.toNat_inj.1 (by have : (45 : UInt8).toNat = 45 := rfl; have e2 : (c.toNat : Int) = 45 := e; omega)))
      simp only [h45, Bool.false_and, Bool.or_false] at h
      exact h
    rw [List.all_cons, isDig_b2, hd, hall]; rfl
theorem mk_len (l : List UInt8) : (⟨l.toArray⟩ : ByteArray).size = l.length := by rw [← ls_length]
/-! the reference's number -/
theorem numE_bad {t : ByteArray} {nx : List UInt8} (h : nextB nx = true ∨ canL (ls t) = false) : numE t nx = 3 := by
  unfold numE
  rcases h with h | h
  · rw [h]; rfl
  · rw [h, Bool.not_false, Bool.or_true]; rfl
theorem numE_great {t : ByteArray} {nx : List UInt8} (h : nextB nx = false) (h2 : canL (ls t) = true) (h3 : greatB t = true) : numE t nx = 9 := by unfold numE; rw [h, h2, h3]; rfl
theorem numE_ok {t : ByteArray} {nx : List UInt8} (h : nextB nx = false) (h2 : canL (ls t) = true) (h3 : greatB t = false) : numE t nx = 0 := by unfold numE; rw [h, h2, h3]; rfl
theorem next_zero (t : ByteArray) : nextB (ls t) = (decide (0 < (t.size : Int)) && (letB (byteAt t 0) || decide (byteAt t 0 = 95))) := by
  have := next_eq (s := t) (k := 0) (Int.le_refl _)
  simpa using this
theorem can_form {l : List UInt8} (h : canL l = true) (ha : (digL l).all isDig = true) : formL l = true := by
  unfold canL at h
  unfold formL
  simp only [Bool.and_eq_true, Bool.or_eq_true, bne_iff_ne, decide_eq_true_eq, Bool.not_eq_true'] at h
  obtain ⟨h1, h2⟩ := h
  rw [h1, ha, Bool.not_false, Bool.true_and, Bool.true_and]
  rcases h2 with h2 | ⟨h2, h3⟩
  · rw [beq_eq_false_iff_ne.2 h2]; rfl
  · rw [digL_pos h3] at h2
    rw [decide_eq_false (by omega), Bool.and_false]; rfl
theorem great_long {t : ByteArray} (h : canL (ls t) = true) (ha : (digL (ls t)).all isDig = true) (hs : 20 < t.size) : greatB t = true := by
  have hf := can_form h ha
  have hne : parE t ≠ 0 := by
    intro e
    obtain ⟨_, _, h3, _⟩ := par_facts e
    have := fit_long (s := t) (d := ⟨(digL (ls t)).toArray⟩) rfl hf (by rw [mk_len]; have := (digL_len (ls t)).2; rw [ls_length] at this; omega)
    rw [this] at h3; cases h3
  unfold greatB; rw [bne_iff_ne.2 hne]; rfl
theorem par_err {t : ByteArray} (h : canL (ls t) = true) (ha : (digL (ls t)).all isDig = true) (hs : t.size ≤ 24) (he : ¬ parE t = 0) : parE t = 9 := by
  have hf := can_form h ha
  unfold parE at he ⊢
  rw [if_neg (by omega), if_pos hf] at he ⊢
  split
  · rename_i h1; rw [if_pos h1] at he; exact absurd rfl he
  · rfl

/-! steps of the tokens of a text, line by line -/
section
variable {x : ByteArray} {at_ : Int} {T : List UInt8} {ln col : Int} {sm : Bool} {out : List Tk}
theorem no_ten (hno : 10 ∉ ls x) {i : Int} (h0 : 0 ≤ i) (hi : i < (x.size : Int)) : byteAt x i.toNat ≠ 10 := by
  obtain ⟨c, r, hr, hc, _⟩ := drop_byte h0 hi
  rw [← hc]
  intro e
  have : c = 10 := UInt8.toNat_inj.1 (by have h10 : (10 : UInt8).toNat = 10 := rfl; have e2 : (c.toNat : Int) = 10 := e; omega)
  subst this
  exact hno (List.mem_of_mem_drop (by rw [hr]; simp))
theorem lx_err (h0 : 0 ≤ at_) (hi : at_ < (x.size : Int)) (hno : 10 ∉ ls x) (h35 : byteAt x at_.toNat ≠ 35) (hT : T = [] ∨ ∃ b, T = 10 :: b) (he : (tokAt ((ls x).drop at_.toNat)).2.2 ≠ 0) :
    gT ((ls x).drop at_.toNat ++ T) ln col sm false out = ⟨[], ln, col, (tokAt ((ls x).drop at_.toNat)).2.2⟩ := by
  have h10 := no_ten hno h0 hi
  obtain ⟨c, r, hr, hc, _⟩ := drop_byte h0 hi
  rw [hr] at he ⊢
  have ht := tok_line hT (r := c :: r) (by simp)
  rw [List.cons_append] at ht ⊢
  rw [gT_err _ _ _ _ _ (by rw [hc]; exact h10) (by rw [hc]; exact h35) (by rw [ht]; exact he), ht]
theorem lx_tok (h0 : 0 ≤ at_) (hi : at_ < (x.size : Int)) (hno : 10 ∉ ls x) (h35 : byteAt x at_.toNat ≠ 35) (hT : T = [] ∨ ∃ b, T = 10 :: b) (he : (tokAt ((ls x).drop at_.toNat)).2.2 = 0) :
    gT ((ls x).drop at_.toNat ++ T) ln col sm false out = gT ((ls x).drop (at_ + (tokAt ((ls x).drop at_.toNat)).2.1).toNat ++ T) ln (col + (tokAt ((ls x).drop at_.toNat)).2.1) (sm || decide (0 < (tokAt ((ls x).drop at_.toNat)).1)) false
      (if 0 < (tokAt ((ls x).drop at_.toNat)).1 then out ++ [⟨(tokAt ((ls x).drop at_.toNat)).1, x.extract at_.toNat (at_ + (tokAt ((ls x).drop at_.toNat)).2.1).toNat, ln, col⟩] else out) := by
  have h10 := no_ten hno h0 hi
  obtain ⟨n1, n2, _⟩ := tok_len he
  have hx := ext_take x (i := at_) (k := (tokAt ((ls x).drop at_.toNat)).2.1) h0 (by omega)
  have hd : (ls x).drop (at_ + (tokAt ((ls x).drop at_.toNat)).2.1).toNat = ((ls x).drop at_.toNat).drop (tokAt ((ls x).drop at_.toNat)).2.1 := by
    rw [List.drop_drop]; congr 1; omega
  rw [hx, hd, Int.toNat_natCast]
  obtain ⟨c, r, hr, hc, _⟩ := drop_byte h0 hi
  rw [hr] at he n2 ⊢
  have ht := tok_line hT (r := c :: r) (by simp)
  rw [List.cons_append] at ht ⊢
  rw [gT_tok _ _ _ _ _ (by rw [hc]; exact h10) (by rw [hc]; exact h35) (by rw [ht]; exact he), ht, ← List.cons_append, List.drop_append_of_le_length n2]
  unfold addT
  rw [List.take_append_of_le_length n2]
theorem lx_tok0 (h0 : 0 ≤ at_) (hi : at_ < (x.size : Int)) (hno : 10 ∉ ls x) (h35 : byteAt x at_.toNat ≠ 35) (hT : T = [] ∨ ∃ b, T = 10 :: b) (he : (tokAt ((ls x).drop at_.toNat)).2.2 = 0) (hk : ¬ (tokAt ((ls x).drop at_.toNat)).1 > 0) :
    gT ((ls x).drop at_.toNat ++ T) ln (at_ + 1) sm false out = gT ((ls x).drop (at_ + (tokAt ((ls x).drop at_.toNat)).2.1).toNat ++ T) ln (at_ + (tokAt ((ls x).drop at_.toNat)).2.1 + 1) sm false out := by
  rw [lx_tok h0 hi hno h35 hT he, if_neg (by omega), decide_eq_false (by omega), Bool.or_false]; congr 1; omega
theorem lx_tok1 (h0 : 0 ≤ at_) (hi : at_ < (x.size : Int)) (hno : 10 ∉ ls x) (h35 : byteAt x at_.toNat ≠ 35) (hT : T = [] ∨ ∃ b, T = 10 :: b) (he : (tokAt ((ls x).drop at_.toNat)).2.2 = 0) (hk : (tokAt ((ls x).drop at_.toNat)).1 > 0) :
    gT ((ls x).drop at_.toNat ++ T) ln (at_ + 1) sm false out = gT ((ls x).drop (at_ + (tokAt ((ls x).drop at_.toNat)).2.1).toNat ++ T) ln (at_ + (tokAt ((ls x).drop at_.toNat)).2.1 + 1) true false
      (out ++ [⟨(tokAt ((ls x).drop at_.toNat)).1, x.extract at_.toNat (at_ + (tokAt ((ls x).drop at_.toNat)).2.1).toNat, ln, at_ + 1⟩]) := by
  rw [lx_tok h0 hi hno h35 hT he, if_pos (by omega), decide_eq_true (by omega), Bool.or_true]; congr 1; omega
theorem lx_hash (h0 : 0 ≤ at_) (hi : at_ < (x.size : Int)) (h35 : byteAt x at_.toNat = 35) : gT ((ls x).drop at_.toNat ++ T) ln col sm false out = gT ((ls x).drop at_.toNat ++ T) ln col sm true out := by
  obtain ⟨c, r, hr, hc, _⟩ := drop_byte h0 hi
  rw [hr, List.cons_append]
  rw [gT_hash _ _ _ _ _ (by rw [hc]; exact h35), gT_comment _ _ _ _ _ (by rw [hc, h35]; decide) (by rw [hc, h35]; decide)]
theorem lx_bad (h0 : 0 ≤ at_) (hi : at_ < (x.size : Int)) (hno : 10 ∉ ls x) (hb : byteAt x at_.toNat > 126 ∨ (byteAt x at_.toNat < 32 ∧ ¬ byteAt x at_.toNat = 9)) : gT ((ls x).drop at_.toNat ++ T) ln col sm true out = ⟨[], ln, col, 3⟩ := by
  have h10 := no_ten hno h0 hi
  obtain ⟨c, r, hr, hc, _⟩ := drop_byte h0 hi
  rw [hr, List.cons_append]
  exact gT_bad _ _ _ _ _ (by rw [hc]; exact h10) (by rw [hc]; unfold badC; simp only [Bool.or_eq_true, Bool.and_eq_true, decide_eq_true_eq, bne_iff_ne]; omega)
theorem lx_comment (h0 : 0 ≤ at_) (hi : at_ < (x.size : Int)) (hno : 10 ∉ ls x) (hb : ¬ byteAt x at_.toNat > 126 ∧ (¬ byteAt x at_.toNat < 32 ∨ byteAt x at_.toNat = 9)) : gT ((ls x).drop at_.toNat ++ T) ln (at_ + 1) sm true out = gT ((ls x).drop (at_ + 1).toNat ++ T) ln (at_ + 1 + 1) sm true out := by
  have h10 := no_ten hno h0 hi
  obtain ⟨c, r, hr, hc, hr2⟩ := drop_byte h0 hi
  rw [hr, ← hr2, List.cons_append]
  refine gT_comment _ _ _ _ _ (by rw [hc]; exact h10) ?_
  rw [hc]; unfold badC
  rw [Bool.or_eq_false_iff, decide_eq_false_iff_not, Bool.and_eq_false_iff, decide_eq_false_iff_not]
  refine ⟨by omega, ?_⟩
  rcases hb.2 with h | h
  · exact .inl h
  · right; rw [h]; rfl
end
theorem lx_end {s x : ByteArray} {i at_ : Int} (h0 : 0 ≤ i) (hi : i < ((splitOn 10 (ls s)).length : Int)) (ha : (x.size : Int) ≤ at_) (sm cm : Bool) (col : Int) (out : List Tk) :
    gT ((ls x).drop at_.toNat ++ tailL (splitOn 10 (ls s)) i.toNat) (i + 1) col sm cm out = lineQ (splitOn 10 (ls s)) (i + 1) (endT sm (i + 1) col out) := by
  rw [List.drop_eq_nil_of_le (by rw [ls_length]; omega), List.nil_append, line_end h0 hi]
theorem line_done {s : ByteArray} {i : Int} (hi : ((splitOn 10 (ls s)).length : Int) ≤ i) (out : List Tk) : lineQ (splitOn 10 (ls s)) i out = ⟨out, 0, 0, 0⟩ := by unfold lineQ; rw [if_neg (by omega)]
theorem sm_more {a : Nat} {out : List Tk} {t : Tk} (h : a ≤ out.length) : decide (a < (out ++ [t]).length) = true := decide_eq_true (by rw [List.length_append, List.length_singleton]; omega)

/-! the reference -/
def wordF (r : List UInt8) : Int := match r with | [] => 0 | c :: _ => if letB (b2 c) then (runL innB r : Int) else 0
theorem innB_let {c : Int} (h : letB c = true) : innB c = true := by unfold innB; rw [h]; rfl
theorem innB_eq (c : Int) : innB c = (letB c || digB c || decide (c = 95)) := rfl
theorem word_zero {s : ByteArray} (h : s.size = 0 ∨ letB (byteAt s 0) = false) : wordF (ls s) = 0 := by
  have hl := ls_length s
  cases hs : ls s with
  | nil => rfl
  | cons c r =>
    rcases h with h | h
    · rw [hs] at hl; simp at hl; omega
    · rw [byteAt_ls, hs] at h
      show (if letB (b2 c) = true then _ else (0 : Int)) = 0
      rw [show letB (b2 c) = false from h]; rfl
theorem word_some {s : ByteArray} (h : s.size ≠ 0) (h2 : letB (byteAt s 0) = true) : wordF (ls s) = (runL innB (ls s) : Int) := by
  have hl := ls_length s
  cases hs : ls s with
  | nil => rw [hs] at hl; simp at hl; omega
  | cons c r =>
    rw [byteAt_ls, hs] at h2
    show (if letB (b2 c) = true then _ else (0 : Int)) = _
    rw [if_pos (show letB (b2 c) = true from h2)]
theorem run_all {p : Int → Bool} {s : ByteArray} {k : Int} (hk : 0 ≤ k) (hkl : k ≤ (s.size : Int)) (hq : ∀ j, j < k.toNat → p (byteAt s j) = true) (he : k < (s.size : Int) → p (byteAt s k.toNat) = false) : (runL p (ls s) : Int) = k := by
  have := run_walk (p := p) (s := s) (fr := 0) (k := k) (Int.le_refl _) (by omega) hk (by omega) (fun j hj => by simpa using hq j hj) (fun h => by simpa using he (by omega))
  simpa using this
/-- the digits behind a minus sign, or from the first byte on -/
theorem digits_walk {s : ByteArray} {f k : Int} (hf : f = 0 ∨ (f = 1 ∧ s.size ≠ 0 ∧ byteAt s 0 = 45)) (hf2 : f = 0 → s.size = 0 ∨ byteAt s 0 ≠ 45) (hk : f ≤ k) (hkl : k ≤ (s.size : Int)) (hq : ∀ j, f.toNat ≤ j → j < k.toNat → digB (byteAt s j) = true) (he : k < (s.size : Int) → digB (byteAt s k.toNat) = false) :
    digitsF (ls s) = if k = f then 0 else k := by
  have hl := ls_length s
  by_cases h0 : s.size = 0
  · have hs : ls s = [] := List.eq_nil_of_length_eq_zero (by omega)
    rw [hs]
    have : k = f := by rcases hf with h | h <;> omega
    rw [if_pos this]; rfl
  obtain ⟨c, r, hr, hc, hr2⟩ := drop_byte (s := s) (i := 0) (Int.le_refl _) (by omega)
  have hcr : ls s = c :: r := by simpa using hr
  have hc0 : b2 c = byteAt s 0 := hc
  have hr3 : r = (ls s).drop (1 : Int).toNat := hr2
  rcases hf with rfl | ⟨rfl, _, h45⟩
  · have hne := (hf2 rfl).resolve_left h0
    by_cases hk0 : k = 0
    · rw [if_pos hk0]
      have hd : digB (byteAt s (0 : Int).toNat) = false := by have := he (by omega); rw [hk0] at this; exact this
      have := numB_no (s := s) (i := 0) (Int.le_refl _) hr hc hr2 hd (.inl hne)
      unfold digitsF; rw [hcr, this]; rfl
    · rw [if_neg hk0]
      have hd : digB (byteAt s (0 : Int).toNat) = true := hq 0 (by simp) (by omega)
      have := numB_yes (s := s) (i := 0) (Int.le_refl _) hr hc hr2 (.inl hd)
      unfold digitsF; rw [hcr, this, if_pos rfl, List.tail_cons]
      have h1 := run_walk (p := digB) (s := s) (fr := 1) (k := k - 1) (by omega) (by omega) (by omega) (by omega) (fun j hj => by rw [show (1 : Int).toNat + j = j + 1 by simp; omega]; exact hq (j + 1) (by simp) (by omega)) (fun h => by rw [show (1 + (k - 1)).toNat = k.toNat by omega]; exact he (by omega))
      rw [← hr3] at h1; omega
  · have hd45 : digB (byteAt s (0 : Int).toNat) = false := by show digB (byteAt s 0) = false; rw [h45]; rfl
    have h1 := run_walk (p := digB) (s := s) (fr := 1) (k := k - 1) (by omega) (by omega) (by omega) (by omega) (fun j hj => by rw [show (1 : Int).toNat + j = j + 1 by simp; omega]; exact hq (j + 1) (by simp) (by omega)) (fun h => by rw [show (1 + (k - 1)).toNat = k.toNat by omega]; exact he (by omega))
    rw [← hr3] at h1
    by_cases hk1 : k = 1
    · rw [if_pos hk1]
      have := numB_no (s := s) (i := 0) (Int.le_refl _) hr hc hr2 hd45 (by
        by_cases h2 : 0 + 1 < (s.size : Int)
        · right; right; have := he (by omega); rw [hk1] at this; exact this
        · exact .inr (.inl h2))
      unfold digitsF; rw [hcr, this]; rfl
    · rw [if_neg hk1]
      have := numB_yes (s := s) (i := 0) (Int.le_refl _) hr hc hr2 (.inr ⟨h45, by omega, hq 1 (by simp) (by omega)⟩)
      unfold digitsF; rw [hcr, this, if_pos rfl, List.tail_cons]; omega
/-! the reference's step -/
section
variable {s : ByteArray} {i ln col : Int} {sm : Bool} {out : List Tk} {c : UInt8} {r : List UInt8}
theorem rx_line (hr : (ls s).drop i.toNat = c :: r) (hc : b2 c = byteAt s i.toNat) (hr2 : r = (ls s).drop (i + 1).toNat) (h : byteAt s i.toNat = 10) (cm : Bool) : gT ((ls s).drop i.toNat) ln col sm cm out = gT ((ls s).drop (i + 1).toNat) (ln + 1) 1 false false (endT sm ln col out) := by
  have : c = 10 := UInt8.toNat_inj.1 (by have h10 : (10 : UInt8).toNat = 10 := rfl; have e2 : (c.toNat : Int) = 10 := hc.trans h; omega)
  rw [hr, this, ← hr2, gT_line]
theorem rx_bad (hr : (ls s).drop i.toNat = c :: r) (hc : b2 c = byteAt s i.toNat) (h : ¬ byteAt s i.toNat = 10) (hb : byteAt s i.toNat > 126 ∨ (byteAt s i.toNat < 32 ∧ ¬ byteAt s i.toNat = 9)) : gT ((ls s).drop i.toNat) ln col sm true out = ⟨[], ln, col, 3⟩ := by
  rw [hr]
  exact gT_bad _ _ _ _ _ (by rw [hc]; exact h) (by rw [hc]; unfold badC; simp only [Bool.or_eq_true, Bool.and_eq_true, decide_eq_true_eq, bne_iff_ne]; omega)
theorem rx_comment (hr : (ls s).drop i.toNat = c :: r) (hc : b2 c = byteAt s i.toNat) (hr2 : r = (ls s).drop (i + 1).toNat) (h : ¬ byteAt s i.toNat = 10) (hb : ¬ byteAt s i.toNat > 126 ∧ (¬ byteAt s i.toNat < 32 ∨ byteAt s i.toNat = 9)) : gT ((ls s).drop i.toNat) ln col sm true out = gT ((ls s).drop (i + 1).toNat) ln (col + 1) sm true out := by
  rw [hr, ← hr2]
  refine gT_comment _ _ _ _ _ (by rw [hc]; exact h) ?_
  rw [hc]; unfold badC
  rw [Bool.or_eq_false_iff, decide_eq_false_iff_not, Bool.and_eq_false_iff, decide_eq_false_iff_not]
  refine ⟨by omega, ?_⟩
  rcases hb.2 with h | h
  · exact .inl h
  · right; rw [h]; rfl
theorem rx_hash (hr : (ls s).drop i.toNat = c :: r) (hc : b2 c = byteAt s i.toNat) (hr2 : r = (ls s).drop (i + 1).toNat) (h : byteAt s i.toNat = 35) : gT ((ls s).drop i.toNat) ln col sm false out = gT ((ls s).drop (i + 1).toNat) ln (col + 1) sm true out := by
  rw [hr, ← hr2, gT_hash _ _ _ _ _ (by rw [hc]; exact h)]
theorem rx_err (hr : (ls s).drop i.toNat = c :: r) (hc : b2 c = byteAt s i.toNat) (h : ¬ byteAt s i.toNat = 10) (h2 : ¬ byteAt s i.toNat = 35) {e : Int} {n : Nat} {k : Int} (ht : tokAt (c :: r) = (k, n, e)) (he : e ≠ 0) : gT ((ls s).drop i.toNat) ln col sm false out = ⟨[], ln, col, e⟩ := by
  have e2 : (tokAt (c :: r)).2.2 = e := by rw [ht]
  rw [hr, gT_err _ _ _ _ _ (by rw [hc]; exact h) (by rw [hc]; exact h2) (by rw [e2]; exact he), e2]
theorem rx_tok (h0 : 0 ≤ i) (hr : (ls s).drop i.toNat = c :: r) (hc : b2 c = byteAt s i.toNat) (h : ¬ byteAt s i.toNat = 10) (h2 : ¬ byteAt s i.toNat = 35) {n k : Int} (ht : tokAt (c :: r) = (k, n.toNat, 0)) (hn : 0 ≤ n) : gT ((ls s).drop i.toNat) ln col sm false out = gT ((ls s).drop (i + n).toNat) ln (col + n) (sm || decide (0 < k)) false (addT (k, n.toNat, 0) ((ls s).drop i.toNat) ln col out) := by
  have e2 : (tokAt (c :: r)).2.2 = 0 := by rw [ht]
  rw [hr, gT_tok _ _ _ _ _ (by rw [hc]; exact h) (by rw [hc]; exact h2) e2, ht, ← drop_more h0 hr hn]
  show gT _ _ (col + ((n.toNat : Nat) : Int)) _ _ _ = _
  rw [Int.toNat_of_nonneg hn]
end
theorem numE_val (k : Nat) (nx : List UInt8) (l : List UInt8) : (if nextB nx || !canL (l.take k) then ((0 : Int), 0, (3 : Int)) else if greatL (l.take k) then (0, 0, 9) else (2, k, 0)) = (if numE ⟨(l.take k).toArray⟩ nx = 0 then (2, k, 0) else (0, 0, numE ⟨(l.take k).toArray⟩ nx)) := by
  unfold numE
  rw [ls_mk]
  by_cases h : (nextB nx || !canL (l.take k)) = true
  · rw [if_pos h, if_pos h]; rfl
  · rw [if_neg h, if_neg h]
    by_cases h2 : greatB ⟨(l.take k).toArray⟩ = true
    · rw [if_pos (show greatL (l.take k) = true from h2), if_pos h2]; rfl
    · rw [if_neg (show ¬ greatL (l.take k) = true from h2), if_neg h2]; rfl
theorem addT_no (n : Nat) (l : List UInt8) (ln col : Int) (out : List Tk) : addT (0, n, 0) l ln col out = out := rfl
theorem addT_yes {k n : Int} {s : ByteArray} {i : Int} (hk : 0 < k) (h0 : 0 ≤ i) (hn : 0 ≤ n) (ln col : Int) (out : List Tk) : addT (k, n.toNat, 0) ((ls s).drop i.toNat) ln col out = out ++ [⟨k, s.extract i.toNat (i + n).toNat, ln, col⟩] := by
  unfold addT; rw [if_pos hk, ext_take s h0 hn]
theorem rx_end {s : ByteArray} {i ln col : Int} {sm cm : Bool} {out : List Tk} (h : i = (s.size : Int)) : gT ((ls s).drop i.toNat) ln col sm cm out = ⟨endT sm ln col out, 0, 0, 0⟩ := by
  rw [List.drop_eq_nil_of_le (by rw [ls_length]; omega)]; rfl

section
variable {s : ByteArray} {i ln col : Int} {sm : Bool} {out : List Tk} {c : UInt8} {r : List UInt8}
theorem jx_comment (hr : (ls s).drop i.toNat = c :: r) (hc : b2 c = byteAt s i.toNat) (hr2 : r = (ls s).drop (i + 1).toNat) (h : ¬ byteAt s i.toNat = 10) (hb : ¬ byteAt s i.toNat > 126 ∧ (¬ byteAt s i.toNat < 32 ∨ byteAt s i.toNat = 9)) :
    gT ((ls s).drop i.toNat) ln col sm true out = gT ((ls s).drop (i + 1).toNat) ln (col + 1) (sm || decide ((0 : Int) < 0)) true (addT (0, (1 : Int).toNat, 0) ((ls s).drop i.toNat) ln col out) := by
  rw [show decide ((0 : Int) < 0) = false from rfl, Bool.or_false, addT_no]; exact rx_comment hr hc hr2 h hb
theorem jx_hash (hr : (ls s).drop i.toNat = c :: r) (hc : b2 c = byteAt s i.toNat) (hr2 : r = (ls s).drop (i + 1).toNat) (h : byteAt s i.toNat = 35) :
    gT ((ls s).drop i.toNat) ln col sm false out = gT ((ls s).drop (i + 1).toNat) ln (col + 1) (sm || decide ((0 : Int) < 0)) true (addT (0, (1 : Int).toNat, 0) ((ls s).drop i.toNat) ln col out) := by
  rw [show decide ((0 : Int) < 0) = false from rfl, Bool.or_false, addT_no]; exact rx_hash hr hc hr2 h
theorem ref_word (hr : (ls s).drop i.toNat = c :: r) (h : letB (b2 c) = true) : wordF (ls (s.extract i.toNat s.size)) = (runL innB (c :: r) : Int) ∧ 1 ≤ runL innB (c :: r) ∧ i.toNat + runL innB (c :: r) ≤ s.size := by
  have h1 := runL_le innB (c :: r)
  have h2 := congrArg List.length hr
  rw [List.length_drop, ls_length] at h2
  simp only [List.length_cons] at h1 h2
  refine ⟨?_, ?_, by omega⟩
  · rw [ls_tail, hr]
    show (if letB (b2 c) = true then _ else (0 : Int)) = _
    rw [if_pos h]
  · unfold runL; rw [if_pos (innB_let h)]; omega
theorem ref_digits (hr : (ls s).drop i.toNat = c :: r) : (numB (c :: r) = true → digitsF (ls (s.extract i.toNat s.size)) = ((1 + runL digB r : Nat) : Int)) ∧ (numB (c :: r) = false → digitsF (ls (s.extract i.toNat s.size)) = 0) ∧ i.toNat + (1 + runL digB r) ≤ s.size := by
  have h1 := runL_le digB r
  have h2 := congrArg List.length hr
  rw [List.length_drop, ls_length] at h2
  simp only [List.length_cons] at h2
  rw [ls_tail, hr]
  refine ⟨fun h => ?_, fun h => ?_, by omega⟩
  · unfold digitsF; rw [h]; rfl
  · unfold digitsF; rw [h]; rfl
theorem ref_parts (h0 : 0 ≤ i) (hr : (ls s).drop i.toNat = c :: r) {n : Int} (hn : n = ((1 + runL digB r : Nat) : Int)) :
    s.extract i.toNat (i + n).toNat = (⟨((c :: r).take (1 + runL digB r)).toArray⟩ : ByteArray) ∧ ls (s.extract (i + n).toNat s.size) = (c :: r).drop (1 + runL digB r) := by
  have h1 := ext_take s (i := i) (k := n) h0 (by omega)
  rw [hr] at h1
  refine ⟨by rw [h1]; congr 3; omega, ?_⟩
  rw [ls_tail, ← hr, List.drop_drop]; congr 1; omega
theorem ref_dash (hb : ¬ (b2 c = 32 ∨ b2 c = 9)) (hl : letB (b2 c) = false) (hn0 : numB (c :: r) = false) (h : digB (b2 c) = true ∨ b2 c = 45) : tokAt (c :: r) = (0, 0, 3) := by
  rw [tok_sym hb hl hn0]
  rcases h with h | h
  · have : numB (c :: r) = true := by unfold numB; simp only [h, Bool.true_or]
    rw [this] at hn0; cases hn0
  · rw [h]; rfl
theorem ref_num (hb : ¬ (b2 c = 32 ∨ b2 c = 9)) (hl : letB (b2 c) = false) (hn1 : numB (c :: r) = true) (h0 : 0 ≤ i) (hr : (ls s).drop i.toNat = c :: r) {n : Int} (hn : n = ((1 + runL digB r : Nat) : Int)) :
    tokAt (c :: r) = if numE (s.extract i.toNat (i + n).toNat) (ls (s.extract (i + n).toNat s.size)) = 0 then (2, n.toNat, 0) else (0, 0, numE (s.extract i.toNat (i + n).toNat) (ls (s.extract (i + n).toNat s.size))) := by
  obtain ⟨e1, e2⟩ := ref_parts h0 hr hn
  rw [tok_num hb hl hn1, numE_val, e1, e2, show n.toNat = 1 + runL digB r by omega]
theorem ref_digok (h0 : 0 ≤ i) (hr : (ls s).drop i.toNat = c :: r) (hn1 : numB (c :: r) = true) {n : Int} (hn : n = ((1 + runL digB r : Nat) : Int)) :
    digL (ls (s.extract i.toNat (i + n).toNat)) ≠ [] ∧ (digL (ls (s.extract i.toNat (i + n).toNat))).all isDig = true := by
  rw [(ref_parts h0 hr hn).1, ls_mk]; exact digits_first hn1
end
theorem numE_cases (t : ByteArray) (nx : List UInt8) : numE t nx = 0 ∨ numE t nx = 3 ∨ numE t nx = 9 := by
  unfold numE; split
  · exact .inr (.inl rfl)
  · split
    · exact .inr (.inr rfl)
    · exact .inl rfl

theorem hb46 : HasBody Tryd.prog 46 := fun _ _ => by kernel_rfl
noncomputable def K46_0 : List Item := adv 9 [] (bodyOf Tryd.f46)
noncomputable def K46_1 : List Item := adv 4 [] K46_0
noncomputable def K46_2 : List Item := adv 9 [] K46_1
noncomputable def K46_3 : List Item := adv 3 [] K46_1
noncomputable def K46_4 : List Item := adv 6 [] K46_3
noncomputable def K46_5 : List Item := adv 6 [] K46_3
noncomputable def K46_6 : List Item := adv 7 [] K46_0
noncomputable def K46_7 : List Item := adv 6 [] K46_6
noncomputable def K46_8 : List Item := adv 6 [] K46_6
set_option maxRecDepth 20000 in
set_option maxHeartbeats 20000000 in
theorem letter_any (c : Int) (w : World) : Ret Tryd.prog 46 #[.int .u8 c] w (fun v w' => v = .bool (letB c) ∧ Sep w [] w') := by
  have S0 := Sep.refl w
  refine Ret.named fun R hR => ?_
  refine Ret.of_J (N := 17) [(0, .int .u8 c)] Tryd.func46 rfl rfl (Nat.le_of_ble_eq_true (by kernel_rfl)) (by kernel_rfl) ?_
  refine J.run 9 K46_0 [(5, .bool (decide (c ≥ 97))), (0, .int .u8 c)] w (by kernel_rfl) ?_
  by_cases fk1 : c ≥ 97
  · skip
    refine J.head (.bool true) (congrArg Value.bool (decide_eq_true fk1)) ?_
    refine J.run 4 K46_1 [(9, .bool (decide (c ≤ 122))), (0, .int .u8 c)] w (by kernel_rfl) ?_
    by_cases fk2 : c ≤ 122
    · skip
      refine J.head (.bool true) (congrArg Value.bool (decide_eq_true fk2)) ?_
      refine J.run 9 K46_2 [(2, .bool true)] w (by kernel_rfl) ?_
      refine J.ret Tryd.f46 [.bool true] Tryd.func46 ⟨by kernel_rfl, trivial⟩ ?_
      refine hR _ _ ?_
      exact ⟨congrArg Value.bool (by unfold letB; first | (simp [fk1, fk2]; done) | (simp [fk1, fk2]; omega) | (rw [Bool.eq_iff_iff]; simp [fk1, fk2]; omega)), S0.nil⟩
    · skip
      refine J.head (.bool false) (congrArg Value.bool (decide_eq_false fk2)) ?_
      refine J.run 3 K46_3 [(12, .bool (decide (c ≥ 65))), (9, .bool false), (0, .int .u8 c)] w (by kernel_rfl) ?_
      by_cases fk3 : c ≥ 65
      · skip
        refine J.head (.bool true) (congrArg Value.bool (decide_eq_true fk3)) ?_
        refine J.run 6 K46_4 [(2, .bool (decide (c ≤ 90)))] w (by kernel_rfl) ?_
        refine J.ret Tryd.f46 [.bool (decide (c ≤ 90))] Tryd.func46 ⟨by kernel_rfl, trivial⟩ ?_
        refine hR _ _ ?_
        exact ⟨congrArg Value.bool (by unfold letB; first | (simp [fk1, fk2, fk3]; done) | (simp [fk1, fk2, fk3]; omega) | (rw [Bool.eq_iff_iff]; simp [fk1, fk2, fk3]; omega)), S0.nil⟩
      · skip
        refine J.head (.bool false) (congrArg Value.bool (decide_eq_false fk3)) ?_
        refine J.run 6 K46_5 [(2, .bool false)] w (by kernel_rfl) ?_
        refine J.ret Tryd.f46 [.bool false] Tryd.func46 ⟨by kernel_rfl, trivial⟩ ?_
        refine hR _ _ ?_
        exact ⟨congrArg Value.bool (by unfold letB; first | (simp [fk1, fk2, fk3]; done) | (simp [fk1, fk2, fk3]; omega) | (rw [Bool.eq_iff_iff]; simp [fk1, fk2, fk3]; omega)), S0.nil⟩
  · skip
    refine J.head (.bool false) (congrArg Value.bool (decide_eq_false fk1)) ?_
    refine J.run 7 K46_6 [(12, .bool (decide (c ≥ 65))), (9, .bool false), (0, .int .u8 c)] w (by kernel_rfl) ?_
    by_cases fk4 : c ≥ 65
    · skip
      refine J.head (.bool true) (congrArg Value.bool (decide_eq_true fk4)) ?_
      refine J.run 6 K46_7 [(2, .bool (decide (c ≤ 90)))] w (by kernel_rfl) ?_
      refine J.ret Tryd.f46 [.bool (decide (c ≤ 90))] Tryd.func46 ⟨by kernel_rfl, trivial⟩ ?_
      refine hR _ _ ?_
      exact ⟨congrArg Value.bool (by unfold letB; first | (simp [fk1, fk4]; done) | (simp [fk1, fk4]; omega) | (rw [Bool.eq_iff_iff]; simp [fk1, fk4]; omega)), S0.nil⟩
    · skip
      refine J.head (.bool false) (congrArg Value.bool (decide_eq_false fk4)) ?_
      refine J.run 6 K46_8 [(2, .bool false)] w (by kernel_rfl) ?_
      refine J.ret Tryd.f46 [.bool false] Tryd.func46 ⟨by kernel_rfl, trivial⟩ ?_
      refine hR _ _ ?_
      exact ⟨congrArg Value.bool (by unfold letB; first | (simp [fk1, fk4]; done) | (simp [fk1, fk4]; omega) | (rw [Bool.eq_iff_iff]; simp [fk1, fk4]; omega)), S0.nil⟩

theorem hb52 : HasBody Tryd.prog 52 := fun _ _ => by kernel_rfl
noncomputable def K52_0 : List Item := adv 9 [] (bodyOf Tryd.f52)
noncomputable def K52_1 : List Item := adv 5 [] K52_0
noncomputable def K52_2 : List Item := adv 5 [] K52_0
set_option maxRecDepth 20000 in
set_option maxHeartbeats 20000000 in
theorem digit_any (c : Int) (w : World) : Ret Tryd.prog 52 #[.int .u8 c] w (fun v w' => v = .bool (digB c) ∧ Sep w [] w') := by
  have S0 := Sep.refl w
  refine Ret.named fun R hR => ?_
  refine Ret.of_J (N := 9) [(0, .int .u8 c)] Tryd.func52 rfl rfl (Nat.le_of_ble_eq_true (by kernel_rfl)) (by kernel_rfl) ?_
  refine J.run 9 K52_0 [(5, .bool (decide (c ≥ 48))), (0, .int .u8 c)] w (by kernel_rfl) ?_
  by_cases fk1 : c ≥ 48
  · skip
    refine J.head (.bool true) (congrArg Value.bool (decide_eq_true fk1)) ?_
    refine J.run 5 K52_1 [(2, .bool (decide (c ≤ 57)))] w (by kernel_rfl) ?_
    refine J.ret Tryd.f52 [.bool (decide (c ≤ 57))] Tryd.func52 ⟨by kernel_rfl, trivial⟩ ?_
    refine hR _ _ ?_
    exact ⟨congrArg Value.bool (by unfold digB; first | (simp [fk1]; done) | (simp [fk1]; omega) | (rw [Bool.eq_iff_iff]; simp [fk1]; omega)), S0.nil⟩
  · skip
    refine J.head (.bool false) (congrArg Value.bool (decide_eq_false fk1)) ?_
    refine J.run 5 K52_2 [(2, .bool false)] w (by kernel_rfl) ?_
    refine J.ret Tryd.f52 [.bool false] Tryd.func52 ⟨by kernel_rfl, trivial⟩ ?_
    refine hR _ _ ?_
    exact ⟨congrArg Value.bool (by unfold digB; first | (simp [fk1]; done) | (simp [fk1]; omega) | (rw [Bool.eq_iff_iff]; simp [fk1]; omega)), S0.nil⟩

theorem hb35 : HasBody Tryd.prog 35 := fun _ _ => by kernel_rfl
noncomputable def K35_0 : List Item := adv 9 [] (bodyOf Tryd.f35)
noncomputable def K35_1 : List Item := adv 4 [] K35_0
noncomputable def K35_2 : List Item := adv 9 [] K35_1
noncomputable def K35_3 : List Item := adv 3 [] K35_1
noncomputable def K35_4 : List Item := adv 6 [] K35_3
noncomputable def K35_5 : List Item := adv 6 [] K35_3
noncomputable def K35_6 : List Item := adv 7 [] K35_0
noncomputable def K35_7 : List Item := adv 6 [] K35_6
noncomputable def K35_8 : List Item := adv 6 [] K35_6
set_option maxRecDepth 20000 in
set_option maxHeartbeats 20000000 in
theorem rletter_any (c : Int) (w : World) : Ret Tryd.prog 35 #[.int .u8 c] w (fun v w' => v = .bool (letB c) ∧ Sep w [] w') := by
  have S0 := Sep.refl w
  refine Ret.named fun R hR => ?_
  refine Ret.of_J (N := 17) [(0, .int .u8 c)] Tryd.func35 rfl rfl (Nat.le_of_ble_eq_true (by kernel_rfl)) (by kernel_rfl) ?_
  refine J.run 9 K35_0 [(5, .bool (decide (c ≥ 97))), (0, .int .u8 c)] w (by kernel_rfl) ?_
  by_cases fk1 : c ≥ 97
  · skip
    refine J.head (.bool true) (congrArg Value.bool (decide_eq_true fk1)) ?_
    refine J.run 4 K35_1 [(9, .bool (decide (c ≤ 122))), (0, .int .u8 c)] w (by kernel_rfl) ?_
    by_cases fk2 : c ≤ 122
    · skip
      refine J.head (.bool true) (congrArg Value.bool (decide_eq_true fk2)) ?_
      refine J.run 9 K35_2 [(2, .bool true)] w (by kernel_rfl) ?_
      refine J.ret Tryd.f35 [.bool true] Tryd.func35 ⟨by kernel_rfl, trivial⟩ ?_
      refine hR _ _ ?_
      exact ⟨congrArg Value.bool (by unfold letB; first | (simp [fk1, fk2]; done) | (simp [fk1, fk2]; omega) | (rw [Bool.eq_iff_iff]; simp [fk1, fk2]; omega)), S0.nil⟩
    · skip
      refine J.head (.bool false) (congrArg Value.bool (decide_eq_false fk2)) ?_
      refine J.run 3 K35_3 [(12, .bool (decide (c ≥ 65))), (9, .bool false), (0, .int .u8 c)] w (by kernel_rfl) ?_
      by_cases fk3 : c ≥ 65
      · skip
        refine J.head (.bool true) (congrArg Value.bool (decide_eq_true fk3)) ?_
        refine J.run 6 K35_4 [(2, .bool (decide (c ≤ 90)))] w (by kernel_rfl) ?_
        refine J.ret Tryd.f35 [.bool (decide (c ≤ 90))] Tryd.func35 ⟨by kernel_rfl, trivial⟩ ?_
        refine hR _ _ ?_
        exact ⟨congrArg Value.bool (by unfold letB; first | (simp [fk1, fk2, fk3]; done) | (simp [fk1, fk2, fk3]; omega) | (rw [Bool.eq_iff_iff]; simp [fk1, fk2, fk3]; omega)), S0.nil⟩
      · skip
        refine J.head (.bool false) (congrArg Value.bool (decide_eq_false fk3)) ?_
        refine J.run 6 K35_5 [(2, .bool false)] w (by kernel_rfl) ?_
        refine J.ret Tryd.f35 [.bool false] Tryd.func35 ⟨by kernel_rfl, trivial⟩ ?_
        refine hR _ _ ?_
        exact ⟨congrArg Value.bool (by unfold letB; first | (simp [fk1, fk2, fk3]; done) | (simp [fk1, fk2, fk3]; omega) | (rw [Bool.eq_iff_iff]; simp [fk1, fk2, fk3]; omega)), S0.nil⟩
  · skip
    refine J.head (.bool false) (congrArg Value.bool (decide_eq_false fk1)) ?_
    refine J.run 7 K35_6 [(12, .bool (decide (c ≥ 65))), (9, .bool false), (0, .int .u8 c)] w (by kernel_rfl) ?_
    by_cases fk4 : c ≥ 65
    · skip
      refine J.head (.bool true) (congrArg Value.bool (decide_eq_true fk4)) ?_
      refine J.run 6 K35_7 [(2, .bool (decide (c ≤ 90)))] w (by kernel_rfl) ?_
      refine J.ret Tryd.f35 [.bool (decide (c ≤ 90))] Tryd.func35 ⟨by kernel_rfl, trivial⟩ ?_
      refine hR _ _ ?_
      exact ⟨congrArg Value.bool (by unfold letB; first | (simp [fk1, fk4]; done) | (simp [fk1, fk4]; omega) | (rw [Bool.eq_iff_iff]; simp [fk1, fk4]; omega)), S0.nil⟩
    · skip
      refine J.head (.bool false) (congrArg Value.bool (decide_eq_false fk4)) ?_
      refine J.run 6 K35_8 [(2, .bool false)] w (by kernel_rfl) ?_
      refine J.ret Tryd.f35 [.bool false] Tryd.func35 ⟨by kernel_rfl, trivial⟩ ?_
      refine hR _ _ ?_
      exact ⟨congrArg Value.bool (by unfold letB; first | (simp [fk1, fk4]; done) | (simp [fk1, fk4]; omega) | (rw [Bool.eq_iff_iff]; simp [fk1, fk4]; omega)), S0.nil⟩

theorem hb37 : HasBody Tryd.prog 37 := fun _ _ => by kernel_rfl
noncomputable def K37_0 : List Item := adv 9 [] (bodyOf Tryd.f37)
noncomputable def K37_1 : List Item := adv 5 [] K37_0
noncomputable def K37_2 : List Item := adv 5 [] K37_0
set_option maxRecDepth 20000 in
set_option maxHeartbeats 20000000 in
theorem rdigit_any (c : Int) (w : World) : Ret Tryd.prog 37 #[.int .u8 c] w (fun v w' => v = .bool (digB c) ∧ Sep w [] w') := by
  have S0 := Sep.refl w
  refine Ret.named fun R hR => ?_
  refine Ret.of_J (N := 9) [(0, .int .u8 c)] Tryd.func37 rfl rfl (Nat.le_of_ble_eq_true (by kernel_rfl)) (by kernel_rfl) ?_
  refine J.run 9 K37_0 [(5, .bool (decide (c ≥ 48))), (0, .int .u8 c)] w (by kernel_rfl) ?_
  by_cases fk1 : c ≥ 48
  · skip
    refine J.head (.bool true) (congrArg Value.bool (decide_eq_true fk1)) ?_
    refine J.run 5 K37_1 [(2, .bool (decide (c ≤ 57)))] w (by kernel_rfl) ?_
    refine J.ret Tryd.f37 [.bool (decide (c ≤ 57))] Tryd.func37 ⟨by kernel_rfl, trivial⟩ ?_
    refine hR _ _ ?_
    exact ⟨congrArg Value.bool (by unfold digB; first | (simp [fk1]; done) | (simp [fk1]; omega) | (rw [Bool.eq_iff_iff]; simp [fk1]; omega)), S0.nil⟩
  · skip
    refine J.head (.bool false) (congrArg Value.bool (decide_eq_false fk1)) ?_
    refine J.run 5 K37_2 [(2, .bool false)] w (by kernel_rfl) ?_
    refine J.ret Tryd.f37 [.bool false] Tryd.func37 ⟨by kernel_rfl, trivial⟩ ?_
    refine hR _ _ ?_
    exact ⟨congrArg Value.bool (by unfold digB; first | (simp [fk1]; done) | (simp [fk1]; omega) | (rw [Bool.eq_iff_iff]; simp [fk1]; omega)), S0.nil⟩

theorem hb48 : HasBody Tryd.prog 48 := fun _ _ => by kernel_rfl
noncomputable def K48_0 : List Item := adv 7 [] (bodyOf Tryd.f48)
noncomputable def K48_1 : List Item := adv 1 [] (popK K48_0)
noncomputable def K48_2 : List Item := adv 9 [] K48_1
noncomputable def K48_3 : List Item := adv 1 [] K48_1
noncomputable def K48_4 : List Item := adv 2 [] (popK K48_3)
noncomputable def K48_5 : List Item := adv 5 [] K48_4
noncomputable def K48_6 : List Item := adv 5 [] K48_4
set_option maxRecDepth 20000 in
set_option maxHeartbeats 20000000 in
theorem inner_any (c : Int) (w : World) : Ret Tryd.prog 48 #[.int .u8 c] w (fun v w' => v = .bool (innB c) ∧ Sep w [] w') := by
  have S0 := Sep.refl w
  refine Ret.named fun R hR => ?_
  refine Ret.of_J (N := 13) [(0, .int .u8 c)] Tryd.func48 rfl rfl (Nat.le_of_ble_eq_true (by kernel_rfl)) (by kernel_rfl) ?_
  refine J.run 7 K48_0 [(3, .int .u8 c), (0, .int .u8 c)] w (by kernel_rfl) ?_
  refine J.callF 4 46 #[.int .u8 c] hb46 (by kernel_rfl) (letter_any c _) ?_
  rintro _ w1 ⟨rfl, T1⟩
  have S1 : Sep w [] w1 := S0.trans T1
  clear T1
  refine J.run 1 K48_1 [(5, .bool (letB c)), (0, .int .u8 c)] w1 (by kernel_rfl) ?_
  rcases Bool.eq_false_or_eq_true (letB c) with fk1 | fk1
  · skip
    refine J.head (.bool true) (congrArg Value.bool fk1) ?_
    refine J.run 9 K48_2 [(2, .bool true)] w1 (by kernel_rfl) ?_
    refine J.ret Tryd.f48 [.bool true] Tryd.func48 ⟨by kernel_rfl, trivial⟩ ?_
    refine hR _ _ ?_
    exact ⟨congrArg Value.bool (by unfold innB; first | (simp [fk1]; done) | (simp [fk1]; omega) | (rw [Bool.eq_iff_iff]; simp [fk1]; omega)), S1.nil⟩
  · skip
    refine J.head (.bool false) (congrArg Value.bool fk1) ?_
    refine J.run 1 K48_3 [(6, .int .u8 c), (5, .bool false), (0, .int .u8 c)] w1 (by kernel_rfl) ?_
    refine J.callF 7 52 #[.int .u8 c] hb52 (by kernel_rfl) (digit_any c _) ?_
    rintro _ w2 ⟨rfl, T2⟩
    have S2 : Sep w [] w2 := S1.trans T2
    clear T2 S1
    refine J.run 2 K48_4 [(9, .bool (digB c)), (0, .int .u8 c)] w2 (by kernel_rfl) ?_
    rcases Bool.eq_false_or_eq_true (digB c) with fk2 | fk2
    · skip
      refine J.head (.bool true) (congrArg Value.bool fk2) ?_
      refine J.run 5 K48_5 [(2, .bool true)] w2 (by kernel_rfl) ?_
      refine J.ret Tryd.f48 [.bool true] Tryd.func48 ⟨by kernel_rfl, trivial⟩ ?_
      refine hR _ _ ?_
      exact ⟨congrArg Value.bool (by unfold innB; first | (simp [fk1, fk2]; done) | (simp [fk1, fk2]; omega) | (rw [Bool.eq_iff_iff]; simp [fk1, fk2]; omega)), S2.nil⟩
    · skip
      refine J.head (.bool false) (congrArg Value.bool fk2) ?_
      refine J.run 5 K48_6 [(2, .bool (c == 95))] w2 (by kernel_rfl) ?_
      refine J.ret Tryd.f48 [.bool (c == 95)] Tryd.func48 ⟨by kernel_rfl, trivial⟩ ?_
      refine hR _ _ ?_
      exact ⟨congrArg Value.bool (by unfold innB; first | (simp [fk1, fk2]; done) | (simp [fk1, fk2]; omega) | (rw [Bool.eq_iff_iff]; simp [fk1, fk2]; omega)), S2.nil⟩

theorem hb40 : HasBody Tryd.prog 40 := fun _ _ => by kernel_rfl
noncomputable def K40_0 : List Item := adv 16 [] (bodyOf Tryd.f40)
noncomputable def K40_1 : List Item := adv 7 [true, true] K40_0
noncomputable def K40_2 : List Item := adv 6 [false] K40_0
noncomputable def K40_3 : List Item := adv 7 [true, true] K40_2
noncomputable def K40_4 : List Item := adv 6 [false] K40_2
noncomputable def K40_5 : List Item := adv 7 [true, true] K40_4
noncomputable def K40_6 : List Item := adv 6 [false] K40_4
noncomputable def K40_7 : List Item := adv 7 [true, true] K40_6
noncomputable def K40_8 : List Item := adv 6 [false] K40_6
noncomputable def K40_9 : List Item := adv 7 [true, true] K40_8
noncomputable def K40_10 : List Item := adv 6 [false] K40_8
noncomputable def K40_11 : List Item := adv 7 [true, true] K40_10
noncomputable def K40_12 : List Item := adv 6 [false] K40_10
noncomputable def K40_13 : List Item := adv 7 [true, true] K40_12
noncomputable def K40_14 : List Item := adv 6 [false] K40_12
noncomputable def K40_15 : List Item := adv 7 [true, true] K40_14
noncomputable def K40_16 : List Item := adv 5 [false] K40_14
noncomputable def K40_17 : List Item := adv 5 [true] K40_16
noncomputable def K40_18 : List Item := adv 7 [false] K40_16
set_option maxRecDepth 20000 in
set_option maxHeartbeats 20000000 in
theorem rsymbol_any (c : Int) (w : World) : Ret Tryd.prog 40 #[.int .u8 c] w (fun v w' => v = .bool (symB c) ∧ Sep w [] w') := by
  have S0 := Sep.refl w
  refine Ret.named fun R hR => ?_
  refine Ret.of_J (N := 14) [(0, .int .u8 c)] Tryd.func40 rfl rfl (Nat.le_of_ble_eq_true (by kernel_rfl)) (by kernel_rfl) ?_
  refine J.run 16 K40_0 [(4, .bool (c == 40)), (3, .int .u8 c)] w (by kernel_rfl) ?_
  by_cases fk1 : c = 40
  · skip
    refine J.head (.bool true) (congrArg Value.bool (beq_iff_eq.2 fk1)) ?_
    refine J.run 7 K40_1 [(2, .bool true)] w (by kernel_rfl) ?_
    refine J.ret Tryd.f40 [.bool true] Tryd.func40 ⟨by kernel_rfl, trivial⟩ ?_
    refine hR _ _ ?_
    exact ⟨congrArg Value.bool (by unfold symB symL; simp [fk1]), S0.nil⟩
  · skip
    refine J.head (.bool false) (congrArg Value.bool (beq_eq_false_iff_ne.2 fk1)) ?_
    refine J.run 6 K40_2 [(4, .bool (c == 41)), (3, .int .u8 c)] w (by kernel_rfl) ?_
    by_cases fk2 : c = 41
    · skip
      refine J.head (.bool true) (congrArg Value.bool (beq_iff_eq.2 fk2)) ?_
      refine J.run 7 K40_3 [(2, .bool true)] w (by kernel_rfl) ?_
      refine J.ret Tryd.f40 [.bool true] Tryd.func40 ⟨by kernel_rfl, trivial⟩ ?_
      refine hR _ _ ?_
      exact ⟨congrArg Value.bool (by unfold symB symL; simp [fk1, fk2]), S0.nil⟩
    · skip
      refine J.head (.bool false) (congrArg Value.bool (beq_eq_false_iff_ne.2 fk2)) ?_
      refine J.run 6 K40_4 [(4, .bool (c == 44)), (3, .int .u8 c)] w (by kernel_rfl) ?_
      by_cases fk3 : c = 44
      · skip
        refine J.head (.bool true) (congrArg Value.bool (beq_iff_eq.2 fk3)) ?_
        refine J.run 7 K40_5 [(2, .bool true)] w (by kernel_rfl) ?_
        refine J.ret Tryd.f40 [.bool true] Tryd.func40 ⟨by kernel_rfl, trivial⟩ ?_
        refine hR _ _ ?_
        exact ⟨congrArg Value.bool (by unfold symB symL; simp [fk1, fk2, fk3]), S0.nil⟩
      · skip
        refine J.head (.bool false) (congrArg Value.bool (beq_eq_false_iff_ne.2 fk3)) ?_
        refine J.run 6 K40_6 [(4, .bool (c == 61)), (3, .int .u8 c)] w (by kernel_rfl) ?_
        by_cases fk4 : c = 61
        · skip
          refine J.head (.bool true) (congrArg Value.bool (beq_iff_eq.2 fk4)) ?_
          refine J.run 7 K40_7 [(2, .bool true)] w (by kernel_rfl) ?_
          refine J.ret Tryd.f40 [.bool true] Tryd.func40 ⟨by kernel_rfl, trivial⟩ ?_
          refine hR _ _ ?_
          exact ⟨congrArg Value.bool (by unfold symB symL; simp [fk1, fk2, fk3, fk4]), S0.nil⟩
        · skip
          refine J.head (.bool false) (congrArg Value.bool (beq_eq_false_iff_ne.2 fk4)) ?_
          refine J.run 6 K40_8 [(4, .bool (c == 58)), (3, .int .u8 c)] w (by kernel_rfl) ?_
          by_cases fk5 : c = 58
          · skip
            refine J.head (.bool true) (congrArg Value.bool (beq_iff_eq.2 fk5)) ?_
            refine J.run 7 K40_9 [(2, .bool true)] w (by kernel_rfl) ?_
            refine J.ret Tryd.f40 [.bool true] Tryd.func40 ⟨by kernel_rfl, trivial⟩ ?_
            refine hR _ _ ?_
            exact ⟨congrArg Value.bool (by unfold symB symL; simp [fk1, fk2, fk3, fk4, fk5]), S0.nil⟩
          · skip
            refine J.head (.bool false) (congrArg Value.bool (beq_eq_false_iff_ne.2 fk5)) ?_
            refine J.run 6 K40_10 [(4, .bool (c == 59)), (3, .int .u8 c)] w (by kernel_rfl) ?_
            by_cases fk6 : c = 59
            · skip
              refine J.head (.bool true) (congrArg Value.bool (beq_iff_eq.2 fk6)) ?_
              refine J.run 7 K40_11 [(2, .bool true)] w (by kernel_rfl) ?_
              refine J.ret Tryd.f40 [.bool true] Tryd.func40 ⟨by kernel_rfl, trivial⟩ ?_
              refine hR _ _ ?_
              exact ⟨congrArg Value.bool (by unfold symB symL; simp [fk1, fk2, fk3, fk4, fk5, fk6]), S0.nil⟩
            · skip
              refine J.head (.bool false) (congrArg Value.bool (beq_eq_false_iff_ne.2 fk6)) ?_
              refine J.run 6 K40_12 [(4, .bool (c == 42)), (3, .int .u8 c)] w (by kernel_rfl) ?_
              by_cases fk7 : c = 42
              · skip
                refine J.head (.bool true) (congrArg Value.bool (beq_iff_eq.2 fk7)) ?_
                refine J.run 7 K40_13 [(2, .bool true)] w (by kernel_rfl) ?_
                refine J.ret Tryd.f40 [.bool true] Tryd.func40 ⟨by kernel_rfl, trivial⟩ ?_
                refine hR _ _ ?_
                exact ⟨congrArg Value.bool (by unfold symB symL; simp [fk1, fk2, fk3, fk4, fk5, fk6, fk7]), S0.nil⟩
              · skip
                refine J.head (.bool false) (congrArg Value.bool (beq_eq_false_iff_ne.2 fk7)) ?_
                refine J.run 6 K40_14 [(4, .bool (c == 47)), (3, .int .u8 c)] w (by kernel_rfl) ?_
                by_cases fk8 : c = 47
                · skip
                  refine J.head (.bool true) (congrArg Value.bool (beq_iff_eq.2 fk8)) ?_
                  refine J.run 7 K40_15 [(2, .bool true)] w (by kernel_rfl) ?_
                  refine J.ret Tryd.f40 [.bool true] Tryd.func40 ⟨by kernel_rfl, trivial⟩ ?_
                  refine hR _ _ ?_
                  exact ⟨congrArg Value.bool (by unfold symB symL; simp [fk1, fk2, fk3, fk4, fk5, fk6, fk7, fk8]), S0.nil⟩
                · skip
                  refine J.head (.bool false) (congrArg Value.bool (beq_eq_false_iff_ne.2 fk8)) ?_
                  refine J.run 5 K40_16 [(4, .bool (c == 94))] w (by kernel_rfl) ?_
                  by_cases fk9 : c = 94
                  · skip
                    refine J.head (.bool true) (congrArg Value.bool (beq_iff_eq.2 fk9)) ?_
                    refine J.run 5 K40_17 [(2, .bool true)] w (by kernel_rfl) ?_
                    refine J.ret Tryd.f40 [.bool true] Tryd.func40 ⟨by kernel_rfl, trivial⟩ ?_
                    refine hR _ _ ?_
                    exact ⟨congrArg Value.bool (by unfold symB symL; simp [fk1, fk2, fk3, fk4, fk5, fk6, fk7, fk8, fk9]), S0.nil⟩
                  · skip
                    refine J.head (.bool false) (congrArg Value.bool (beq_eq_false_iff_ne.2 fk9)) ?_
                    refine J.run 7 K40_18 [(2, .bool false)] w (by kernel_rfl) ?_
                    refine J.ret Tryd.f40 [.bool false] Tryd.func40 ⟨by kernel_rfl, trivial⟩ ?_
                    refine hR _ _ ?_
                    exact ⟨congrArg Value.bool (by unfold symB symL; simp [fk1, fk2, fk3, fk4, fk5, fk6, fk7, fk8, fk9]), S0.nil⟩

theorem hb47 : HasBody Tryd.prog 47 := fun _ _ => by kernel_rfl
noncomputable def K47_0 : List Item := adv 11 [] (bodyOf Tryd.f47)
noncomputable def K47_1 : List Item := adv 6 [] K47_0
noncomputable def K47_2 : List Item := adv 4 [] K47_1
noncomputable def K47_3 : List Item := adv 5 [] K47_2
noncomputable def K47_4 : List Item := adv 2 [] (popK (popK K47_3))
noncomputable def K47_5 : List Item := adv 6 [true] K47_4
noncomputable def K47_6 : List Item := adv 7 [false] K47_4
noncomputable def K47_7 : List Item := adv 16 [false] K47_2
set_option maxRecDepth 20000 in
set_option maxHeartbeats 20000000 in
theorem run_any (s : ByteArray) (fr : Int) (g : FuncId) (p : Int → Bool) (w : World) (hfr : 0 ≤ fr ∧ fr ≤ (s.size : Int)) (hsz : s.size ≤ 1099511627776) (hbg : HasBody Tryd.prog g) (hcall : ∀ (c : Int) (w2 : World), 0 ≤ c ∧ c ≤ 255 → Sep w [] w2 → Ret Tryd.prog g #[.int .u8 c] w2 (fun v w3 => v = .bool (p c) ∧ Sep w2 [] w3)) : Ret Tryd.prog 47 #[.string s, .int .i64 fr, .func (.func g) #[] #[]] w (fun v w' => v = .int .i64 (runL p ((ls s).drop fr.toNat) : Int) ∧ Sep w [] w') := by
  have S0 := Sep.refl w
  refine Ret.named fun R hR => ?_
  refine Ret.of_J (N := 26) [(0, .string s), (1, .int .i64 fr), (2, .func (.func g) #[] #[])] Tryd.func47 rfl rfl (Nat.le_of_ble_eq_true (by kernel_rfl)) (by kernel_rfl) ?_
  refine J.run 11 K47_0 [(7, .int .i64 0), (0, .string s), (1, .int .i64 fr), (2, .func (.func g) #[] #[])] w (by kernel_rfl) ?_
  have L47_1 : ∀ (mm_ : Nat) (k : Int) (w1 : World), (0 ≤ k) → (fr + k ≤ (s.size : Int)) → (∀ j, j < (k).toNat → p (byteAt s (fr.toNat + j)) = true) → Sep w [] w1 → ((s.size : Int) - fr - k).toNat = mm_ → J Tryd.prog 47 26 R K47_0 [(7, .int .i64 k), (0, .string s), (1, .int .i64 fr), (2, .func (.func g) #[] #[])] w1 := by
    intro mm1
    induction mm1 using Nat.strongRecOn with
    | _ mm1 ih1 =>
    intro k w1 k0 k1 hq S1 hm1
    refine J.run 6 K47_1 [(10, .int .i64 (IntKind.wrap .i64 (fr + k))), (7, .int .i64 k), (0, .string s), (1, .int .i64 fr), (2, .func (.func g) #[] #[])] w1 (by kernel_rfl) ?_
    refine J.head (.int .i64 (fr + k)) (congrArg (Value.int .i64) (IntWalk.i64_in _ (by omega))) ?_
    refine J.run 4 K47_2 [(14, .bool (decide ((fr + k) < (s.size : Int)))), (7, .int .i64 k), (0, .string s), (1, .int .i64 fr), (2, .func (.func g) #[] #[])] w1 (by kernel_rfl) ?_
    by_cases fk1 : (fr + k) < (s.size : Int)
    · skip
      refine J.head (.bool true) (congrArg Value.bool (decide_eq_true fk1)) ?_
      refine J.run 5 K47_3 [(19, .int .i64 (IntKind.wrap .i64 (fr + k))), (16, .string s), (15, .func (.func g) #[] #[]), (14, .bool true), (7, .int .i64 k), (0, .string s), (1, .int .i64 fr), (2, .func (.func g) #[] #[])] w1 (by kernel_rfl) ?_
      refine J.head (.int .i64 (fr + k)) (congrArg (Value.int .i64) (IntWalk.i64_in _ (by omega))) ?_
      have := byteAt_bounds s (fr + k).toNat
      refine J.ok (OK.byte 20 9 s (fr + k) (byteAt s (fr + k).toNat) (by kernel_rfl) (by kernel_rfl) (by omega) (by omega) (rfl)) ?_
      refine J.callF 21 g #[.int .u8 (byteAt s (fr + k).toNat)] hbg (by kernel_rfl) (hcall (byteAt s (fr + k).toNat) w1 (by omega) S1.nil) ?_
      rintro _ w2 ⟨rfl, T1⟩
      have S2 : Sep w [] w2 := S1.trans T1
      refine J.run 2 K47_4 [(22, .bool (p (byteAt s (fr + k).toNat))), (7, .int .i64 k), (0, .string s), (1, .int .i64 fr), (2, .func (.func g) #[] #[])] w2 (by kernel_rfl) ?_
      rcases Bool.eq_false_or_eq_true (p (byteAt s (fr + k).toNat)) with fk2 | fk2
      · skip
        refine J.head (.bool true) (congrArg Value.bool fk2) ?_
        refine J.run 6 K47_5 [(24, .int .i64 (IntKind.wrap .i64 (k + 1))), (0, .string s), (1, .int .i64 fr), (2, .func (.func g) #[] #[])] w2 (by kernel_rfl) ?_
        refine J.head (.int .i64 (k + 1)) (congrArg (Value.int .i64) (IntWalk.i64_in _ (by omega))) ?_
        refine J.run 4 K47_0 [(7, .int .i64 (k + 1)), (0, .string s), (1, .int .i64 fr), (2, .func (.func g) #[] #[])] w2 (by kernel_rfl) ?_
        refine J.run 0 K47_0 [(7, .int .i64 (k + 1)), (0, .string s), (1, .int .i64 fr), (2, .func (.func g) #[] #[])] w2 (by kernel_rfl) ?_
        exact ih1 _ (show ((s.size : Int) - fr - (k + 1)).toNat < mm1 from by omega) (k + 1) w2 (by omega) (by omega) (dg_step (q := fun j => p (byteAt s (fr.toNat + j)) = true) k0 hq (by rw [show fr.toNat + k.toNat = (fr + k).toNat by omega]; exact fk2)) S2 rfl
      · skip
        refine J.head (.bool false) (congrArg Value.bool fk2) ?_
        refine J.run 7 K47_6 [(6, .int .i64 k)] w2 (by kernel_rfl) ?_
        refine J.ret Tryd.f47 [.int .i64 k] Tryd.func47 ⟨by kernel_rfl, trivial⟩ ?_
        refine hR _ _ ?_
        exact ⟨congrArg (Value.int .i64) (run_walk hfr.1 hfr.2 k0 (by omega) hq (fun h_ => by first | exact fk2 | omega)).symm, S2.nil⟩
    · skip
      refine J.head (.bool false) (congrArg Value.bool (decide_eq_false fk1)) ?_
      refine J.run 16 K47_7 [(6, .int .i64 k)] w1 (by kernel_rfl) ?_
      refine J.ret Tryd.f47 [.int .i64 k] Tryd.func47 ⟨by kernel_rfl, trivial⟩ ?_
      refine hR _ _ ?_
      exact ⟨congrArg (Value.int .i64) (run_walk hfr.1 hfr.2 k0 (by omega) hq (fun h_ => by first | exact absurd h_ (by omega) | omega)).symm, S1.nil⟩
  exact L47_1 _ 0 w (by omega) (by omega) (by intro j hj; simp at hj) S0 rfl

theorem hb62 : HasBody Tryd.prog 62 := fun _ _ => by kernel_rfl
theorem trim_dig (l : List UInt8) : Lib.trimPrefix l [45] = digL l ∧ Lib.hasPrefix l [45] = negL l := by
  cases l with
  | nil => exact ⟨rfl, rfl⟩
  | cons c l =>
    by_cases h : c = 45
    · subst h; exact ⟨rfl, rfl⟩
    · have hn : negL (c :: l) = false := beq_eq_false_iff_ne.2 (fun e => h (Option.some.inj e))
      have hp : ([45] : List UInt8).isPrefixOf (c :: l) = false := by simp [List.isPrefixOf, Ne.symm h]
      unfold Lib.trimPrefix Lib.hasPrefix digL
      rw [hp, hn]; exact ⟨rfl, rfl⟩
theorem cutp_any (s : ByteArray) (w : World) : Ret Tryd.prog 62 #[.string s, .string ⟨#[45]⟩] w (fun v w' => v = .tuple #[.string ⟨(digL (ls s)).toArray⟩, .bool (negL (ls s))] ∧ Sep w [] w') :=
  Calls.mono (Tryd.strings_CutPrefix s ⟨#[45]⟩ w) fun e w' ⟨he, hw⟩ => ⟨_, he.trans (by rw [(trim_dig (ls s)).1, (trim_dig (ls s)).2]), rfl, by subst hw; exact .refl _⟩
theorem hb55 : HasBody Tryd.prog 55 := fun _ _ => by kernel_rfl
theorem ixs_any (c : Int) (w : World) : Ret Tryd.prog 55 #[.string ⟨#[40, 41, 44, 61, 58, 59, 42, 47, 94]⟩, .int .u8 c] w (fun v w' => v = .int .i64 (ixS c) ∧ Sep w [] w') :=
  Calls.mono (Tryd.strings_IndexByte _ c w) fun e w' ⟨he, hw⟩ => ⟨_, he, rfl, by subst hw; exact .refl _⟩
theorem hb53 : HasBody Tryd.prog 53 := fun _ _ => by kernel_rfl
noncomputable def K53_0 : List Item := adv 7 [] (bodyOf Tryd.f53)
noncomputable def K53_1 : List Item := adv 10 [] (popK K53_0)
noncomputable def K53_2 : List Item := adv 1 [] K53_1
noncomputable def K53_3 : List Item := adv 15 [] K53_2
noncomputable def K53_4 : List Item := adv 1 [] K53_2
noncomputable def K53_5 : List Item := adv 2 [] (popK K53_4)
noncomputable def K53_6 : List Item := adv 4 [] K53_5
noncomputable def K53_7 : List Item := adv 7 [] K53_6
noncomputable def K53_8 : List Item := adv 7 [] K53_6
noncomputable def K53_9 : List Item := adv 11 [] K53_5
set_option maxRecDepth 20000 in
set_option maxHeartbeats 20000000 in
theorem canonical_any (s : ByteArray) (w : World) : Ret Tryd.prog 53 #[.string s] w (fun v w' => v = .bool (canL (ls s)) ∧ Sep w [] w') := by
  have S0 := Sep.refl w
  refine Ret.named fun R hR => ?_
  refine Ret.of_J (N := 26) [(0, .string s)] Tryd.func53 rfl rfl (Nat.le_of_ble_eq_true (by kernel_rfl)) (by kernel_rfl) ?_
  have hcan := can_eq (s := s) (d := ⟨(digL (ls s)).toArray⟩) rfl
  refine J.run 7 K53_0 [(6, .string s)] w (by kernel_rfl) ?_
  refine J.callF 7 62 #[.string s, .string ⟨#[45]⟩] hb62 (by kernel_rfl) (cutp_any s _) ?_
  rintro _ w1 ⟨rfl, T1⟩
  have S1 : Sep w [] w1 := S0.trans T1
  clear T1
  refine J.run 10 K53_1 [(11, .bool (!((⟨(digL (ls s)).toArray⟩ : ByteArray).toList == (⟨#[]⟩ : ByteArray).toList))), (4, .bool (negL (ls s))), (3, .string (⟨(digL (ls s)).toArray⟩ : ByteArray))] w1 (by kernel_rfl) ?_
  refine J.head (.bool (((⟨(digL (ls s)).toArray⟩ : ByteArray).size : Int) != 0)) (congrArg Value.bool (beq_nil_neq _)) ?_
  refine J.run 1 K53_2 [(12, .bool (((⟨(digL (ls s)).toArray⟩ : ByteArray).size : Int) != 0)), (4, .bool (negL (ls s))), (3, .string (⟨(digL (ls s)).toArray⟩ : ByteArray))] w1 (by kernel_rfl) ?_
  by_cases fk1 : ((⟨(digL (ls s)).toArray⟩ : ByteArray).size : Int) = 0
  · skip
    refine J.head (.bool false) (congrArg Value.bool (bne_eq_false_iff_eq.2 fk1)) ?_
    refine J.run 15 K53_3 [(2, .bool false)] w1 (by kernel_rfl) ?_
    refine J.ret Tryd.f53 [.bool false] Tryd.func53 ⟨by kernel_rfl, trivial⟩ ?_
    refine hR _ _ ?_
    exact ⟨congrArg Value.bool (by rw [hcan]; first | (rw [decide_eq_true (by omega)]; rfl) | (rw [decide_eq_false (by omega), decide_eq_false (by omega)]; rfl) | (rw [decide_eq_false (by omega), decide_eq_true (by omega), decide_eq_false (by omega)]; rfl) | (rw [decide_eq_false (by omega), decide_eq_true (by omega), decide_eq_true (by omega)]; rfl)), S1.nil⟩
  · skip
    refine J.head (.bool true) (congrArg Value.bool (bne_iff_ne.2 fk1)) ?_
    refine J.run 1 K53_4 [(13, .string (⟨(digL (ls s)).toArray⟩ : ByteArray)), (12, .bool true), (4, .bool (negL (ls s))), (3, .string (⟨(digL (ls s)).toArray⟩ : ByteArray))] w1 (by kernel_rfl) ?_
    have := byteAt_bounds (⟨(digL (ls s)).toArray⟩ : ByteArray) 0
    refine J.ok (OK.byte 14 9 (⟨(digL (ls s)).toArray⟩ : ByteArray) (0 : Int) (byteAt (⟨(digL (ls s)).toArray⟩ : ByteArray) 0) (by kernel_rfl) (by kernel_rfl) (by omega) (by omega) (rfl)) ?_
    refine J.run 2 K53_5 [(16, .bool ((byteAt (⟨(digL (ls s)).toArray⟩ : ByteArray) 0) != 48)), (12, .bool true), (4, .bool (negL (ls s))), (3, .string (⟨(digL (ls s)).toArray⟩ : ByteArray))] w1 (by kernel_rfl) ?_
    by_cases fk2 : (byteAt (⟨(digL (ls s)).toArray⟩ : ByteArray) 0) = 48
    · skip
      refine J.head (.bool false) (congrArg Value.bool (bne_eq_false_iff_eq.2 fk2)) ?_
      refine J.run 4 K53_6 [(20, .bool (((⟨(digL (ls s)).toArray⟩ : ByteArray).size : Int) == 1)), (16, .bool false), (12, .bool true), (4, .bool (negL (ls s)))] w1 (by kernel_rfl) ?_
      by_cases fk3 : ((⟨(digL (ls s)).toArray⟩ : ByteArray).size : Int) = 1
      · skip
        refine J.head (.bool true) (congrArg Value.bool (beq_iff_eq.2 fk3)) ?_
        refine J.run 7 K53_7 [(2, .bool (!(negL (ls s))))] w1 (by kernel_rfl) ?_
        refine J.ret Tryd.f53 [.bool (!(negL (ls s)))] Tryd.func53 ⟨by kernel_rfl, trivial⟩ ?_
        refine hR _ _ ?_
        exact ⟨congrArg Value.bool (by rw [hcan]; first | (rw [decide_eq_true (by omega)]; rfl) | (rw [decide_eq_false (by omega), decide_eq_false (by omega)]; rfl) | (rw [decide_eq_false (by omega), decide_eq_true (by omega), decide_eq_false (by omega)]; rfl) | (rw [decide_eq_false (by omega), decide_eq_true (by omega), decide_eq_true (by omega)]; rfl)), S1.nil⟩
      · skip
        refine J.head (.bool false) (congrArg Value.bool (beq_eq_false_iff_ne.2 fk3)) ?_
        refine J.run 7 K53_8 [(2, .bool false)] w1 (by kernel_rfl) ?_
        refine J.ret Tryd.f53 [.bool false] Tryd.func53 ⟨by kernel_rfl, trivial⟩ ?_
        refine hR _ _ ?_
        exact ⟨congrArg Value.bool (by rw [hcan]; first | (rw [decide_eq_true (by omega)]; rfl) | (rw [decide_eq_false (by omega), decide_eq_false (by omega)]; rfl) | (rw [decide_eq_false (by omega), decide_eq_true (by omega), decide_eq_false (by omega)]; rfl) | (rw [decide_eq_false (by omega), decide_eq_true (by omega), decide_eq_true (by omega)]; rfl)), S1.nil⟩
    · skip
      refine J.head (.bool true) (congrArg Value.bool (bne_iff_ne.2 fk2)) ?_
      refine J.run 11 K53_9 [(2, .bool true)] w1 (by kernel_rfl) ?_
      refine J.ret Tryd.f53 [.bool true] Tryd.func53 ⟨by kernel_rfl, trivial⟩ ?_
      refine hR _ _ ?_
      exact ⟨congrArg Value.bool (by rw [hcan]; first | (rw [decide_eq_true (by omega)]; rfl) | (rw [decide_eq_false (by omega), decide_eq_false (by omega)]; rfl) | (rw [decide_eq_false (by omega), decide_eq_true (by omega), decide_eq_false (by omega)]; rfl) | (rw [decide_eq_false (by omega), decide_eq_true (by omega), decide_eq_true (by omega)]; rfl)), S1.nil⟩

theorem hb54 : HasBody Tryd.prog 54 := fun _ _ => by kernel_rfl
noncomputable def K54_0 : List Item := adv 7 [] (bodyOf Tryd.f54)
noncomputable def K54_1 : List Item := adv 11 [] (popK K54_0)
noncomputable def K54_2 : List Item := adv 4 [] K54_1
noncomputable def K54_3 : List Item := adv 5 [] K54_2
noncomputable def K54_4 : List Item := adv 5 [] K54_2
noncomputable def K54_5 : List Item := adv 9 [] K54_1
set_option maxRecDepth 20000 in
set_option maxHeartbeats 20000000 in
theorem great_any (s : ByteArray) (w : World) (hs : s.size ≤ 281474976710656) (hW : TabW w) : Ret Tryd.prog 54 #[.string s] w (fun v w' => v = .bool (greatB s) ∧ Sep w [] w') := by
  have S0 := Sep.refl w
  refine Ret.named fun R hR => ?_
  refine Ret.of_J (N := 20) [(0, .string s)] Tryd.func54 rfl rfl (Nat.le_of_ble_eq_true (by kernel_rfl)) (by kernel_rfl) ?_
  refine J.run 7 K54_0 [(6, .string s)] w (by kernel_rfl) ?_
  refine J.callF 7 44 #[.string s] hb44 (by kernel_rfl) (aparse_any s _ (by omega) (tabW_sep hW S0)) ?_
  rintro _ w1 ⟨rfl, T1⟩
  have S1 : Sep w [] w1 := S0.trans T1
  clear T1
  have := par_bounds s
  refine J.run 11 K54_1 [(12, .bool ((parE s) != 0)), (3, .int .i64 (parX s))] w1 (by kernel_rfl) ?_
  by_cases fk1 : (parE s) = 0
  · skip
    refine J.head (.bool false) (congrArg Value.bool (bne_eq_false_iff_eq.2 fk1)) ?_
    refine J.run 4 K54_2 [(16, .bool (decide ((parX s) > 1099511627776))), (3, .int .i64 (parX s))] w1 (by kernel_rfl) ?_
    by_cases fk2 : (parX s) > 1099511627776
    · skip
      refine J.head (.bool true) (congrArg Value.bool (decide_eq_true fk2)) ?_
      refine J.run 5 K54_3 [(2, .bool true)] w1 (by kernel_rfl) ?_
      refine J.ret Tryd.f54 [.bool true] Tryd.func54 ⟨by kernel_rfl, trivial⟩ ?_
      refine hR _ _ ?_
      exact ⟨congrArg Value.bool (by rw [great_eq]; simp [fk1, fk2]), S1.nil⟩
    · skip
      refine J.head (.bool false) (congrArg Value.bool (decide_eq_false fk2)) ?_
      refine J.run 5 K54_4 [(2, .bool (decide ((parX s) < (-1099511627776))))] w1 (by kernel_rfl) ?_
      refine J.ret Tryd.f54 [.bool (decide ((parX s) < (-1099511627776)))] Tryd.func54 ⟨by kernel_rfl, trivial⟩ ?_
      refine hR _ _ ?_
      exact ⟨congrArg Value.bool (by rw [great_eq]; simp [fk1, fk2]), S1.nil⟩
  · skip
    refine J.head (.bool true) (congrArg Value.bool (bne_iff_ne.2 fk1)) ?_
    refine J.run 9 K54_5 [(2, .bool true)] w1 (by kernel_rfl) ?_
    refine J.ret Tryd.f54 [.bool true] Tryd.func54 ⟨by kernel_rfl, trivial⟩ ?_
    refine hR _ _ ?_
    exact ⟨congrArg Value.bool (by rw [great_eq]; simp [fk1]), S1.nil⟩

end Go.Proofs.YtlklealllohmgaaDoor
