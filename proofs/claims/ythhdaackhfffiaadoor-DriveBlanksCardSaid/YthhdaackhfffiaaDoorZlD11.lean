/- Walks of functions of this seat, printed by a program over the engine. Conditions: as each theorem says. -/
import Derived.Test.YthhdaackhfffiaaDoorZlD10
namespace Go.Proofs.YthhdaackhfffiaaDoor
open Go.Eng Go.RowKit
set_option linter.unusedSimpArgs false
set_option linter.unusedVariables false
structure Tk where
  gKind : Int
  gText : ByteArray
  gPlace_Line : Int
  gPlace_Column : Int
def tkE (x : Tk) : List Value := [iv x.gKind, .string x.gText, iv x.gPlace_Line, iv x.gPlace_Column]
/-! the words of a line, byte by byte -/
abbrev tk0 : Tk := ⟨0, ByteArray.empty, 0, 0⟩
def tkOf (cur : List UInt8) (ln col : Int) : List Tk := if cur = [] then [] else [⟨0, ⟨cur.toArray⟩, ln, col - (cur.length : Int)⟩]
def lexW : List UInt8 → List UInt8 → Int → Int → List Tk
  | [], cur, ln, col => tkOf cur ln col
  | c :: r, cur, ln, col => if c = 32 then tkOf cur ln col ++ lexW r [] ln (col + 1) else lexW r (cur ++ [c]) ln (col + 1)
def consL (l : List Tk) (x : List (List Tk)) : List (List Tk) := if l = [] then x else l :: x
def wdsR : List UInt8 → List UInt8 → Bool → List Tk → Int → Int → List (List Tk)
  | [], cur, _, l, ln, col => consL (l ++ tkOf cur ln col) []
  | c :: r, cur, cm, l, ln, col =>
    if c = 10 then consL (l ++ tkOf cur ln col) (wdsR r [] false [] (ln + 1) 1)
    else if cm then wdsR r [] true l ln (col + 1)
    else if c = 35 then wdsR r [] true (l ++ tkOf cur ln col) ln (col + 1)
    else if c = 32 then wdsR r [] false (l ++ tkOf cur ln col) ln (col + 1)
    else wdsR r (cur ++ [c]) false l ln (col + 1)
def linesF : List (List UInt8) → Int → List (List Tk)
  | [], _ => []
  | p :: ps, ln => consL (lexW (beforeL 35 p) [] ln 1) (linesF ps (ln + 1))
def lineT (r cur : List UInt8) (cm : Bool) (ln col : Int) : List Tk := if cm then [] else lexW (beforeL 35 r) cur ln col
theorem before_cons (c x : UInt8) (p : List UInt8) : beforeL c (x :: p) = if x = c then [] else x :: beforeL c p := by
  unfold beforeL
  rw [splitOn]
  split
  · rfl
  · cases h : splitOn c p with
    | nil => exact absurd h (splitOn_ne c p)
    | cons a l => rfl
theorem wds_lines : ∀ (r cur : List UInt8) (cm : Bool) (l : List Tk) (ln col : Int), (cm = true → cur = []) →
    wdsR r cur cm l ln col = match splitOn 10 r with | [] => [] | p :: ps => consL (l ++ lineT p cur cm ln col) (linesF ps (ln + 1))
  | [], cur, cm, l, ln, col, h => by
    cases cm with
    | true => rw [h rfl]; rfl
    | false => rfl
  | c :: r, cur, cm, l, ln, col, h => by
    have ih := fun cur cm l ln col h => wds_lines r cur cm l ln col h
    rw [wdsR, splitOn]
    by_cases h1 : c = 10
    · rw [if_pos h1, if_pos h1, ih [] false [] (ln + 1) 1 (fun h => by cases h)]
      have e : lineT [] cur cm ln col = tkOf cur ln col := by
        cases cm with
        | true => rw [h rfl]; rfl
        | false => rfl
      simp only [e]
      cases hs : splitOn 10 r with
      | nil => exact absurd hs (splitOn_ne 10 r)
      | cons p ps => rfl
    · rw [if_neg h1, if_neg h1]
      cases hs : splitOn 10 r with
      | nil => exact absurd hs (splitOn_ne 10 r)
      | cons p ps =>
        cases cm with
        | true =>
          rw [if_pos rfl, ih [] true l ln (col + 1) (fun _ => rfl), hs]; rfl
        | false =>
          rw [if_neg (by decide)]
          by_cases h2 : c = 35
          · rw [if_pos h2, ih [] true _ ln (col + 1) (fun _ => rfl), hs]
            show consL (l ++ tkOf cur ln col ++ []) _ = consL (l ++ lexW (beforeL 35 (c :: p)) cur ln col) _
            rw [before_cons, if_pos h2, List.append_nil]; rfl
          · rw [if_neg h2]
            by_cases h3 : c = 32
            · rw [if_pos h3, ih [] false _ ln (col + 1) (fun h => by cases h), hs]
              show consL (l ++ tkOf cur ln col ++ lexW (beforeL 35 p) [] ln (col + 1)) _ = consL (l ++ lexW (beforeL 35 (c :: p)) cur ln col) _
              rw [before_cons, if_neg h2, lexW, if_pos h3, List.append_assoc]
            · rw [if_neg h3, ih (cur ++ [c]) false l ln (col + 1) (fun h => by cases h), hs]
              show consL (l ++ lexW (beforeL 35 p) (cur ++ [c]) ln (col + 1)) _ = consL (l ++ lexW (beforeL 35 (c :: p)) cur ln col) _
              rw [before_cons, if_neg h2, lexW, if_neg h3]
theorem wds_text (r : List UInt8) : wdsR r [] false [] 1 1 = linesF (splitOn 10 r) 1 := by
  rw [wds_lines r [] false [] 1 1 (fun h => by cases h)]
  cases hs : splitOn 10 r with
  | nil => exact absurd hs (splitOn_ne 10 r)
  | cons p ps => rfl
/-! walking a text -/
theorem drop_at {s : ByteArray} {i : Int} (h0 : 0 ≤ i) (hi : i < (s.size : Int)) : (ls s).drop i.toNat = (ls s).getD i.toNat 0 :: (ls s).drop (i + 1).toNat := by
  have hl := ls_length s
  rw [show (i + 1).toNat = i.toNat + 1 by omega, List.getD_eq_getElem?_getD, List.getElem?_eq_getElem (by omega)]
  exact List.drop_eq_getElem_cons (by omega)
theorem drop_end {s : ByteArray} {i : Int} (hi : (s.size : Int) ≤ i) : (ls s).drop i.toNat = [] := by
  have hl := ls_length s
  exact List.drop_eq_nil_of_le (by omega)
theorem byte_is {s : ByteArray} {i : Nat} {k : Nat} (hk : k < 256) : (ls s).getD i 0 = UInt8.ofNat k ↔ byteAt s i = k := by
  rw [byteAt_ls]
  constructor
  · intro e; rw [e, UInt8.toNat_ofNat']; omega
  · intro e; apply UInt8.toNat_inj.1; rw [UInt8.toNat_ofNat']; omega
theorem ext_self (s : ByteArray) (i : Nat) : ls (s.extract i i) = [] := by
  rw [ls_extract]; exact List.drop_eq_nil_of_le (by rw [List.length_take]; omega)
theorem ext_step {s : ByteArray} {i k : Int} (h0 : 0 ≤ i) (hk : i ≤ k) (hs : k < (s.size : Int)) : ls (s.extract i.toNat (k + 1).toNat) = ls (s.extract i.toNat k.toNat) ++ [(ls s).getD k.toNat 0] := by
  have hl := ls_length s
  rw [ls_extract, ls_extract, show (k + 1).toNat = k.toNat + 1 by omega, List.take_succ_eq_append_getElem (by omega), List.drop_append_of_le_length (by rw [List.length_take]; omega), List.getD_eq_getElem?_getD, List.getElem?_eq_getElem (by omega)]; try rfl
theorem ext_len {s : ByteArray} {i k : Int} (h0 : 0 ≤ i) (hk : i ≤ k) (hs : k ≤ (s.size : Int)) : ((ls (s.extract i.toNat k.toNat)).length : Int) = k - i := by
  rw [ls_length, size_extract s (by omega)]; omega
theorem tk_some {s : ByteArray} {i k ln col : Int} (h0 : 0 ≤ i) (hk : i < k) (hs : k ≤ (s.size : Int)) : tkOf (ls (s.extract i.toNat k.toNat)) ln col = [⟨0, s.extract i.toNat k.toNat, ln, col - (k - i)⟩] := by
  have hl := ext_len h0 (Int.le_of_lt hk) hs
  unfold tkOf
  rw [if_neg (fun e => by rw [e] at hl; simp at hl; omega), hl]
theorem tk_none {s : ByteArray} {i k ln col : Int} (h0 : 0 ≤ i) (hk : i = k) : tkOf (ls (s.extract i.toNat k.toNat)) ln col = [] := by
  subst hk; rw [ext_self]; rfl
/-- within a word -/
theorem lx_in {s : ByteArray} {i k ln : Int} (h0 : 0 ≤ i) (hk : i ≤ k) (hs : k < (s.size : Int)) (hb : byteAt s k.toNat ≠ 32) : lexW ((ls s).drop k.toNat) (ls (s.extract i.toNat k.toNat)) ln (k + 1) = lexW ((ls s).drop (k + 1).toNat) (ls (s.extract i.toNat (k + 1).toNat)) ln (k + 1 + 1) := by
  rw [drop_at (by omega) hs, lexW, if_neg (fun e : (ls s).getD k.toNat 0 = 32 => hb ((byte_is (k := 32) (by omega)).1 e)), ext_step h0 hk hs]
/-- at a word's end -/
theorem lx_out {s : ByteArray} {i k ln : Int} (h0 : 0 ≤ i) (hk : i ≤ k) (hs : k ≤ (s.size : Int)) (hb : k < (s.size : Int) → byteAt s k.toNat = 32) : lexW ((ls s).drop k.toNat) (ls (s.extract i.toNat k.toNat)) ln (k + 1) = tkOf (ls (s.extract i.toNat k.toNat)) ln (k + 1) ++ lexW ((ls s).drop (k + 1).toNat) [] ln (k + 1 + 1) := by
  by_cases h : k < (s.size : Int)
  · rw [drop_at (by omega) h, lexW, if_pos (show (ls s).getD k.toNat 0 = 32 from (byte_is (k := 32) (by omega)).2 (hb h))]
  · rw [drop_end (by omega), drop_end (by omega)]
    show _ = _ ++ tkOf [] _ _
    rw [show tkOf [] ln (k + 1 + 1) = [] from rfl, List.append_nil]; rfl
theorem lx_start {s : ByteArray} {i ln : Int} : lexW ((ls s).drop i.toNat) [] ln (i + 1) = lexW ((ls s).drop i.toNat) (ls (s.extract i.toNat i.toNat)) ln (i + 1) := by rw [ext_self]
theorem lx_first (s : ByteArray) (ln : Int) : lexW (ls s) [] ln 1 = [] ++ lexW ((ls s).drop (0 : Int).toNat) [] ln (0 + 1) := rfl
theorem lx_word {s : ByteArray} {W out : List Tk} {i k ln : Int} (h : W = out ++ lexW ((ls s).drop k.toNat) (ls (s.extract i.toNat k.toNat)) ln (k + 1)) (h0 : 0 ≤ i) (hk : i < k) (hs : k ≤ (s.size : Int)) (hb : k < (s.size : Int) → byteAt s k.toNat = 32) : W = (out ++ [⟨0, s.extract i.toNat k.toNat, ln, i + 1⟩]) ++ lexW ((ls s).drop (k + 1).toNat) [] ln (k + 1 + 1) := by
  rw [h, lx_out h0 (Int.le_of_lt hk) hs hb, tk_some h0 hk hs, List.append_assoc]; congr 4; omega
theorem lx_skip {s : ByteArray} {W out : List Tk} {i k ln : Int} (h : W = out ++ lexW ((ls s).drop k.toNat) (ls (s.extract i.toNat k.toNat)) ln (k + 1)) (h0 : 0 ≤ i) (hk : i = k) (hs : k ≤ (s.size : Int)) (hb : k < (s.size : Int) → byteAt s k.toNat = 32) : W = out ++ lexW ((ls s).drop (k + 1).toNat) [] ln (k + 1 + 1) := by
  rw [h, lx_out h0 (by omega) hs hb, tk_none h0 hk]; rfl
theorem lx_done {s : ByteArray} {W out : List Tk} {i ln col : Int} (h : W = out ++ lexW ((ls s).drop i.toNat) [] ln col) (hi : (s.size : Int) ≤ i) : out = W := by
  rw [h, drop_end hi]; show _ = _ ++ tkOf [] _ _; rw [show tkOf [] ln col = [] from rfl, List.append_nil]
/-! a line's checks -/
def chk (st : Option (Int × Int)) (b : Bool) (e i : Int) : Option (Int × Int) := match st with | some x => some x | none => if b then some (e, i) else none
theorem chk_none {st : Option (Int × Int)} {b : Bool} {e i : Int} (h : chk st b e i = none) : st = none ∧ b = false := by
  cases st with
  | some x => exact absurd h (by unfold chk; simp)
  | none =>
    cases b with
    | true => exact absurd h (by unfold chk; simp)
    | false => exact ⟨rfl, rfl⟩
def wd (L : List Tk) (k : Nat) : ByteArray := (L.getD k tk0).gText
def needS (L : List Tk) (st : Option (Int × Int)) (k : Nat) : Option (Int × Int) := chk st (decide (L.length ≤ k)) 4 ((L.length : Int) - 1)
def wordS (L : List Tk) (st : Option (Int × Int)) (k : Nat) (x : ByteArray) : Option (Int × Int) := chk (needS L st k) (!((wd L k).toList == x.toList)) 3 k
def rngB (t : ByteArray) (lo hi : Int) : Bool := decide ((digL (ls t)).length ≤ 13) && (decide (lo ≤ valL (ls t)) && decide (valL (ls t) ≤ hi))
def numS (L : List Tk) (st : Option (Int × Int)) (k : Nat) (lo hi : Int) : Option (Int × Int) := chk (chk (needS L st k) (!formL (ls (wd L k))) 3 k) (!rngB (wd L k) lo hi) 2 k
def timeB (bf x : Int) : Bool := if bf < 0 then decide (x ≠ 0) else decide (x ≤ bf)
def nm (L : List Tk) (k : Nat) : Int := valL (ls (wd L k))
def W0 : ByteArray := ⟨#[97, 116]⟩
def W1 : ByteArray := ⟨#[112, 101, 100, 97, 108]⟩
def W2 : ByteArray := ⟨#[98, 114, 97, 107, 101]⟩
def W3 : ByteArray := ⟨#[103, 101, 97, 114]⟩
def W4 : ByteArray := ⟨#[108, 111, 97, 100]⟩
def ls1 (L : List Tk) (full : Bool) : Option (Int × Int) := chk (chk (needS L none 0) full 5 0) (!((wd L 0).toList == W0.toList)) 3 0
def ls2 (L : List Tk) (full : Bool) : Option (Int × Int) := numS L (ls1 L full) 1 0 1099511627776
def ls3 (L : List Tk) (full : Bool) (bf : Int) : Option (Int × Int) := chk (ls2 L full) (timeB bf (nm L 1)) 16 1
def ls4 (L : List Tk) (full : Bool) (bf : Int) : Option (Int × Int) := wordS L (ls3 L full bf) 2 W1
def ls5 (L : List Tk) (full : Bool) (bf : Int) : Option (Int × Int) := numS L (ls4 L full bf) 3 0 1000
def ls6 (L : List Tk) (full : Bool) (bf : Int) : Option (Int × Int) := wordS L (ls5 L full bf) 4 W2
def ls7 (L : List Tk) (full : Bool) (bf : Int) : Option (Int × Int) := numS L (ls6 L full bf) 5 0 1000
def ls8 (L : List Tk) (full : Bool) (bf : Int) : Option (Int × Int) := wordS L (ls7 L full bf) 6 W3
def ls9 (L : List Tk) (full : Bool) (bf : Int) : Option (Int × Int) := numS L (ls8 L full bf) 7 0 6
def ls10 (L : List Tk) (full : Bool) (bf : Int) : Option (Int × Int) := wordS L (ls9 L full bf) 8 W4
def ls11 (L : List Tk) (full : Bool) (bf : Int) : Option (Int × Int) := numS L (ls10 L full bf) 9 (-500) 2000
def lineS (L : List Tk) (full : Bool) (bf : Int) : Option (Int × Int) := chk (ls11 L full bf) (decide (10 < L.length)) 3 10
def lineV (L : List Tk) : Dr := ⟨nm L 1, nm L 3, nm L 5, nm L 7, nm L 9⟩
def errO (st : Option (Int × Int)) : Int := match st with | some x => x.1 | none => 0
def idxO (st : Option (Int × Int)) : Int := match st with | some x => x.2 | none => 0
/-- what the reader's variables say of the checks so far -/
def RSok (st : Option (Int × Int)) (e a b j : Int) : Prop := match st with | some x => e = x.1 ∧ e ≠ 0 ∧ b = x.2 | none => e = 0 ∧ a = j ∧ b = 0
def nxE (L : List Tk) (e a : Int) : Int := if e = 0 then (if a = (L.length : Int) then 4 else 0) else e
def nxA (L : List Tk) (e a : Int) : Int := if e = 0 then (if a = (L.length : Int) then a else a + 1) else a
def nxB (L : List Tk) (e a b : Int) : Int := if e = 0 then (if a = (L.length : Int) then a - 1 else b) else b
def nxT (L : List Tk) (e a : Int) : ByteArray := if e = 0 then (if a = (L.length : Int) then ByteArray.empty else (L.getD a.toNat tk0).gText) else ByteArray.empty
def flE (e x : Int) : Int := if e = 0 then x else e
def flB (e a b : Int) : Int := if e = 0 then a - 1 else b
theorem next_ok {L : List Tk} {st : Option (Int × Int)} {e a b j j2 : Int} {k : Nat} (h : RSok st e a b j) (ha : 0 ≤ a ∧ a ≤ (L.length : Int)) (hj : j = (k : Int)) (hj2 : j2 = (k : Int) + 1) : RSok (needS L st k) (nxE L e a) (nxA L e a) (nxB L e a b) j2 ∧ (needS L st k = none → nxT L e a = wd L k) := by
  subst hj hj2
  cases st with
  | some x =>
    obtain ⟨h1, h2, h3⟩ := h
    unfold nxE nxA nxB nxT
    rw [if_neg h2, if_neg h2, if_neg h2]
    exact ⟨⟨h1, h2, h3⟩, fun h => by cases h⟩
  | none =>
    obtain ⟨h1, h2, h3⟩ := h
    unfold nxE nxA nxB nxT needS chk
    rw [if_pos h1, if_pos h1, if_pos h1, if_pos h1]
    by_cases hk : a = (L.length : Int)
    · rw [if_pos hk, if_pos hk, if_pos hk, decide_eq_true (by omega)]
      exact ⟨⟨rfl, by decide, by omega⟩, fun h => by cases h⟩
    · rw [if_neg hk, if_neg hk, if_neg hk, if_neg hk, decide_eq_false (by omega)]
      exact ⟨⟨rfl, by omega, h3⟩, fun _ => by unfold wd; rw [show a.toNat = k by omega]⟩
theorem nxA_bounds {L : List Tk} {e a : Int} (ha : 0 ≤ a ∧ a ≤ (L.length : Int)) : 0 ≤ nxA L e a ∧ nxA L e a ≤ (L.length : Int) := by
  unfold nxA; split
  · split <;> omega
  · exact ha
theorem nxA_pos {L : List Tk} {e a : Int} (ha : 0 ≤ a ∧ a ≤ (L.length : Int)) (h : nxE L e a = 0) : 1 ≤ nxA L e a := by
  unfold nxE at h; unfold nxA
  split at h
  · rename_i h0
    rw [if_pos h0]
    split at h
    · omega
    · rename_i h1; rw [if_neg h1]; omega
  · contradiction
theorem chk_ok {st : Option (Int × Int)} {e a b x i : Int} {j : Int} (h : RSok st e a b j) (hx : x ≠ 0) (hi : i = j - 1) (c : Bool) : RSok (chk st c x i) (if c then flE e x else e) a (if c then flB e a b else b) j := by
  cases st with
  | some y =>
    obtain ⟨h1, h2, h3⟩ := h
    have he : flE e x = e := if_neg h2
    have hb : flB e a b = b := if_neg h2
    rw [he, hb, ite_self, ite_self]
    exact ⟨h1, h2, h3⟩
  | none =>
    obtain ⟨h1, h2, h3⟩ := h
    cases c with
    | true => exact ⟨if_pos h1, by show flE e x ≠ 0; rw [show flE e x = x from if_pos h1]; exact hx, by show flB e a b = i; rw [show flB e a b = a - 1 from if_pos h1]; omega⟩
    | false => exact ⟨h1, h2, h3⟩
theorem chk_yes {st : Option (Int × Int)} {e a b x i : Int} {j : Int} {c : Bool} (h : RSok st e a b j) (hx : x ≠ 0) (hi : i = j - 1) (hc : st = none → c = true) : RSok (chk st c x i) (flE e x) a (flB e a b) j := by
  have := chk_ok h hx hi true
  cases st with
  | some y => exact this
  | none => rw [hc rfl]; exact this
theorem chk_no {st : Option (Int × Int)} {e a b x i : Int} {j : Int} {c : Bool} (h : RSok st e a b j) (hc : st = none → c = false) : RSok (chk st c x i) e a b j := by
  cases st with
  | some y => exact h
  | none => rw [hc rfl]; exact h
theorem RSok.fin {st : Option (Int × Int)} {e a b j : Int} (h : RSok st e a b j) : e = errO st ∧ b = idxO st := by
  cases st with
  | some x => exact ⟨h.1, h.2.2⟩
  | none => exact ⟨h.1, h.2.2⟩
theorem RSok.zero {st : Option (Int × Int)} {e a b j : Int} (h : RSok st e a b j) (he : e = 0) : st = none ∧ a = j := by
  cases st with
  | some x => exact absurd he h.2.1
  | none => exact ⟨rfl, h.2.1⟩
theorem RSok.bad {st : Option (Int × Int)} {e a b j : Int} (h : RSok st e a b j) (he : e ≠ 0) : st ≠ none := by
  cases st with
  | some x => intro h; cases h
  | none => exact absurd h.1 he
/-! the number of a word -/
def nuG (t : ByteArray) (lo hi : Int) : Int := if formL (ls t) then (if rngB t lo hi then 0 else 2) else 3
def nuV (t : ByteArray) : Int := if formL (ls t) then (if (digL (ls t)).length ≤ 13 then parX t else 0) else 0
def nuE (L : List Tk) (e a lo hi : Int) : Int := if nxE L e a = 0 then nuG (nxT L e a) lo hi else nxE L e a
def nuB (L : List Tk) (e a b lo hi : Int) : Int := if nxE L e a = 0 then (if nuG (nxT L e a) lo hi = 0 then nxB L e a b else nxA L e a - 1) else nxB L e a b
def nuX (L : List Tk) (e a : Int) : Int := if nxE L e a = 0 then nuV (nxT L e a) else 0
theorem dig13 {t : ByteArray} (hf : formL (ls t) = true) (h : (digL (ls t)).length ≤ 13) : parE t = 0 ∧ parX t = valL (ls t) ∧ (-10000000000000 < valL (ls t) ∧ valL (ls t) < 10000000000000) := by
  have hc := canonL_facts (form_canon hf)
  have h1 := decV_lt hc.2.1
  have h2 : (10 : Nat) ^ (digL (ls t)).length ≤ 10 ^ 13 := Nat.pow_le_pow_right (by omega) h
  have hv : -10000000000000 < valL (ls t) ∧ valL (ls t) < 10000000000000 := by
    unfold valL; split <;> constructor <;> omega
  have hs : t.size ≤ 24 := by have := (digL_len (ls t)).2; have := ls_length t; omega
  obtain ⟨h3, h4⟩ := par_zero hs hf (by simp only [fitL, Bool.and_eq_true, decide_eq_true_eq]; omega)
  exact ⟨h4, h3, hv⟩
theorem rng_true {t : ByteArray} {lo hi : Int} (h : rngB t lo hi = true) : (digL (ls t)).length ≤ 13 ∧ lo ≤ valL (ls t) ∧ valL (ls t) ≤ hi := by
  simp only [rngB, Bool.and_eq_true, decide_eq_true_eq] at h; exact h
theorem rng_no {t : ByteArray} {lo hi : Int} (h : ¬ ((digL (ls t)).length ≤ 13 ∧ lo ≤ valL (ls t) ∧ valL (ls t) ≤ hi)) : rngB t lo hi = false := by
  cases hh : rngB t lo hi with
  | false => rfl
  | true => exact absurd (rng_true hh) h
theorem rng_yes {t : ByteArray} {lo hi : Int} (h : (digL (ls t)).length ≤ 13 ∧ lo ≤ valL (ls t) ∧ valL (ls t) ≤ hi) : rngB t lo hi = true := by
  simp only [rngB, Bool.and_eq_true, decide_eq_true_eq]; exact h
theorem num_ok {L : List Tk} {st : Option (Int × Int)} {e a b lo hi j j2 : Int} {k : Nat} (h : RSok st e a b j) (ha : 0 ≤ a ∧ a ≤ (L.length : Int)) (hj : j = (k : Int)) (hj2 : j2 = (k : Int) + 1) : RSok (numS L st k lo hi) (nuE L e a lo hi) (nxA L e a) (nuB L e a b lo hi) j2 ∧ (numS L st k lo hi = none → nuX L e a = nm L k ∧ lo ≤ nm L k ∧ nm L k ≤ hi) := by
  subst hj hj2
  obtain ⟨h1, h2⟩ := next_ok h ha rfl rfl
  unfold numS
  cases hn : needS L st k with
  | some x =>
    rw [hn] at h1
    obtain ⟨g1, g2, g3⟩ := h1
    unfold nuE nuB nuX
    rw [if_neg g2, if_neg g2]
    exact ⟨⟨g1, g2, g3⟩, fun h => by cases h⟩
  | none =>
    rw [hn] at h1
    obtain ⟨g1, g2, g3⟩ := h1
    unfold nuE nuB nuX
    rw [if_pos g1, if_pos g1, if_pos g1, h2 hn]
    unfold nuG nuV
    cases hf : formL (ls (wd L k)) with
    | false => exact ⟨⟨rfl, (by decide : (3 : Int) ≠ 0), by show nxA L e a - 1 = _; omega⟩, fun h => by cases h⟩
    | true =>
      rw [if_pos rfl, if_pos rfl]
      cases hr : rngB (wd L k) lo hi with
      | false => exact ⟨⟨rfl, (by decide : (2 : Int) ≠ 0), by show nxA L e a - 1 = _; omega⟩, fun h => by cases h⟩
      | true =>
        obtain ⟨r1, r2, r3⟩ := rng_true hr
        rw [if_pos r1, (dig13 hf r1).2.1]
        exact ⟨⟨rfl, g2, g3⟩, fun _ => ⟨rfl, r2, r3⟩⟩
/-- of a line without a fault -/
theorem line_none {L : List Tk} {full : Bool} {bf : Int} (h : lineS L full bf = none) : (((ls2 L full = none ∧ ls5 L full bf = none) ∧ (ls7 L full bf = none ∧ ls9 L full bf = none)) ∧ ls11 L full bf = none) ∧ ¬ 10 < L.length := by
  obtain ⟨a11, hl⟩ := chk_none h
  have a9 : ls9 L full bf = none := (chk_none (chk_none (chk_none (chk_none (chk_none a11).1).1).1).1).1
  have a7 : ls7 L full bf = none := (chk_none (chk_none (chk_none (chk_none (chk_none a9).1).1).1).1).1
  have a5 : ls5 L full bf = none := (chk_none (chk_none (chk_none (chk_none (chk_none a7).1).1).1).1).1
  have a2 : ls2 L full = none := (chk_none (chk_none (chk_none (chk_none (chk_none (chk_none a5).1).1).1).1).1).1
  exact ⟨⟨⟨⟨a2, a5⟩, a7, a9⟩, a11⟩, of_decide_eq_false hl⟩
theorem num_none {L : List Tk} {st : Option (Int × Int)} {k : Nat} {lo hi : Int} (h : numS L st k lo hi = none) : k < L.length ∧ formL (ls (wd L k)) = true ∧ (digL (ls (wd L k))).length ≤ 13 ∧ lo ≤ nm L k ∧ nm L k ≤ hi := by
  obtain ⟨h1, h2⟩ := chk_none h
  obtain ⟨h3, h4⟩ := chk_none h1
  obtain ⟨_, h5⟩ := chk_none h3
  obtain ⟨r1, r2, r3⟩ := rng_true (by simpa using h2)
  have := of_decide_eq_false h5
  exact ⟨by omega, by simpa using h4, r1, r2, r3⟩
theorem line_good {L : List Tk} {full : Bool} {bf : Int} (h : lineS L full bf = none) : goodD (lineV L) = true ∧ timeB bf (lineV L).gAt = false ∧ full = false := by
  obtain ⟨⟨⟨⟨a2, a5⟩, a7, a9⟩, a11⟩, _⟩ := line_none h
  have n2 := num_none a2; have n5 := num_none a5; have n7 := num_none a7; have n9 := num_none a9; have n11 := num_none a11
  have a3 : ls3 L full bf = none := (chk_none (chk_none (chk_none (chk_none (chk_none a5).1).1).1).1).1
  have a1 : ls1 L full = none := (chk_none (chk_none (chk_none a2).1).1).1
  refine ⟨good_iff.2 ⟨?_, ?_, ?_, ?_, ?_⟩, (chk_none a3).2, (chk_none (chk_none a1).1).2⟩
  · exact ⟨n2.2.2.2.1, n2.2.2.2.2⟩
  · exact ⟨n5.2.2.2.1, n5.2.2.2.2⟩
  · exact ⟨n7.2.2.2.1, n7.2.2.2.2⟩
  · exact ⟨n9.2.2.2.1, n9.2.2.2.2⟩
  · exact ⟨n11.2.2.2.1, n11.2.2.2.2⟩
/-! a text -/
structure ParD where
  l : List Dr
  pl : Int
  pc : Int
  e : Int
def bfD (acc : List Dr) : Int := if acc.length = 0 then -1 else (acc.getD (acc.length - 1) dr0).gAt
def fullD (acc : List Dr) : Bool := decide ((acc.length : Int) = 200)
def parG : List (List Tk) → List Dr → ParD
  | [], acc => if acc.length = 0 then ⟨[], 0, 0, 4⟩ else ⟨acc, 0, 0, 0⟩
  | L :: Ls, acc => match lineS L (fullD acc) (bfD acc) with
    | none => parG Ls (acc ++ [lineV L])
    | some x => ⟨[], (L.getD x.2.toNat tk0).gPlace_Line, (L.getD x.2.toNat tk0).gPlace_Column, x.1⟩
def parF (s : ByteArray) : ParD := if 16384 < s.size then ⟨[], 0, 0, 5⟩ else parG (linesF (splitOn 10 (ls s)) 1) []
theorem before_len (c : UInt8) (l : List UInt8) : (beforeL c l).length ≤ l.length := by
  induction l with
  | nil => exact Nat.le_refl _
  | cons x l ih => rw [before_cons]; split <;> simp <;> omega
theorem nxT_size {L : List Tk} (h : ∀ k, (L.getD k tk0).gText.size ≤ 1000000) (e a : Int) : (nxT L e a).size ≤ 1000000 := by
  unfold nxT; split
  · split
    · decide
    · exact h _
  · decide
theorem tkOf_size {cur : List UInt8} {ln col : Int} {n : Nat} (h : cur.length ≤ n) : ∀ x ∈ tkOf cur ln col, x.gText.size ≤ n := by
  intro x hx; unfold tkOf at hx
  split at hx
  · cases hx
  · rw [List.mem_singleton.1 hx]; exact (show (cur.toArray).size ≤ n by rw [List.size_toArray]; exact h)
theorem lexW_size : ∀ (r cur : List UInt8) (ln col : Int) (n : Nat), cur.length + r.length ≤ n → ∀ x ∈ lexW r cur ln col, x.gText.size ≤ n
  | [], cur, ln, col, n, h, x, hx => tkOf_size (by simpa using h) x hx
  | c :: r, cur, ln, col, n, h, x, hx => by
    rw [List.length_cons] at h
    rw [lexW] at hx
    split at hx
    · rcases List.mem_append.1 hx with hx | hx
      · exact tkOf_size (by omega) x hx
      · exact lexW_size r [] ln (col + 1) n (by simp; omega) x hx
    · exact lexW_size r (cur ++ [c]) ln (col + 1) n (by rw [List.length_append, List.length_singleton]; omega) x hx
theorem lexW_getD (r : List UInt8) (ln col : Int) (n : Nat) (h : r.length ≤ n) (k : Nat) : ((lexW r [] ln col).getD k tk0).gText.size ≤ n := by
  by_cases hk : k < (lexW r [] ln col).length
  · rw [List.getD_eq_getElem?_getD, List.getElem?_eq_getElem hk]; exact lexW_size r [] ln col n (by simpa using h) _ (List.getElem_mem hk)
  · rw [List.getD_eq_getElem?_getD, List.getElem?_eq_none (by omega)]; exact Nat.zero_le _
theorem lexW_len : ∀ (r cur : List UInt8) (ln col : Int), (lexW r cur ln col).length ≤ r.length + (if cur = [] then 0 else 1)
  | [], cur, ln, col => by
    show (tkOf cur ln col).length ≤ _
    unfold tkOf; split <;> simp
  | c :: r, cur, ln, col => by
    rw [lexW]
    have h1 := lexW_len r [] ln (col + 1)
    have h2 := lexW_len r (cur ++ [c]) ln (col + 1)
    split
    · rw [List.length_append, List.length_cons]
      have h3 : (tkOf cur ln col).length ≤ if cur = [] then 0 else 1 := by unfold tkOf; split <;> simp
      rw [if_pos rfl] at h1; omega
    · rw [List.length_cons]
      rw [if_neg (by simp)] at h2; omega

end Go.Proofs.YthhdaackhfffiaaDoor

