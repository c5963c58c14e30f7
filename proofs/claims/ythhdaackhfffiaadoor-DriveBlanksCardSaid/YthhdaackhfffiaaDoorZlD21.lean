/- Walks of functions of this seat, printed by a program over the engine. Conditions: as each theorem says. -/
import Derived.Test.YthhdaackhfffiaaDoorZlD20
namespace Go.Proofs.YthhdaackhfffiaaDoor
open Go.Eng Go.RowKit
set_option linter.unusedSimpArgs false
set_option linter.unusedVariables false
/-! the texts of the words, and a drive's own text read again -/
def consT (l : List ByteArray) (x : List (List ByteArray)) : List (List ByteArray) := if l = [] then x else l :: x
def flT (cur : List UInt8) : List ByteArray := if cur = [] then [] else [⟨cur.toArray⟩]
def wdT : List UInt8 → List UInt8 → Bool → List ByteArray → List (List ByteArray)
  | [], cur, _, l => consT (l ++ flT cur) []
  | c :: r, cur, cm, l =>
    if c = 10 then consT (l ++ flT cur) (wdT r [] false [])
    else if cm then wdT r [] true l
    else if c = 35 then wdT r [] true (l ++ flT cur)
    else if c = 32 then wdT r [] false (l ++ flT cur)
    else wdT r (cur ++ [c]) false l
def tx (L : List Tk) : List ByteArray := L.map fun x => x.gText
theorem tx_of (cur : List UInt8) (ln col : Int) : tx (tkOf cur ln col) = flT cur := by
  unfold tx tkOf flT; split <;> rfl
theorem tx_app (a b : List Tk) : tx (a ++ b) = tx a ++ tx b := List.map_append
theorem tx_nil (l : List Tk) : tx l = [] ↔ l = [] := List.map_eq_nil_iff
theorem tx_cons (l : List Tk) (X : List (List Tk)) : (consL l X).map tx = consT (tx l) (X.map tx) := by
  unfold consL consT
  by_cases h : l = []
  · rw [if_pos h, if_pos ((tx_nil l).2 h)]
  · rw [if_neg h, if_neg (fun e => h ((tx_nil l).1 e))]; rfl
theorem wds_tx : ∀ (r cur : List UInt8) (cm : Bool) (l : List Tk) (ln col : Int), (wdsR r cur cm l ln col).map tx = wdT r cur cm (tx l)
  | [], cur, cm, l, ln, col => by rw [wdsR, wdT, tx_cons, tx_app, tx_of]; rfl
  | c :: r, cur, cm, l, ln, col => by
    rw [wdsR, wdT]
    by_cases h1 : c = 10
    · rw [if_pos h1, if_pos h1, tx_cons, tx_app, tx_of, wds_tx r]; rfl
    · rw [if_neg h1, if_neg h1]
      cases cm with
      | true => rw [if_pos rfl, if_pos rfl, wds_tx r]
      | false =>
        rw [if_neg (show ¬ (false = true) by decide), if_neg (show ¬ (false = true) by decide)]
        by_cases h2 : c = 35
        · rw [if_pos h2, if_pos h2, wds_tx r, tx_app, tx_of]
        · rw [if_neg h2, if_neg h2]
          by_cases h3 : c = 32
          · rw [if_pos h3, if_pos h3, wds_tx r, tx_app, tx_of]
          · rw [if_neg h3, if_neg h3, wds_tx r]
theorem lines_tx (s : ByteArray) : (linesF (splitOn 10 (ls s)) 1).map tx = wdT (ls s) [] false [] := by rw [← wds_text, wds_tx]; rfl
def plainC (c : UInt8) : Prop := c ≠ 10 ∧ c ≠ 32 ∧ c ≠ 35
theorem wd_run : ∀ (w r cur : List UInt8) (l : List ByteArray), (∀ c ∈ w, plainC c) → wdT (w ++ r) cur false l = wdT r (cur ++ w) false l
  | [], r, cur, l, _ => by rw [List.nil_append, List.append_nil]
  | c :: w, r, cur, l, h => by
    have hc := h c List.mem_cons_self
    rw [List.cons_append, wdT, if_neg hc.1, if_neg (show ¬ (false = true) by decide), if_neg hc.2.2, if_neg hc.2.1, wd_run w r (cur ++ [c]) l (fun c hc => h c (List.mem_cons_of_mem _ hc)), List.append_assoc]; rfl
theorem wd_word {x : ByteArray} {r : List UInt8} {l : List ByteArray} (h : ∀ c ∈ ls x, plainC c) (hne : ls x ≠ []) : wdT (ls x ++ 32 :: r) [] false l = wdT r [] false (l ++ [x]) := by
  rw [wd_run _ _ _ _ h, List.nil_append, wdT, if_neg (by decide), if_neg (show ¬ (false = true) by decide), if_neg (by decide), if_pos rfl]
  unfold flT; rw [if_neg hne, mk_ls]
theorem wd_line {x : ByteArray} {r : List UInt8} {l : List ByteArray} (h : ∀ c ∈ ls x, plainC c) (hne : ls x ≠ []) : wdT (ls x ++ 10 :: r) [] false l = (l ++ [x]) :: wdT r [] false [] := by
  rw [wd_run _ _ _ _ h, List.nil_append, wdT, if_pos rfl]
  unfold flT; rw [if_neg hne, mk_ls]; unfold consT; rw [if_neg (by simp)]
def wordsD (d : Dr) : List ByteArray := [W0, itoaB d.gAt, W1, itoaB d.gPedal, W2, itoaB d.gBrake, W3, itoaB d.gGear, W4, itoaB d.gLoad]
def lineB (d : Dr) : List UInt8 := ls W0 ++ 32 :: (ls (itoaB d.gAt) ++ 32 :: (ls W1 ++ 32 :: (ls (itoaB d.gPedal) ++ 32 :: (ls W2 ++ 32 :: (ls (itoaB d.gBrake) ++ 32 :: (ls W3 ++ 32 :: (ls (itoaB d.gGear) ++ 32 :: (ls W4 ++ 32 :: ls (itoaB d.gLoad)))))))))
theorem itoa_plain (n : Int) : (∀ c ∈ ls (itoaB n), plainC c) ∧ ls (itoaB n) ≠ [] := by
  obtain ⟨f1, f2⟩ := form_itoa n
  have e : ls (itoaB n) = Lib.itoa n := rfl
  rw [e]
  have hc := canonL_facts (form_canon f1)
  have hd : ∀ c ∈ digL (Lib.itoa n), plainC c := fun c h => by
    have := hc.2.1 c h
    simp only [isDig, Bool.and_eq_true, decide_eq_true_eq] at this
    exact ⟨fun e => by rw [e] at this; exact absurd this (by decide), fun e => by rw [e] at this; exact absurd this (by decide), fun e => by rw [e] at this; exact absurd this (by decide)⟩
  constructor
  · intro c h
    cases hn : negL (Lib.itoa n) with
    | true =>
      rw [digL_neg hn] at h
      rcases List.mem_cons.1 h with rfl | h
      · exact ⟨by decide, by decide, by decide⟩
      · exact hd c h
    | false => rw [digL_pos hn] at hd; exact hd c h
  · intro h0
    apply hc.1
    have := (digL_len (Lib.itoa n)).1
    rw [h0] at this; exact List.eq_nil_of_length_eq_zero (by simpa [h0] using this)
theorem W_plain : (∀ c ∈ ls W0, plainC c) ∧ (∀ c ∈ ls W1, plainC c) ∧ (∀ c ∈ ls W2, plainC c) ∧ (∀ c ∈ ls W3, plainC c) ∧ (∀ c ∈ ls W4, plainC c) := by
  unfold plainC; decide
theorem wd_lineB (d : Dr) (r : List UInt8) : wdT (lineB d ++ 10 :: r) [] false [] = wordsD d :: wdT r [] false [] := by
  obtain ⟨p0, p1, p2, p3, p4⟩ := W_plain
  unfold lineB
  simp only [List.append_assoc, List.cons_append]
  rw [wd_word p0 (by decide), wd_word (itoa_plain _).1 (itoa_plain _).2, wd_word p1 (by decide), wd_word (itoa_plain _).1 (itoa_plain _).2, wd_word p2 (by decide), wd_word (itoa_plain _).1 (itoa_plain _).2, wd_word p3 (by decide), wd_word (itoa_plain _).1 (itoa_plain _).2, wd_word p4 (by decide), wd_line (itoa_plain _).1 (itoa_plain _).2]; rfl
def textL : List Dr → List UInt8
  | [] => []
  | d :: l => lineB d ++ 10 :: textL l
theorem wd_text : ∀ l : List Dr, wdT (textL l) [] false [] = l.map wordsD
  | [] => rfl
  | d :: l => by rw [textL, wd_lineB, wd_text l]; rfl
theorem textL_snoc : ∀ (l : List Dr) (d : Dr), textL (l ++ [d]) = textL l ++ (lineB d ++ [10])
  | [], d => rfl
  | x :: l, d => by rw [List.cons_append, textL, textL, textL_snoc l d, List.append_assoc]; rfl
theorem lineD_ls (d : Dr) (t : ByteArray) : ls (lineD d t) = ls t ++ (lineB d ++ [10]) := by
  unfold lineD lineB
  simp only [ls_append, List.append_assoc, List.cons_append]
  rfl
theorem lines_ls (l : List Dr) : ∀ n, n ≤ l.length → ls (linesD l n) = textL (l.take n)
  | 0, _ => rfl
  | n + 1, h => by
    show ls (lineD _ _) = _
    rw [lineD_ls, lines_ls l n (by omega), List.take_succ_eq_append_getElem (by omega), textL_snoc, List.getD_eq_getElem?_getD, List.getElem?_eq_getElem (by omega)]; rfl
theorem textD_ls {l : List Dr} (hv : validD l = true) : ls (textD l) = textL l := by rw [text_yes hv, lines_ls l _ (Nat.le_refl _), List.take_length]
/-! a line with such words -/
theorem tx_wd {L : List Tk} {xs : List ByteArray} (h : tx L = xs) (k : Nat) (hk : k < L.length) : wd L k = xs.getD k ByteArray.empty := by
  subst h
  unfold wd tx
  rw [List.getD_eq_getElem?_getD, List.getD_eq_getElem?_getD, List.getElem?_map, List.getElem?_eq_getElem hk]; rfl
theorem dig_itoa {n : Int} (h : -10000000000000 < n ∧ n < 10000000000000) : (digL (ls (itoaB n))).length ≤ 13 := by
  obtain ⟨f1, f2⟩ := form_itoa n
  have e : ls (itoaB n) = Lib.itoa n := rfl
  rw [e]
  have hc := canonL_facts (form_canon f1)
  have hv : (decV (digL (Lib.itoa n)) : Int) < 10000000000000 := by
    unfold valL at f2; split at f2 <;> omega
  cases hd : digL (Lib.itoa n) with
  | nil => simp
  | cons c r =>
    rw [hd] at hc hv
    by_cases h48 : c.toNat = 48
    · have : c = 48 := UInt8.toNat_inj.1 (by rw [h48]; rfl)
      have := hc.2.2 (by rw [this]; rfl); omega
    · have h1 := decV_pos hc.2.1 h48
      by_cases hr : r.length ≤ 12
      · rw [List.length_cons]; omega
      · have h2 : (10 : Nat) ^ 13 ≤ 10 ^ r.length := Nat.pow_le_pow_right (by omega) (by omega)
        omega
theorem num_itoa {L : List Tk} {st : Option (Int × Int)} {k n : Nat} {lo hi v : Int} (hn : L.length = n) (h : st = none) (hk : k < n) (hw : wd L k = itoaB v) (hr : lo ≤ v ∧ v ≤ hi) (hv : -10000000000000 < v ∧ v < 10000000000000) : numS L st k lo hi = none ∧ nm L k = v := by
  obtain ⟨f1, f2⟩ := form_itoa v
  have e : ls (itoaB v) = Lib.itoa v := rfl
  have hm : nm L k = v := by unfold nm; rw [hw, e]; exact f2
  refine ⟨num_pass hn h hk (by rw [hw, e]; exact f1) (by rw [hw, decide_eq_true (dig_itoa hv), e, f1]; rfl) (by rw [hm]; exact hr), hm⟩
theorem word_itself {L : List Tk} {st : Option (Int × Int)} {k n : Nat} {t : ByteArray} (hn : L.length = n) (h : st = none) (hk : k < n) (hw : wd L k = t) : wordS L st k t = none :=
  word_pass hn h hk (by rw [hw, show (t.toList == t.toList) = true from beq_self_eq_true _]; rfl)
theorem line_words {L : List Tk} {d : Dr} {full : Bool} {bf : Int} (h : tx L = wordsD d) (hg : goodD d = true) (hf : full = false) (ht : timeB bf d.gAt = false) : lineS L full bf = none ∧ lineV L = d := by
  subst hf
  have hn : L.length = 10 := by have := congrArg List.length h; simpa [tx, wordsD] using this
  have w := fun k hk => tx_wd h k (show k < L.length by rw [hn]; exact hk)
  obtain ⟨g0, g1, g2, g3, g4⟩ := good_iff.1 hg
  have s1 : ls1 L false = none := ls1_pass hn (by omega) (by rw [w 0 (by omega)]; show (!(W0.toList == W0.toList)) = false; rw [show (W0.toList == W0.toList) = true from beq_self_eq_true _]; rfl)
  obtain ⟨s2, v1⟩ : ls2 L false = none ∧ nm L 1 = d.gAt := num_itoa hn s1 (by omega) (w 1 (by omega)) (by omega) (by omega)
  have s3 : ls3 L false bf = none := chk_pass s2 (by rw [v1]; exact ht)
  have s4 : ls4 L false bf = none := word_itself hn s3 (by omega) (w 2 (by omega))
  obtain ⟨s5, v3⟩ : ls5 L false bf = none ∧ nm L 3 = d.gPedal := num_itoa hn s4 (by omega) (w 3 (by omega)) (by omega) (by omega)
  have s6 : ls6 L false bf = none := word_itself hn s5 (by omega) (w 4 (by omega))
  obtain ⟨s7, v5⟩ : ls7 L false bf = none ∧ nm L 5 = d.gBrake := num_itoa hn s6 (by omega) (w 5 (by omega)) (by omega) (by omega)
  have s8 : ls8 L false bf = none := word_itself hn s7 (by omega) (w 6 (by omega))
  obtain ⟨s9, v7⟩ : ls9 L false bf = none ∧ nm L 7 = d.gGear := num_itoa hn s8 (by omega) (w 7 (by omega)) (by omega) (by omega)
  have s10 : ls10 L false bf = none := word_itself hn s9 (by omega) (w 8 (by omega))
  obtain ⟨s11, v9⟩ : ls11 L false bf = none ∧ nm L 9 = d.gLoad := num_itoa hn s10 (by omega) (w 9 (by omega)) (by omega) (by omega)
  exact ⟨chk_pass s11 (decide_eq_false (by omega)), by unfold lineV; rw [v1, v3, v5, v7, v9]⟩
theorem getD_mid (acc l : List Dr) (d : Dr) : (acc ++ d :: l).getD acc.length dr0 = d := by
  rw [List.getD_eq_getElem?_getD, List.getElem?_append_right (Nat.le_refl _), Nat.sub_self]; rfl
theorem getD_left {acc l : List Dr} {j : Nat} (h : j < acc.length) : (acc ++ l).getD j dr0 = acc.getD j dr0 := by
  rw [List.getD_eq_getElem?_getD, List.getElem?_append_left h, List.getD_eq_getElem?_getD]
theorem par_words : ∀ (Ls : List (List Tk)) (l acc : List Dr), Ls.map tx = l.map wordsD → validD (acc ++ l) = true → parG Ls acc = ⟨acc ++ l, 0, 0, 0⟩
  | [], l, acc, h, hv => by
    have : l = [] := by cases l with | nil => rfl | cons _ _ => cases h
    subst this
    rw [List.append_nil] at hv ⊢
    show (if acc.length = 0 then _ else _) = _
    rw [if_neg (by have := (valid_iff.1 hv).1; omega)]
  | L :: Ls, [], acc, h, hv => by cases h
  | L :: Ls, d :: l, acc, h, hv => by
    obtain ⟨h1, h2⟩ := List.cons.inj h
    obtain ⟨⟨v1, v2, v3⟩, v4⟩ := valid_iff.1 hv
    rw [List.length_append, List.length_cons] at v2
    have hok := ok_iff.1 (v4 acc.length (by rw [List.length_append, List.length_cons]; omega))
    rw [getD_mid] at hok
    have ht : timeB (bfD acc) d.gAt = false := by
      unfold timeB bfD
      by_cases h0 : acc.length = 0
      · have : acc = [] := List.eq_nil_of_length_eq_zero h0
        subst this
        rw [if_pos (show ([] : List Dr).length = 0 from rfl), if_pos (by decide)]
        exact decide_eq_false (fun hn => hn v3)
      · have hp : acc.length = 0 ∨ (acc.getD (acc.length - 1) dr0).gAt < d.gAt := by
          rw [← getD_left (l := d :: l) (show acc.length - 1 < acc.length by omega)]; exact hok.2
        have hb := val_at hv (j := acc.length - 1) (by rw [List.length_append]; omega)
        rw [getD_left (show acc.length - 1 < acc.length by omega)] at hb
        rw [if_neg h0, if_neg (by omega)]
        exact decide_eq_false (by omega)
    obtain ⟨e1, e2⟩ := line_words (full := fullD acc) h1 hok.1 (by unfold fullD; exact decide_eq_false (by omega)) ht
    have ih := par_words Ls l (acc ++ [d]) h2 (by rw [List.append_assoc]; exact hv)
    show (match lineS L (fullD acc) (bfD acc) with | none => parG Ls (acc ++ [lineV L]) | some x => _) = _
    rw [e1, e2, ih, List.append_assoc]; rfl
/-! what is parsed is valid -/
end Go.Proofs.YthhdaackhfffiaaDoor

