/- Walks of functions of this seat, printed by a program over the engine. Conditions: as each theorem says. -/
import Derived.Test.YtlklealllohmgaaDoorX1
import Derived.Test.YtlklealllohmgaaDoorEng12
import Derived.Test.YtlklealllohmgaaDoorShelf
namespace Go.Proofs.YtlklealllohmgaaDoor
open Go.Eng Go.RowKit
set_option linter.unusedSimpArgs false
set_option linter.unusedVariables false
abbrev TabW (w : World) : Prop := Lib.TabIs Tryd.prog w "internal/strconv.uint64pow10" .u64 Lib.pow10Tab ∧ ErrW w 4 ∧ ErrW w 5 ∧ IntW w 0 .i64
theorem tabW_sep {w w' : World} {L : List Go.Eng.Claim} (h : TabW w) (S : Sep w L w') : TabW w' := ⟨S.tab (g := 3) (by kernel_rfl) h.1, (h.2.1).sep S, (h.2.2.1).sep S, (h.2.2.2).sep S⟩
def parE (s : ByteArray) : Int := if 24 < s.size then 5 else if formL (ls s) then (if fitL (valL (ls s)) then 0 else 9) else 3
def parX (s : ByteArray) : Int := if parE s = 0 then valL (ls s) else 0
theorem par_bounds (s : ByteArray) : -9223372036854775808 ≤ parX s ∧ parX s ≤ 9223372036854775807 := by
  unfold parX
  split
  · rename_i h
    unfold parE at h
    split at h; · omega
    split at h
    · split at h
      · rename_i h1; simp only [fitL, Bool.and_eq_true, decide_eq_true_eq] at h1; exact h1
      · omega
    · omega
  · omega
theorem par_five {s : ByteArray} (h : 24 < s.size) : parX s = 0 ∧ parE s = 5 := by
  have e : parE s = 5 := by unfold parE; rw [if_pos h]
  exact ⟨by unfold parX; rw [if_neg (by omega)], e⟩
theorem par_three {s : ByteArray} (h : s.size ≤ 24) (hf : formL (ls s) = false) : parX s = 0 ∧ parE s = 3 := by
  have e : parE s = 3 := by unfold parE; rw [if_neg (by omega), if_neg (by rw [hf]; decide)]
  exact ⟨by unfold parX; rw [if_neg (by omega)], e⟩
theorem par_nine {s : ByteArray} (h : s.size ≤ 24) (hf : formL (ls s) = true) (hg : fitL (valL (ls s)) = false) : parX s = 0 ∧ parE s = 9 := by
  have e : parE s = 9 := by unfold parE; rw [if_neg (by omega), if_pos hf, if_neg (by rw [hg]; decide)]
  exact ⟨by unfold parX; rw [if_neg (by omega)], e⟩
theorem par_zero {s : ByteArray} (h : s.size ≤ 24) (hf : formL (ls s) = true) (hg : fitL (valL (ls s)) = true) : parX s = valL (ls s) ∧ parE s = 0 := by
  have e : parE s = 0 := by unfold parE; rw [if_neg (by omega), if_pos hf, if_pos hg]
  exact ⟨by unfold parX; rw [if_pos e], e⟩
theorem par_facts {s : ByteArray} (h : parE s = 0) : s.size ≤ 24 ∧ formL (ls s) = true ∧ fitL (valL (ls s)) = true ∧ parX s = valL (ls s) := by
  have hx : parX s = valL (ls s) := by unfold parX; rw [if_pos h]
  unfold parE at h
  split at h; · omega
  split at h
  · split at h
    · rename_i h1 h2 h3; exact ⟨by omega, h2, h3, hx⟩
    · omega
  · omega
theorem par_text {s : ByteArray} (h : parE s = 0) : itoaB (parX s) = s := by
  obtain ⟨_, h2, _, h4⟩ := par_facts h
  apply ls_inj
  rw [h4]; exact itoa_form h2
theorem text_par {n : Int} (h : -9223372036854775808 ≤ n ∧ n ≤ 9223372036854775807) : parE (itoaB n) = 0 ∧ parX (itoaB n) = n := by
  obtain ⟨f1, f2⟩ := form_itoa n
  have hz := itoaB_size h
  have e : ls (itoaB n) = Lib.itoa n := rfl
  obtain ⟨h1, h2⟩ := par_zero (s := itoaB n) (by omega) (by rw [e]; exact f1) (by rw [e, f2]; simp only [fitL, Bool.and_eq_true, decide_eq_true_eq]; exact h)
  exact ⟨h2, by rw [h1, e, f2]⟩
/-! the bytes of a text that may have a sign -/
theorem dig_minus {s : ByteArray} (h : s.size ≠ 0) (h2 : byteAt s 0 = 45) : ls (s.extract 1 s.size) = digL (ls s) ∧ negL (ls s) = true := by
  have hl := ls_length s
  rw [ls_extract, ← hl, List.take_length]
  cases hs : ls s with
  | nil => rw [hs] at hl; simp at hl; omega
  | cons c l =>
    rw [byteAt_ls, hs] at h2
    have hc : c = 45 := UInt8.toNat_inj.1 (by have h3 : ((c.toNat : Nat) : Int) = 45 := h2; have : (45 : UInt8).toNat = 45 := rfl; omega)
    subst hc
    exact ⟨rfl, rfl⟩
theorem dig_plain {s : ByteArray} (h : s.size = 0 ∨ byteAt s 0 ≠ 45) : ls s = digL (ls s) ∧ negL (ls s) = false := by
  have hl := ls_length s
  have hn : negL (ls s) = false := by
    cases hs : ls s with
    | nil => rfl
    | cons c l =>
      rcases h with h | h
      · rw [hs] at hl; simp at hl; omega
      · rw [byteAt_ls, hs] at h
        unfold negL
        rw [List.head?_cons, beq_eq_false_iff_ne]
        intro e
        have := Option.some.inj e; subst this
        exact h rfl
  exact ⟨(digL_pos hn).symm, hn⟩
theorem head_byte {d : ByteArray} {l : List UInt8} (hd : ls d = l) (h : d.size ≠ 0) (k : Nat) (hk : k < 256) : (l.head? == some (UInt8.ofNat k)) = decide (byteAt d 0 = k) := by
  have hl := ls_length d
  rw [byteAt_ls, hd]
  rw [hd] at hl
  cases l with
  | nil => simp at hl; omega
  | cons c l =>
    rw [List.head?_cons, Bool.eq_iff_iff, beq_iff_eq, decide_eq_true_eq]
    constructor
    · intro e
      have := Option.some.inj e; subst this
      show (((UInt8.ofNat k).toNat : Nat) : Int) = k
      rw [UInt8.toNat_ofNat']; omega
    · intro e
      have e2 : ((c.toNat : Nat) : Int) = k := e
      congr 1
      apply UInt8.toNat_inj.1
      rw [UInt8.toNat_ofNat']; omega
theorem head48 {d : ByteArray} {l : List UInt8} (hd : ls d = l) (h : d.size ≠ 0) : (l.head? == some 48) = decide (byteAt d 0 = 48) := head_byte hd h 48 (by omega)
theorem form_bad1 {s d : ByteArray} (hd : ls d = digL (ls s)) (h : d.size = 0 ∨ (byteAt d 0 = 48 ∧ 1 < s.size)) : formL (ls s) = false := by
  have hl := ls_length d
  have hsl := ls_length s
  unfold formL
  by_cases h0 : d.size = 0
  · rw [← hd, show ls d = [] from List.eq_nil_of_length_eq_zero (by omega)]; rfl
  · rcases h with h | ⟨h1, h2⟩
    · exact absurd h h0
    · rw [head48 hd h0, decide_eq_true h1, decide_eq_true (by omega)]; simp
theorem getD_dig {d : ByteArray} {i : Nat} (hi : i < d.size) : isDig ((ls d).getD i 0) = (decide (48 ≤ byteAt d i) && decide (byteAt d i ≤ 57)) := by
  rw [byteAt_ls]; unfold isDig
  rw [Bool.eq_iff_iff, Bool.and_eq_true, Bool.and_eq_true, decide_eq_true_eq, decide_eq_true_eq, decide_eq_true_eq, decide_eq_true_eq]; omega
theorem form_bad2 {s d : ByteArray} (hd : ls d = digL (ls s)) {i : Nat} (hi : i < d.size) (h : byteAt d i < 48 ∨ 57 < byteAt d i) : formL (ls s) = false := by
  have hl := ls_length d
  have hdig := getD_dig hi
  have hf : isDig ((ls d).getD i 0) = false := by
    rw [hdig, Bool.and_eq_false_iff, decide_eq_false_iff_not, decide_eq_false_iff_not]; omega
  have hall : (digL (ls s)).all isDig = false := by
    rw [← hd, List.all_eq_false]
    exact ⟨(ls d).getD i 0, by rw [List.getD_eq_getElem?_getD, List.getElem?_eq_getElem (by omega)]; exact List.getElem_mem _, by rw [hf]; simp⟩
  unfold formL; rw [hall, Bool.and_false, Bool.false_and]
theorem form_good {s d : ByteArray} (hd : ls d = digL (ls s)) (h : ¬ (d.size = 0) ∧ (¬ byteAt d 0 = 48 ∨ ¬ 1 < s.size)) (hq : ∀ j, j < d.size → 48 ≤ byteAt d j ∧ byteAt d j ≤ 57) : formL (ls s) = true := by
  have hl := ls_length d
  have hsl := ls_length s
  have hall : (digL (ls s)).all isDig = true := by
    rw [← hd, List.all_eq_true]
    intro c hc
    obtain ⟨j, hj, rfl⟩ := List.mem_iff_getElem.1 hc
    have h1 := getD_dig (d := d) (i := j) (by omega)
    rw [List.getD_eq_getElem?_getD, List.getElem?_eq_getElem hj, Option.getD_some] at h1
    rw [h1]; have := hq j (by omega)
    rw [decide_eq_true this.1, decide_eq_true this.2]; rfl
  have hne : (digL (ls s)).isEmpty = false := by
    rw [← hd, List.isEmpty_eq_false_iff]; intro e; rw [e] at hl; simp at hl; omega
  unfold formL
  rw [hall, hne]
  rw [head48 hd h.1]
  rcases h.2 with h2 | h2
  · rw [decide_eq_false (by simpa using h2)]; rfl
  · rw [decide_eq_false (show ¬ 1 < (ls s).length by omega), Bool.and_false]; rfl
theorem wrapU (n : Int) : IntKind.wrap .u64 n = n % 18446744073709551616 := by simp [IntKind.wrap, IntKind.bits, IntKind.signed]
theorem wrap_i64_neg {m : Int} (h : 0 < m ∧ m ≤ 9223372036854775808) : IntKind.wrap .i64 (18446744073709551616 - m) = -m := by
  have e : (18446744073709551616 - m) % 2 ^ 64 = 18446744073709551616 - m := by
    rw [show (2 : Int) ^ 64 = 18446744073709551616 by decide]; exact Int.emod_eq_of_lt (by omega) (by omega)
  simp only [IntKind.wrap, IntKind.bits, IntKind.signed, e, Bool.true_and]
  rw [show (2 : Int) ^ (64 - 1) = 9223372036854775808 by decide, show (2 : Int) ^ 64 = 18446744073709551616 by decide, if_pos (decide_eq_true (by omega))]
  omega
/-- a numeral of more than 19 digits is too great -/
theorem fit_long {s d : ByteArray} (hd : ls d = digL (ls s)) (hf : formL (ls s) = true) (h : 19 < d.size) : fitL (valL (ls s)) = false := by
  have hl := ls_length d
  obtain ⟨f1, f2, f3⟩ := canonL_facts (form_canon hf)
  have hbig : 10000000000000000000 ≤ decV (digL (ls s)) := by
    rw [← hd] at f1 f2 f3 ⊢
    cases hc : ls d with
    | nil => exact absurd hc f1
    | cons c l =>
      rw [hc] at f2 f3 hl
      have hne : c.toNat ≠ 48 := fun e => by
        have e2 : c = 48 := UInt8.toNat_inj.1 (by rw [e]; rfl)
        have := f3 (by rw [e2]; rfl)
        simp only [List.length_cons] at this hl; omega
      have := decV_pos (l := l) (c := c) f2 hne
      simp only [List.length_cons] at hl
      have h10 : 10 ^ 19 ≤ 10 ^ l.length := Nat.pow_le_pow_right (by decide) (by omega)
      have : (10 : Nat) ^ 19 = 10000000000000000000 := by decide
      omega
  unfold fitL valL
  split
  · rw [decide_eq_false (by omega)]; rfl
  · rw [decide_eq_false (show ¬ ((decV (digL (ls s)) : Int) ≤ 9223372036854775807) by omega), Bool.and_false]
theorem dg_step {q : Nat → Prop} {i : Int} (h0 : 0 ≤ i) (hq : ∀ k, k < i.toNat → q k) (h : q i.toNat) : ∀ k, k < (i + 1).toNat → q k := by
  intro k hk
  by_cases e : k = i.toNat
  · subst e; exact h
  · exact hq k (by omega)
theorem decV_take {d : ByteArray} {i : Int} (h0 : 0 ≤ i) (hi : i < (d.size : Int)) : (decV ((ls d).take (i + 1).toNat) : Int) = decV ((ls d).take i.toNat) * 10 + (((((ls d).getD i.toNat 0).toNat - 48 : Nat)) : Int) := by
  have hl := ls_length d
  rw [show (i + 1).toNat = i.toNat + 1 by omega, List.take_succ_eq_append_getElem (by omega)]
  rw [show decV ((ls d).take i.toNat ++ [(ls d)[i.toNat]]) = decV ((ls d).take i.toNat) * 10 + _ from foldV_snoc _ _ _]
  rw [List.getD_eq_getElem?_getD, List.getElem?_eq_getElem (by omega), Option.getD_some]
  omega
theorem take_bound {d : ByteArray} {n : Nat} (hq : ∀ j, j < d.size → 48 ≤ byteAt d j ∧ byteAt d j ≤ 57) (hn : n ≤ 19) : (decV ((ls d).take n) : Int) < 10000000000000000000 := by
  have hl := ls_length d
  have h1 := decV_lt (l := (ls d).take n) fun c hc => by
    obtain ⟨j, hj, rfl⟩ := List.mem_iff_getElem.1 (List.mem_of_mem_take hc)
    have h1 := getD_dig (d := d) (i := j) (by omega)
    rw [List.getD_eq_getElem?_getD, List.getElem?_eq_getElem hj, Option.getD_some] at h1
    rw [h1]; have := hq j (by omega)
    rw [decide_eq_true this.1, decide_eq_true this.2]; rfl
  have h2 : ((ls d).take n).length ≤ 19 := by rw [List.length_take]; omega
  have h3 : (10 : Nat) ^ ((ls d).take n).length ≤ 10 ^ 19 := Nat.pow_le_pow_right (by decide) h2
  have : (10 : Nat) ^ 19 = 10000000000000000000 := by decide
  omega
theorem take_all {d : ByteArray} {l : List UInt8} (hd : ls d = l) {i : Int} (h : (d.size : Int) ≤ i) : (decV ((ls d).take i.toNat) : Int) = decV l := by
  have hl := ls_length d
  rw [List.take_of_length_le (by omega), hd]
theorem fit_neg {l : List UInt8} {m : Int} (hn : negL l = true) (hm : m = decV (digL l)) : fitL (valL l) = decide (m ≤ 9223372036854775808) ∧ valL l = -m := by
  unfold valL; rw [if_pos hn, ← hm]
  refine ⟨?_, rfl⟩
  unfold fitL
  rw [Bool.eq_iff_iff, Bool.and_eq_true, decide_eq_true_eq, decide_eq_true_eq, decide_eq_true_eq]; omega
theorem fit_pos {l : List UInt8} {m : Int} (hn : negL l = false) (hm : m = decV (digL l)) : fitL (valL l) = decide (m < 9223372036854775808) ∧ valL l = m := by
  unfold valL; rw [hn, if_neg (by decide), ← hm]
  refine ⟨?_, rfl⟩
  unfold fitL
  rw [Bool.eq_iff_iff, Bool.and_eq_true, decide_eq_true_eq, decide_eq_true_eq, decide_eq_true_eq]; omega
/-! the text of a number, digit by digit -/
theorem text_first {m : Int} : Lib.decDigits m.toNat = Lib.decDigits m.toNat ++ ls ByteArray.empty := by rw [empty_ls, List.append_nil]
theorem text_round {m : Int} (h0 : 0 ≤ m) (h : ¬ m / 10 = 0) (s : ByteArray) : Lib.decDigits m.toNat ++ ls s = Lib.decDigits (m / 10).toNat ++ ls (bytesB [48 + m % 10] ++ s) := by
  rw [ls_append, bytesB_ls, Lib.decDigits, dif_neg (by omega), show (m / 10).toNat = m.toNat / 10 by omega, List.append_assoc]
  congr 3
  show UInt8.ofNat (48 + m.toNat % 10) = UInt8.ofNat (48 + m % 10).toNat
  congr 1; omega
theorem text_last {m : Int} (h0 : 0 ≤ m) (h : m / 10 = 0) (s : ByteArray) : Lib.decDigits m.toNat ++ ls s = ls (bytesB [48 + m % 10] ++ s) := by
  rw [ls_append, bytesB_ls, Lib.decDigits_one (by omega)]
  congr 2
  show UInt8.ofNat (48 + m.toNat) = UInt8.ofNat (48 + m % 10).toNat
  congr 1; omega
theorem text_size {m m0 : Int} {s : ByteArray} (hm : 0 ≤ m0 ∧ m0 ≤ 9223372036854775808) (h : Lib.decDigits m0.toNat = Lib.decDigits m.toNat ++ ls s) : s.size ≤ 20 := by
  have h1 := congrArg List.length h
  rw [List.length_append, ls_length, Lib.decDigits_length] at h1
  have := nDigits_le 18 m0.toNat (by rw [ten19]; omega)
  omega
theorem text_neg {n m : Int} {s : ByteArray} (hn : n < 0) (hm : m = -n) (h : Lib.decDigits m.toNat = ls s) : (⟨#[45]⟩ : ByteArray) ++ s = itoaB n := by
  apply ls_inj
  show ls _ = Lib.itoa n
  rw [ls_append, ← h]
  unfold Lib.itoa
  rw [if_pos hn, show n.natAbs = m.toNat by omega]; rfl
theorem text_pos {n m : Int} {s : ByteArray} (hn : ¬ n < 0) (hm : m = n) (h : Lib.decDigits m.toNat = ls s) : s = itoaB n := by
  apply ls_inj
  show ls _ = Lib.itoa n
  unfold Lib.itoa
  rw [if_neg hn, ← hm, h]

theorem hb43 : HasBody Tryd.prog 43 := fun _ _ => by kernel_rfl
theorem itoa_any (n : Int) (w : World) (hn : -9223372036854775808 ≤ n ∧ n ≤ 9223372036854775807) (hW : TabW w) : Ret Tryd.prog 43 #[.int .i64 n] w (fun v w' => v = .string (itoaB n) ∧ Sep w [] w') :=
  Ret.of_calls (Tryd.strconv_Itoa n hn.1 hn.2 w hW.1) fun w' ⟨k, os, e⟩ => ⟨rfl, by subst e; exact .of_grow _ _ _⟩
theorem hb60 : HasBody Tryd.prog 60 := fun _ _ => by kernel_rfl
theorem atoi_ok (s : ByteArray) (w : World) (hs : s.size ≤ 281474976710656) (h : formL (ls s) = true) (hf : fitL (valL (ls s)) = true) : Ret Tryd.prog 60 #[.string s] w (fun v w' => v = .tuple #[.int .i64 (valL (ls s)), .nilIface] ∧ Sep w [] w') :=
  Ret.of_calls (Tryd.strconv_Atoi_ok s (by omega) (valL (ls s)) (by rw [atoi_form h, if_pos hf]) w) fun w' hw => ⟨rfl, by rcases hw with rfl | ⟨t, rfl⟩; exact .refl _; exact .of_below (Lib.bytesWorld_below _ _ _)⟩
theorem atoi_big (s : ByteArray) (w : World) (hs : s.size ≤ 281474976710656) (h : formL (ls s) = true) (hf : fitL (valL (ls s)) = false) (hW : TabW w) : Ret Tryd.prog 60 #[.string s] w (fun v w' => ∃ N, v = .tuple #[.int .i64 (Lib.atoiSat (ls s)), .iface 97 (.pointer (some ⟨N, 0, none⟩))] ∧ Sep w [] w') := by
  obtain ⟨ev, hv, hev⟩ := hW.2.2.1
  exact Calls.mono (Tryd.strconv_Atoi_range s hs (by rw [atoi_form h, if_neg (by rw [hf]; decide)]) ev w hv hev) fun e w' ⟨N, he, _, _, hb⟩ => ⟨_, he, N, rfl, .of_below hb⟩
theorem hb15 : HasBody Tryd.prog 15 := fun _ _ => by kernel_rfl
noncomputable def K15_0 : List Item := adv 7 [] (bodyOf Tryd.f15)
noncomputable def K15_1 : List Item := adv 2 [] (popK K15_0)
set_option maxRecDepth 20000 in
set_option maxHeartbeats 20000000 in
theorem atext_any (n : Int) (w : World) (hn : -9223372036854775808 ≤ n ∧ n ≤ 9223372036854775807) (hW : TabW w) : Ret Tryd.prog 15 #[.int .i64 n] w (fun v w' => v = .string (itoaB n) ∧ Sep w [] w') := by
  have S0 := Sep.refl w
  refine Ret.named fun R hR => ?_
  refine Ret.of_J (N := 5) [(0, .int .i64 n)] Tryd.func15 rfl rfl (Nat.le_of_ble_eq_true (by kernel_rfl)) (by kernel_rfl) ?_
  refine J.run 7 K15_0 [(3, .int .i64 n)] w (by kernel_rfl) ?_
  refine J.callF 4 43 #[.int .i64 n] hb43 (by kernel_rfl) (itoa_any n _ (by omega) (tabW_sep hW S0)) ?_
  rintro _ w1 ⟨rfl, T1⟩
  have S1 : Sep w [] w1 := S0.trans T1
  clear T1
  have := itoaB_size (n := n) (by omega)
  refine J.run 2 K15_1 [(2, .string (itoaB n))] w1 (by kernel_rfl) ?_
  refine J.ret Tryd.f15 [.string (itoaB n)] Tryd.func15 ⟨by kernel_rfl, trivial⟩ ?_
  refine hR _ _ ?_
  exact ⟨rfl, S1.nil⟩

theorem hb44 : HasBody Tryd.prog 44 := fun _ _ => by kernel_rfl
noncomputable def K44_0 : List Item := adv 12 [] (bodyOf Tryd.f44)
noncomputable def K44_1 : List Item := adv 6 [true] K44_0
noncomputable def K44_2 : List Item := adv 12 [false] K44_0
noncomputable def K44_3 : List Item := adv 1 [] K44_2
noncomputable def K44_4 : List Item := adv 5 [] K44_3
noncomputable def K44_5 : List Item := List.drop 1 K44_4
noncomputable def K44_6 : List Item := adv 5 [] K44_5
noncomputable def K44_7 : List Item := adv 1 [] K44_6
noncomputable def K44_8 : List Item := adv 16 [true] K44_7
noncomputable def K44_9 : List Item := adv 1 [] K44_7
noncomputable def K44_10 : List Item := adv 2 [] (popK K44_9)
noncomputable def K44_11 : List Item := adv 6 [] K44_10
noncomputable def K44_12 : List Item := adv 6 [true] K44_11
noncomputable def K44_13 : List Item := adv 11 [false] K44_11
noncomputable def K44_14 : List Item := adv 5 [] K44_13
noncomputable def K44_15 : List Item := adv 13 [true] K44_14
noncomputable def K44_16 : List Item := adv 2 [] (popK K44_15)
noncomputable def K44_17 : List Item := adv 12 [true] K44_16
noncomputable def K44_18 : List Item := adv 2 [] K44_16
noncomputable def K44_19 : List Item := adv 3 [] (popK K44_18)
noncomputable def K44_20 : List Item := adv 6 [true] K44_19
noncomputable def K44_21 : List Item := adv 5 [false] K44_19
noncomputable def K44_22 : List Item := adv 5 [false] K44_14
noncomputable def K44_23 : List Item := adv 20 [false] (popK K44_22)
noncomputable def K44_24 : List Item := adv 18 [true] (popK K44_22)
noncomputable def K44_25 : List Item := adv 17 [false] K44_10
noncomputable def K44_26 : List Item := adv 5 [] K44_25
noncomputable def K44_27 : List Item := adv 13 [true] K44_26
noncomputable def K44_28 : List Item := adv 2 [] (popK K44_27)
noncomputable def K44_29 : List Item := adv 12 [true] K44_28
noncomputable def K44_30 : List Item := adv 2 [] K44_28
noncomputable def K44_31 : List Item := adv 3 [] (popK K44_30)
noncomputable def K44_32 : List Item := adv 6 [true] K44_31
noncomputable def K44_33 : List Item := adv 5 [false] K44_31
noncomputable def K44_34 : List Item := adv 5 [false] K44_26
noncomputable def K44_35 : List Item := adv 20 [false] (popK K44_34)
noncomputable def K44_36 : List Item := adv 18 [true] (popK K44_34)
noncomputable def K44_37 : List Item := adv 1 [] K44_3
noncomputable def K44_38 : List Item := adv 3 [] (popK K44_37)
noncomputable def K44_39 : List Item := List.drop 1 K44_38
noncomputable def K44_40 : List Item := adv 5 [] K44_39
noncomputable def K44_41 : List Item := adv 1 [] K44_40
noncomputable def K44_42 : List Item := adv 16 [true] K44_41
noncomputable def K44_43 : List Item := adv 1 [] K44_41
noncomputable def K44_44 : List Item := adv 2 [] (popK K44_43)
noncomputable def K44_45 : List Item := adv 6 [] K44_44
noncomputable def K44_46 : List Item := adv 6 [true] K44_45
noncomputable def K44_47 : List Item := adv 11 [false] K44_45
noncomputable def K44_48 : List Item := adv 5 [] K44_47
noncomputable def K44_49 : List Item := adv 13 [true] K44_48
noncomputable def K44_50 : List Item := adv 2 [] (popK K44_49)
noncomputable def K44_51 : List Item := adv 12 [true] K44_50
noncomputable def K44_52 : List Item := adv 2 [] K44_50
noncomputable def K44_53 : List Item := adv 3 [] (popK K44_52)
noncomputable def K44_54 : List Item := adv 6 [true] K44_53
noncomputable def K44_55 : List Item := adv 5 [false] K44_53
noncomputable def K44_56 : List Item := adv 5 [false] K44_48
noncomputable def K44_57 : List Item := adv 20 [false] (popK K44_56)
noncomputable def K44_58 : List Item := adv 18 [true] (popK K44_56)
noncomputable def K44_59 : List Item := adv 17 [false] K44_44
noncomputable def K44_60 : List Item := adv 5 [] K44_59
noncomputable def K44_61 : List Item := adv 13 [true] K44_60
noncomputable def K44_62 : List Item := adv 2 [] (popK K44_61)
noncomputable def K44_63 : List Item := adv 12 [true] K44_62
noncomputable def K44_64 : List Item := adv 2 [] K44_62
noncomputable def K44_65 : List Item := adv 3 [] (popK K44_64)
noncomputable def K44_66 : List Item := adv 6 [true] K44_65
noncomputable def K44_67 : List Item := adv 5 [false] K44_65
noncomputable def K44_68 : List Item := adv 5 [false] K44_60
noncomputable def K44_69 : List Item := adv 20 [false] (popK K44_68)
noncomputable def K44_70 : List Item := adv 18 [true] (popK K44_68)
noncomputable def K44_71 : List Item := adv 3 [true] K44_38
set_option maxRecDepth 20000 in
set_option maxHeartbeats 20000000 in
theorem aparse_any (s : ByteArray) (w : World) (hs : s.size ≤ 281474976710656) (hW : TabW w) : Ret Tryd.prog 44 #[.string s] w (fun v w' => v = .tuple #[.int .i64 (parX s), .int .i64 (parE s)] ∧ Sep w [] w') := by
  have S0 := Sep.refl w
  refine Ret.named fun R hR => ?_
  refine Ret.of_J (N := 57) [(0, .string s)] Tryd.func44 rfl rfl (Nat.le_of_ble_eq_true (by kernel_rfl)) (by kernel_rfl) ?_
  refine J.run 12 K44_0 [(10, .bool (decide ((s.size : Int) > 24))), (0, .string s)] w (by kernel_rfl) ?_
  by_cases fk1 : (s.size : Int) > 24
  · skip
    refine J.head (.bool true) (congrArg Value.bool (decide_eq_true fk1)) ?_
    refine J.run 6 K44_1 [(3, .int .i64 5), (2, .int .i64 0)] w (by kernel_rfl) ?_
    refine J.ret Tryd.f44 [.int .i64 0, .int .i64 5] Tryd.func44 ⟨by kernel_rfl, by kernel_rfl, trivial⟩ ?_
    refine hR _ _ ?_
    obtain ⟨e1, e2⟩ := par_five (s := s) (by omega)
    exact ⟨by rw [tup_two, e1, e2], S0.nil⟩
  · skip
    refine J.head (.bool false) (congrArg Value.bool (decide_eq_false fk1)) ?_
    refine J.run 12 K44_2 [(13, .bool (!(s.toList == (⟨#[]⟩ : ByteArray).toList))), (4, .string s), (0, .string s)] w (by kernel_rfl) ?_
    refine J.head (.bool ((s.size : Int) != 0)) (congrArg Value.bool (beq_nil_neq _)) ?_
    refine J.run 1 K44_3 [(14, .bool ((s.size : Int) != 0)), (4, .string s), (0, .string s)] w (by kernel_rfl) ?_
    by_cases fk2 : (s.size : Int) = 0
    · skip
      refine J.head (.bool false) (congrArg Value.bool (bne_eq_false_iff_eq.2 fk2)) ?_
      refine J.run 5 K44_4 [(18, .bool false), (4, .string s), (0, .string s)] w (by kernel_rfl) ?_
      have X1 : ∀ (d : ByteArray) (w1 : World), (ls d = digL (ls s)) → ((d).size ≤ s.size) → Sep w [] w1 → J Tryd.prog 44 57 R K44_5 [(0, .string s), (4, .string d)] w1 := by
        intro d w1 hd hds S1
        refine J.run 5 K44_6 [(22, .bool (d.toList == (⟨#[]⟩ : ByteArray).toList)), (0, .string s), (4, .string d)] w1 (by kernel_rfl) ?_
        refine J.head (.bool ((d.size : Int) == 0)) (congrArg Value.bool (beq_nil_eql _)) ?_
        refine J.run 1 K44_7 [(23, .bool ((d.size : Int) == 0)), (0, .string s), (4, .string d)] w1 (by kernel_rfl) ?_
        by_cases fk3 : (d.size : Int) = 0
        · skip
          refine J.head (.bool true) (congrArg Value.bool (beq_iff_eq.2 fk3)) ?_
          refine J.run 16 K44_8 [(3, .int .i64 3), (2, .int .i64 0)] w1 (by kernel_rfl) ?_
          refine J.ret Tryd.f44 [.int .i64 0, .int .i64 3] Tryd.func44 ⟨by kernel_rfl, by kernel_rfl, trivial⟩ ?_
          refine hR _ _ ?_
          obtain ⟨e1, e2⟩ := par_three (s := s) (by omega) (by first | exact form_bad1 hd (by omega) | exact form_bad2 hd (i := i.toNat) (by omega) (by omega))
          exact ⟨by rw [tup_two, e1, e2], S1.nil⟩
        · skip
          refine J.head (.bool false) (congrArg Value.bool (beq_eq_false_iff_ne.2 fk3)) ?_
          refine J.run 1 K44_9 [(24, .string d), (23, .bool false), (0, .string s), (4, .string d)] w1 (by kernel_rfl) ?_
          have := byteAt_bounds d 0
          refine J.ok (OK.byte 25 9 d (0 : Int) (byteAt d 0) (by kernel_rfl) (by kernel_rfl) (by omega) (by omega) (rfl)) ?_
          refine J.run 2 K44_10 [(27, .bool ((byteAt d 0) == 48)), (23, .bool false), (0, .string s), (4, .string d)] w1 (by kernel_rfl) ?_
          by_cases fk4 : (byteAt d 0) = 48
          · skip
            refine J.head (.bool true) (congrArg Value.bool (beq_iff_eq.2 fk4)) ?_
            refine J.run 6 K44_11 [(32, .bool (decide ((s.size : Int) > 1))), (0, .string s), (4, .string d)] w1 (by kernel_rfl) ?_
            by_cases fk5 : (s.size : Int) > 1
            · skip
              refine J.head (.bool true) (congrArg Value.bool (decide_eq_true fk5)) ?_
              refine J.run 6 K44_12 [(3, .int .i64 3), (2, .int .i64 0)] w1 (by kernel_rfl) ?_
              refine J.ret Tryd.f44 [.int .i64 0, .int .i64 3] Tryd.func44 ⟨by kernel_rfl, by kernel_rfl, trivial⟩ ?_
              refine hR _ _ ?_
              obtain ⟨e1, e2⟩ := par_three (s := s) (by omega) (by first | exact form_bad1 hd (by omega) | exact form_bad2 hd (i := i.toNat) (by omega) (by omega))
              exact ⟨by rw [tup_two, e1, e2], S1.nil⟩
            · skip
              refine J.head (.bool false) (congrArg Value.bool (decide_eq_false fk5)) ?_
              refine J.run 11 K44_13 [(35, .int .i64 0), (34, .int .i64 (d.size : Int)), (0, .string s), (4, .string d)] w1 (by kernel_rfl) ?_
              have L44_1 : ∀ (mm_ : Nat) (i : Int) (w2 : World), (0 ≤ i) → (i ≤ (d.size : Int)) → (∀ j, j < (i).toNat → 48 ≤ byteAt d j ∧ byteAt d j ≤ 57) → Sep w [] w2 → ((d.size : Int) - i).toNat = mm_ → J Tryd.prog 44 57 R K44_13 [(35, .int .i64 i), (34, .int .i64 (d.size : Int)), (0, .string s), (4, .string d)] w2 := by
                intro mm1
                induction mm1 using Nat.strongRecOn with
                | _ mm1 ih1 =>
                intro i w2 h0 h1 hq S2 hm1
                refine J.run 5 K44_14 [(36, .bool (decide (i < (d.size : Int)))), (35, .int .i64 i), (34, .int .i64 (d.size : Int)), (0, .string s), (4, .string d)] w2 (by kernel_rfl) ?_
                by_cases fk6 : i < (d.size : Int)
                · skip
                  refine J.head (.bool true) (congrArg Value.bool (decide_eq_true fk6)) ?_
                  refine J.run 13 K44_15 [(39, .int .i64 i), (38, .string d), (5, .int .i64 i), (35, .int .i64 i), (34, .int .i64 (d.size : Int)), (0, .string s), (4, .string d)] w2 (by kernel_rfl) ?_
                  have := byteAt_bounds d (i).toNat
                  refine J.ok (OK.byte 40 9 d i (byteAt d (i).toNat) (by kernel_rfl) (by kernel_rfl) (by omega) (by omega) (rfl)) ?_
                  refine J.run 2 K44_16 [(42, .bool (decide ((byteAt d (i).toNat) < 48))), (5, .int .i64 i), (35, .int .i64 i), (34, .int .i64 (d.size : Int)), (0, .string s), (4, .string d)] w2 (by kernel_rfl) ?_
                  by_cases fk7 : (byteAt d (i).toNat) < 48
                  · skip
                    refine J.head (.bool true) (congrArg Value.bool (decide_eq_true fk7)) ?_
                    refine J.run 12 K44_17 [(3, .int .i64 3), (2, .int .i64 0)] w2 (by kernel_rfl) ?_
                    refine J.ret Tryd.f44 [.int .i64 0, .int .i64 3] Tryd.func44 ⟨by kernel_rfl, by kernel_rfl, trivial⟩ ?_
                    refine hR _ _ ?_
                    obtain ⟨e1, e2⟩ := par_three (s := s) (by omega) (by first | exact form_bad1 hd (by omega) | exact form_bad2 hd (i := i.toNat) (by omega) (by omega))
                    exact ⟨by rw [tup_two, e1, e2], S2.nil⟩
                  · skip
                    refine J.head (.bool false) (congrArg Value.bool (decide_eq_false fk7)) ?_
                    refine J.run 2 K44_18 [(44, .int .i64 i), (43, .string d), (42, .bool false), (35, .int .i64 i), (34, .int .i64 (d.size : Int)), (0, .string s), (4, .string d)] w2 (by kernel_rfl) ?_
                    have := byteAt_bounds d (i).toNat
                    refine J.ok (OK.byte 45 9 d i (byteAt d (i).toNat) (by kernel_rfl) (by kernel_rfl) (by omega) (by omega) (rfl)) ?_
                    refine J.run 3 K44_19 [(47, .bool (decide ((byteAt d (i).toNat) > 57))), (35, .int .i64 i), (34, .int .i64 (d.size : Int)), (0, .string s), (4, .string d)] w2 (by kernel_rfl) ?_
                    by_cases fk8 : (byteAt d (i).toNat) > 57
                    · skip
                      refine J.head (.bool true) (congrArg Value.bool (decide_eq_true fk8)) ?_
                      refine J.run 6 K44_20 [(3, .int .i64 3), (2, .int .i64 0)] w2 (by kernel_rfl) ?_
                      refine J.ret Tryd.f44 [.int .i64 0, .int .i64 3] Tryd.func44 ⟨by kernel_rfl, by kernel_rfl, trivial⟩ ?_
                      refine hR _ _ ?_
                      obtain ⟨e1, e2⟩ := par_three (s := s) (by omega) (by first | exact form_bad1 hd (by omega) | exact form_bad2 hd (i := i.toNat) (by omega) (by omega))
                      exact ⟨by rw [tup_two, e1, e2], S2.nil⟩
                    · skip
                      refine J.head (.bool false) (congrArg Value.bool (decide_eq_false fk8)) ?_
                      refine J.run 5 K44_21 [(48, .int .i64 (IntKind.wrap .i64 (i + 1))), (34, .int .i64 (d.size : Int)), (0, .string s), (4, .string d)] w2 (by kernel_rfl) ?_
                      refine J.head (.int .i64 (i + 1)) (congrArg (Value.int .i64) (IntWalk.i64_in _ (by omega))) ?_
                      refine J.run 3 K44_13 [(35, .int .i64 (i + 1)), (34, .int .i64 (d.size : Int)), (0, .string s), (4, .string d)] w2 (by kernel_rfl) ?_
                      refine J.run 0 K44_13 [(35, .int .i64 (i + 1)), (34, .int .i64 (d.size : Int)), (0, .string s), (4, .string d)] w2 (by kernel_rfl) ?_
                      exact ih1 _ (show ((d.size : Int) - (i + 1)).toNat < mm1 from by omega) (i + 1) w2 (by omega) (by omega) (dg_step (q := fun j => 48 ≤ byteAt d j ∧ byteAt d j ≤ 57) h0 hq (by omega)) S2 rfl
                · skip
                  refine J.head (.bool false) (congrArg Value.bool (decide_eq_false fk6)) ?_
                  have hqd : ∀ j, j < d.size → 48 ≤ byteAt d j ∧ byteAt d j ≤ 57 := fun j hj => hq j (by omega)
                  have hf := form_good hd ⟨by omega, by omega⟩ hqd
                  refine J.run 5 K44_22 [(50, .string s)] w2 (by kernel_rfl) ?_
                  rcases Bool.eq_false_or_eq_true (fitL (valL (ls s))) with fk9 | fk9
                  · skip
                    refine J.callF 51 60 #[.string s] hb60 (by kernel_rfl) (atoi_ok s _ (by omega) hf fk9) ?_
                    rintro _ w3 ⟨rfl, T1⟩
                    have S3 : Sep w [] w3 := S2.trans T1
                    clear T1 S2
                    refine J.run 20 K44_23 [(3, .int .i64 0), (2, .int .i64 (valL (ls s)))] w3 (by kernel_rfl) ?_
                    refine J.ret Tryd.f44 [.int .i64 (valL (ls s)), .int .i64 0] Tryd.func44 ⟨by kernel_rfl, by kernel_rfl, trivial⟩ ?_
                    refine hR _ _ ?_
                    obtain ⟨e1, e2⟩ := par_zero (s := s) (by omega) hf fk9
                    exact ⟨by rw [tup_two, e1, e2], S3.nil⟩
                  · skip
                    refine J.callF 51 60 #[.string s] hb60 (by kernel_rfl) (atoi_big s _ (by omega) hf fk9 (tabW_sep hW S2)) ?_
                    rintro _ w4 ⟨en1, rfl, T2⟩
                    have S4 : Sep w [] w4 := S2.trans T2
                    clear T2 S2
                    refine J.run 18 K44_24 [(3, .int .i64 9), (2, .int .i64 0)] w4 (by kernel_rfl) ?_
                    refine J.ret Tryd.f44 [.int .i64 0, .int .i64 9] Tryd.func44 ⟨by kernel_rfl, by kernel_rfl, trivial⟩ ?_
                    refine hR _ _ ?_
                    obtain ⟨e1, e2⟩ := par_nine (s := s) (by omega) hf fk9
                    exact ⟨by rw [tup_two, e1, e2], S4.nil⟩
              exact L44_1 _ 0 w1 (by omega) (by omega) (by intro j hj; simp at hj) S1 rfl
          · skip
            refine J.head (.bool false) (congrArg Value.bool (beq_eq_false_iff_ne.2 fk4)) ?_
            refine J.run 17 K44_25 [(35, .int .i64 0), (34, .int .i64 (d.size : Int)), (0, .string s), (4, .string d)] w1 (by kernel_rfl) ?_
            have L44_2 : ∀ (mm_ : Nat) (i : Int) (w5 : World), (0 ≤ i) → (i ≤ (d.size : Int)) → (∀ j, j < (i).toNat → 48 ≤ byteAt d j ∧ byteAt d j ≤ 57) → Sep w [] w5 → ((d.size : Int) - i).toNat = mm_ → J Tryd.prog 44 57 R K44_25 [(35, .int .i64 i), (34, .int .i64 (d.size : Int)), (0, .string s), (4, .string d)] w5 := by
              intro mm2
              induction mm2 using Nat.strongRecOn with
              | _ mm2 ih2 =>
              intro i w5 h0 h1 hq S5 hm2
              refine J.run 5 K44_26 [(36, .bool (decide (i < (d.size : Int)))), (35, .int .i64 i), (34, .int .i64 (d.size : Int)), (0, .string s), (4, .string d)] w5 (by kernel_rfl) ?_
              by_cases fk10 : i < (d.size : Int)
              · skip
                refine J.head (.bool true) (congrArg Value.bool (decide_eq_true fk10)) ?_
                refine J.run 13 K44_27 [(39, .int .i64 i), (38, .string d), (5, .int .i64 i), (35, .int .i64 i), (34, .int .i64 (d.size : Int)), (0, .string s), (4, .string d)] w5 (by kernel_rfl) ?_
                have := byteAt_bounds d (i).toNat
                refine J.ok (OK.byte 40 9 d i (byteAt d (i).toNat) (by kernel_rfl) (by kernel_rfl) (by omega) (by omega) (rfl)) ?_
                refine J.run 2 K44_28 [(42, .bool (decide ((byteAt d (i).toNat) < 48))), (5, .int .i64 i), (35, .int .i64 i), (34, .int .i64 (d.size : Int)), (0, .string s), (4, .string d)] w5 (by kernel_rfl) ?_
                by_cases fk11 : (byteAt d (i).toNat) < 48
                · skip
                  refine J.head (.bool true) (congrArg Value.bool (decide_eq_true fk11)) ?_
                  refine J.run 12 K44_29 [(3, .int .i64 3), (2, .int .i64 0)] w5 (by kernel_rfl) ?_
                  refine J.ret Tryd.f44 [.int .i64 0, .int .i64 3] Tryd.func44 ⟨by kernel_rfl, by kernel_rfl, trivial⟩ ?_
                  refine hR _ _ ?_
                  obtain ⟨e1, e2⟩ := par_three (s := s) (by omega) (by first | exact form_bad1 hd (by omega) | exact form_bad2 hd (i := i.toNat) (by omega) (by omega))
                  exact ⟨by rw [tup_two, e1, e2], S5.nil⟩
                · skip
                  refine J.head (.bool false) (congrArg Value.bool (decide_eq_false fk11)) ?_
                  refine J.run 2 K44_30 [(44, .int .i64 i), (43, .string d), (42, .bool false), (35, .int .i64 i), (34, .int .i64 (d.size : Int)), (0, .string s), (4, .string d)] w5 (by kernel_rfl) ?_
                  have := byteAt_bounds d (i).toNat
                  refine J.ok (OK.byte 45 9 d i (byteAt d (i).toNat) (by kernel_rfl) (by kernel_rfl) (by omega) (by omega) (rfl)) ?_
                  refine J.run 3 K44_31 [(47, .bool (decide ((byteAt d (i).toNat) > 57))), (35, .int .i64 i), (34, .int .i64 (d.size : Int)), (0, .string s), (4, .string d)] w5 (by kernel_rfl) ?_
                  by_cases fk12 : (byteAt d (i).toNat) > 57
                  · skip
                    refine J.head (.bool true) (congrArg Value.bool (decide_eq_true fk12)) ?_
                    refine J.run 6 K44_32 [(3, .int .i64 3), (2, .int .i64 0)] w5 (by kernel_rfl) ?_
                    refine J.ret Tryd.f44 [.int .i64 0, .int .i64 3] Tryd.func44 ⟨by kernel_rfl, by kernel_rfl, trivial⟩ ?_
                    refine hR _ _ ?_
                    obtain ⟨e1, e2⟩ := par_three (s := s) (by omega) (by first | exact form_bad1 hd (by omega) | exact form_bad2 hd (i := i.toNat) (by omega) (by omega))
                    exact ⟨by rw [tup_two, e1, e2], S5.nil⟩
                  · skip
                    refine J.head (.bool false) (congrArg Value.bool (decide_eq_false fk12)) ?_
                    refine J.run 5 K44_33 [(48, .int .i64 (IntKind.wrap .i64 (i + 1))), (34, .int .i64 (d.size : Int)), (0, .string s), (4, .string d)] w5 (by kernel_rfl) ?_
                    refine J.head (.int .i64 (i + 1)) (congrArg (Value.int .i64) (IntWalk.i64_in _ (by omega))) ?_
                    refine J.run 3 K44_25 [(35, .int .i64 (i + 1)), (34, .int .i64 (d.size : Int)), (0, .string s), (4, .string d)] w5 (by kernel_rfl) ?_
                    refine J.run 0 K44_25 [(35, .int .i64 (i + 1)), (34, .int .i64 (d.size : Int)), (0, .string s), (4, .string d)] w5 (by kernel_rfl) ?_
                    exact ih2 _ (show ((d.size : Int) - (i + 1)).toNat < mm2 from by omega) (i + 1) w5 (by omega) (by omega) (dg_step (q := fun j => 48 ≤ byteAt d j ∧ byteAt d j ≤ 57) h0 hq (by omega)) S5 rfl
              · skip
                refine J.head (.bool false) (congrArg Value.bool (decide_eq_false fk10)) ?_
                have hqd : ∀ j, j < d.size → 48 ≤ byteAt d j ∧ byteAt d j ≤ 57 := fun j hj => hq j (by omega)
                have hf := form_good hd ⟨by omega, by omega⟩ hqd
                refine J.run 5 K44_34 [(50, .string s)] w5 (by kernel_rfl) ?_
                rcases Bool.eq_false_or_eq_true (fitL (valL (ls s))) with fk13 | fk13
                · skip
                  refine J.callF 51 60 #[.string s] hb60 (by kernel_rfl) (atoi_ok s _ (by omega) hf fk13) ?_
                  rintro _ w6 ⟨rfl, T3⟩
                  have S6 : Sep w [] w6 := S5.trans T3
                  clear T3 S5
                  refine J.run 20 K44_35 [(3, .int .i64 0), (2, .int .i64 (valL (ls s)))] w6 (by kernel_rfl) ?_
                  refine J.ret Tryd.f44 [.int .i64 (valL (ls s)), .int .i64 0] Tryd.func44 ⟨by kernel_rfl, by kernel_rfl, trivial⟩ ?_
                  refine hR _ _ ?_
                  obtain ⟨e1, e2⟩ := par_zero (s := s) (by omega) hf fk13
                  exact ⟨by rw [tup_two, e1, e2], S6.nil⟩
                · skip
                  refine J.callF 51 60 #[.string s] hb60 (by kernel_rfl) (atoi_big s _ (by omega) hf fk13 (tabW_sep hW S5)) ?_
                  rintro _ w7 ⟨en2, rfl, T4⟩
                  have S7 : Sep w [] w7 := S5.trans T4
                  clear T4 S5
                  refine J.run 18 K44_36 [(3, .int .i64 9), (2, .int .i64 0)] w7 (by kernel_rfl) ?_
                  refine J.ret Tryd.f44 [.int .i64 0, .int .i64 9] Tryd.func44 ⟨by kernel_rfl, by kernel_rfl, trivial⟩ ?_
                  refine hR _ _ ?_
                  obtain ⟨e1, e2⟩ := par_nine (s := s) (by omega) hf fk13
                  exact ⟨by rw [tup_two, e1, e2], S7.nil⟩
            exact L44_2 _ 0 w1 (by omega) (by omega) (by intro j hj; simp at hj) S1 rfl
      refine J.run 2 K44_5 [(0, .string s), (4, .string s)] w (by kernel_rfl) ?_
      exact X1 s w (by first | exact (dig_minus (by omega) (by omega)).1 | exact (dig_plain (by omega)).1) (by first | omega | (rw [size_extract s (Nat.le_refl _)]; omega)) S0
    · skip
      refine J.head (.bool true) (congrArg Value.bool (bne_iff_ne.2 fk2)) ?_
      refine J.run 1 K44_37 [(15, .string s), (14, .bool true), (4, .string s), (0, .string s)] w (by kernel_rfl) ?_
      have := byteAt_bounds s 0
      refine J.ok (OK.byte 16 9 s (0 : Int) (byteAt s 0) (by kernel_rfl) (by kernel_rfl) (by omega) (by omega) (rfl)) ?_
      refine J.run 3 K44_38 [(18, .bool ((byteAt s 0) == 45)), (4, .string s), (0, .string s)] w (by kernel_rfl) ?_
      have X2 : ∀ (d : ByteArray) (w8 : World), (ls d = digL (ls s)) → ((d).size ≤ s.size) → Sep w [] w8 → J Tryd.prog 44 57 R K44_39 [(0, .string s), (4, .string d)] w8 := by
        intro d w8 hd hds S8
        refine J.run 5 K44_40 [(22, .bool (d.toList == (⟨#[]⟩ : ByteArray).toList)), (0, .string s), (4, .string d)] w8 (by kernel_rfl) ?_
        refine J.head (.bool ((d.size : Int) == 0)) (congrArg Value.bool (beq_nil_eql _)) ?_
        refine J.run 1 K44_41 [(23, .bool ((d.size : Int) == 0)), (0, .string s), (4, .string d)] w8 (by kernel_rfl) ?_
        by_cases fk14 : (d.size : Int) = 0
        · skip
          refine J.head (.bool true) (congrArg Value.bool (beq_iff_eq.2 fk14)) ?_
          refine J.run 16 K44_42 [(3, .int .i64 3), (2, .int .i64 0)] w8 (by kernel_rfl) ?_
          refine J.ret Tryd.f44 [.int .i64 0, .int .i64 3] Tryd.func44 ⟨by kernel_rfl, by kernel_rfl, trivial⟩ ?_
          refine hR _ _ ?_
          obtain ⟨e1, e2⟩ := par_three (s := s) (by omega) (by first | exact form_bad1 hd (by omega) | exact form_bad2 hd (i := i.toNat) (by omega) (by omega))
          exact ⟨by rw [tup_two, e1, e2], S8.nil⟩
        · skip
          refine J.head (.bool false) (congrArg Value.bool (beq_eq_false_iff_ne.2 fk14)) ?_
          refine J.run 1 K44_43 [(24, .string d), (23, .bool false), (0, .string s), (4, .string d)] w8 (by kernel_rfl) ?_
          have := byteAt_bounds d 0
          refine J.ok (OK.byte 25 9 d (0 : Int) (byteAt d 0) (by kernel_rfl) (by kernel_rfl) (by omega) (by omega) (rfl)) ?_
          refine J.run 2 K44_44 [(27, .bool ((byteAt d 0) == 48)), (23, .bool false), (0, .string s), (4, .string d)] w8 (by kernel_rfl) ?_
          by_cases fk15 : (byteAt d 0) = 48
          · skip
            refine J.head (.bool true) (congrArg Value.bool (beq_iff_eq.2 fk15)) ?_
            refine J.run 6 K44_45 [(32, .bool (decide ((s.size : Int) > 1))), (0, .string s), (4, .string d)] w8 (by kernel_rfl) ?_
            by_cases fk16 : (s.size : Int) > 1
            · skip
              refine J.head (.bool true) (congrArg Value.bool (decide_eq_true fk16)) ?_
              refine J.run 6 K44_46 [(3, .int .i64 3), (2, .int .i64 0)] w8 (by kernel_rfl) ?_
              refine J.ret Tryd.f44 [.int .i64 0, .int .i64 3] Tryd.func44 ⟨by kernel_rfl, by kernel_rfl, trivial⟩ ?_
              refine hR _ _ ?_
              obtain ⟨e1, e2⟩ := par_three (s := s) (by omega) (by first | exact form_bad1 hd (by omega) | exact form_bad2 hd (i := i.toNat) (by omega) (by omega))
              exact ⟨by rw [tup_two, e1, e2], S8.nil⟩
            · skip
              refine J.head (.bool false) (congrArg Value.bool (decide_eq_false fk16)) ?_
              refine J.run 11 K44_47 [(35, .int .i64 0), (34, .int .i64 (d.size : Int)), (0, .string s), (4, .string d)] w8 (by kernel_rfl) ?_
              have L44_3 : ∀ (mm_ : Nat) (i : Int) (w9 : World), (0 ≤ i) → (i ≤ (d.size : Int)) → (∀ j, j < (i).toNat → 48 ≤ byteAt d j ∧ byteAt d j ≤ 57) → Sep w [] w9 → ((d.size : Int) - i).toNat = mm_ → J Tryd.prog 44 57 R K44_47 [(35, .int .i64 i), (34, .int .i64 (d.size : Int)), (0, .string s), (4, .string d)] w9 := by
                intro mm3
                induction mm3 using Nat.strongRecOn with
                | _ mm3 ih3 =>
                intro i w9 h0 h1 hq S9 hm3
                refine J.run 5 K44_48 [(36, .bool (decide (i < (d.size : Int)))), (35, .int .i64 i), (34, .int .i64 (d.size : Int)), (0, .string s), (4, .string d)] w9 (by kernel_rfl) ?_
                by_cases fk17 : i < (d.size : Int)
                · skip
                  refine J.head (.bool true) (congrArg Value.bool (decide_eq_true fk17)) ?_
                  refine J.run 13 K44_49 [(39, .int .i64 i), (38, .string d), (5, .int .i64 i), (35, .int .i64 i), (34, .int .i64 (d.size : Int)), (0, .string s), (4, .string d)] w9 (by kernel_rfl) ?_
                  have := byteAt_bounds d (i).toNat
                  refine J.ok (OK.byte 40 9 d i (byteAt d (i).toNat) (by kernel_rfl) (by kernel_rfl) (by omega) (by omega) (rfl)) ?_
                  refine J.run 2 K44_50 [(42, .bool (decide ((byteAt d (i).toNat) < 48))), (5, .int .i64 i), (35, .int .i64 i), (34, .int .i64 (d.size : Int)), (0, .string s), (4, .string d)] w9 (by kernel_rfl) ?_
                  by_cases fk18 : (byteAt d (i).toNat) < 48
                  · skip
                    refine J.head (.bool true) (congrArg Value.bool (decide_eq_true fk18)) ?_
                    refine J.run 12 K44_51 [(3, .int .i64 3), (2, .int .i64 0)] w9 (by kernel_rfl) ?_
                    refine J.ret Tryd.f44 [.int .i64 0, .int .i64 3] Tryd.func44 ⟨by kernel_rfl, by kernel_rfl, trivial⟩ ?_
                    refine hR _ _ ?_
                    obtain ⟨e1, e2⟩ := par_three (s := s) (by omega) (by first | exact form_bad1 hd (by omega) | exact form_bad2 hd (i := i.toNat) (by omega) (by omega))
                    exact ⟨by rw [tup_two, e1, e2], S9.nil⟩
                  · skip
                    refine J.head (.bool false) (congrArg Value.bool (decide_eq_false fk18)) ?_
                    refine J.run 2 K44_52 [(44, .int .i64 i), (43, .string d), (42, .bool false), (35, .int .i64 i), (34, .int .i64 (d.size : Int)), (0, .string s), (4, .string d)] w9 (by kernel_rfl) ?_
                    have := byteAt_bounds d (i).toNat
                    refine J.ok (OK.byte 45 9 d i (byteAt d (i).toNat) (by kernel_rfl) (by kernel_rfl) (by omega) (by omega) (rfl)) ?_
                    refine J.run 3 K44_53 [(47, .bool (decide ((byteAt d (i).toNat) > 57))), (35, .int .i64 i), (34, .int .i64 (d.size : Int)), (0, .string s), (4, .string d)] w9 (by kernel_rfl) ?_
                    by_cases fk19 : (byteAt d (i).toNat) > 57
                    · skip
                      refine J.head (.bool true) (congrArg Value.bool (decide_eq_true fk19)) ?_
                      refine J.run 6 K44_54 [(3, .int .i64 3), (2, .int .i64 0)] w9 (by kernel_rfl) ?_
                      refine J.ret Tryd.f44 [.int .i64 0, .int .i64 3] Tryd.func44 ⟨by kernel_rfl, by kernel_rfl, trivial⟩ ?_
                      refine hR _ _ ?_
                      obtain ⟨e1, e2⟩ := par_three (s := s) (by omega) (by first | exact form_bad1 hd (by omega) | exact form_bad2 hd (i := i.toNat) (by omega) (by omega))
                      exact ⟨by rw [tup_two, e1, e2], S9.nil⟩
                    · skip
                      refine J.head (.bool false) (congrArg Value.bool (decide_eq_false fk19)) ?_
                      refine J.run 5 K44_55 [(48, .int .i64 (IntKind.wrap .i64 (i + 1))), (34, .int .i64 (d.size : Int)), (0, .string s), (4, .string d)] w9 (by kernel_rfl) ?_
                      refine J.head (.int .i64 (i + 1)) (congrArg (Value.int .i64) (IntWalk.i64_in _ (by omega))) ?_
                      refine J.run 3 K44_47 [(35, .int .i64 (i + 1)), (34, .int .i64 (d.size : Int)), (0, .string s), (4, .string d)] w9 (by kernel_rfl) ?_
                      refine J.run 0 K44_47 [(35, .int .i64 (i + 1)), (34, .int .i64 (d.size : Int)), (0, .string s), (4, .string d)] w9 (by kernel_rfl) ?_
                      exact ih3 _ (show ((d.size : Int) - (i + 1)).toNat < mm3 from by omega) (i + 1) w9 (by omega) (by omega) (dg_step (q := fun j => 48 ≤ byteAt d j ∧ byteAt d j ≤ 57) h0 hq (by omega)) S9 rfl
                · skip
                  refine J.head (.bool false) (congrArg Value.bool (decide_eq_false fk17)) ?_
                  have hqd : ∀ j, j < d.size → 48 ≤ byteAt d j ∧ byteAt d j ≤ 57 := fun j hj => hq j (by omega)
                  have hf := form_good hd ⟨by omega, by omega⟩ hqd
                  refine J.run 5 K44_56 [(50, .string s)] w9 (by kernel_rfl) ?_
                  rcases Bool.eq_false_or_eq_true (fitL (valL (ls s))) with fk20 | fk20
                  · skip
                    refine J.callF 51 60 #[.string s] hb60 (by kernel_rfl) (atoi_ok s _ (by omega) hf fk20) ?_
                    rintro _ w10 ⟨rfl, T5⟩
                    have S10 : Sep w [] w10 := S9.trans T5
                    clear T5 S9
                    refine J.run 20 K44_57 [(3, .int .i64 0), (2, .int .i64 (valL (ls s)))] w10 (by kernel_rfl) ?_
                    refine J.ret Tryd.f44 [.int .i64 (valL (ls s)), .int .i64 0] Tryd.func44 ⟨by kernel_rfl, by kernel_rfl, trivial⟩ ?_
                    refine hR _ _ ?_
                    obtain ⟨e1, e2⟩ := par_zero (s := s) (by omega) hf fk20
                    exact ⟨by rw [tup_two, e1, e2], S10.nil⟩
                  · skip
                    refine J.callF 51 60 #[.string s] hb60 (by kernel_rfl) (atoi_big s _ (by omega) hf fk20 (tabW_sep hW S9)) ?_
                    rintro _ w11 ⟨en3, rfl, T6⟩
                    have S11 : Sep w [] w11 := S9.trans T6
                    clear T6 S9
                    refine J.run 18 K44_58 [(3, .int .i64 9), (2, .int .i64 0)] w11 (by kernel_rfl) ?_
                    refine J.ret Tryd.f44 [.int .i64 0, .int .i64 9] Tryd.func44 ⟨by kernel_rfl, by kernel_rfl, trivial⟩ ?_
                    refine hR _ _ ?_
                    obtain ⟨e1, e2⟩ := par_nine (s := s) (by omega) hf fk20
                    exact ⟨by rw [tup_two, e1, e2], S11.nil⟩
              exact L44_3 _ 0 w8 (by omega) (by omega) (by intro j hj; simp at hj) S8 rfl
          · skip
            refine J.head (.bool false) (congrArg Value.bool (beq_eq_false_iff_ne.2 fk15)) ?_
            refine J.run 17 K44_59 [(35, .int .i64 0), (34, .int .i64 (d.size : Int)), (0, .string s), (4, .string d)] w8 (by kernel_rfl) ?_
            have L44_4 : ∀ (mm_ : Nat) (i : Int) (w12 : World), (0 ≤ i) → (i ≤ (d.size : Int)) → (∀ j, j < (i).toNat → 48 ≤ byteAt d j ∧ byteAt d j ≤ 57) → Sep w [] w12 → ((d.size : Int) - i).toNat = mm_ → J Tryd.prog 44 57 R K44_59 [(35, .int .i64 i), (34, .int .i64 (d.size : Int)), (0, .string s), (4, .string d)] w12 := by
              intro mm4
              induction mm4 using Nat.strongRecOn with
              | _ mm4 ih4 =>
              intro i w12 h0 h1 hq S12 hm4
              refine J.run 5 K44_60 [(36, .bool (decide (i < (d.size : Int)))), (35, .int .i64 i), (34, .int .i64 (d.size : Int)), (0, .string s), (4, .string d)] w12 (by kernel_rfl) ?_
              by_cases fk21 : i < (d.size : Int)
              · skip
                refine J.head (.bool true) (congrArg Value.bool (decide_eq_true fk21)) ?_
                refine J.run 13 K44_61 [(39, .int .i64 i), (38, .string d), (5, .int .i64 i), (35, .int .i64 i), (34, .int .i64 (d.size : Int)), (0, .string s), (4, .string d)] w12 (by kernel_rfl) ?_
                have := byteAt_bounds d (i).toNat
                refine J.ok (OK.byte 40 9 d i (byteAt d (i).toNat) (by kernel_rfl) (by kernel_rfl) (by omega) (by omega) (rfl)) ?_
                refine J.run 2 K44_62 [(42, .bool (decide ((byteAt d (i).toNat) < 48))), (5, .int .i64 i), (35, .int .i64 i), (34, .int .i64 (d.size : Int)), (0, .string s), (4, .string d)] w12 (by kernel_rfl) ?_
                by_cases fk22 : (byteAt d (i).toNat) < 48
                · skip
                  refine J.head (.bool true) (congrArg Value.bool (decide_eq_true fk22)) ?_
                  refine J.run 12 K44_63 [(3, .int .i64 3), (2, .int .i64 0)] w12 (by kernel_rfl) ?_
                  refine J.ret Tryd.f44 [.int .i64 0, .int .i64 3] Tryd.func44 ⟨by kernel_rfl, by kernel_rfl, trivial⟩ ?_
                  refine hR _ _ ?_
                  obtain ⟨e1, e2⟩ := par_three (s := s) (by omega) (by first | exact form_bad1 hd (by omega) | exact form_bad2 hd (i := i.toNat) (by omega) (by omega))
                  exact ⟨by rw [tup_two, e1, e2], S12.nil⟩
                · skip
                  refine J.head (.bool false) (congrArg Value.bool (decide_eq_false fk22)) ?_
                  refine J.run 2 K44_64 [(44, .int .i64 i), (43, .string d), (42, .bool false), (35, .int .i64 i), (34, .int .i64 (d.size : Int)), (0, .string s), (4, .string d)] w12 (by kernel_rfl) ?_
                  have := byteAt_bounds d (i).toNat
                  refine J.ok (OK.byte 45 9 d i (byteAt d (i).toNat) (by kernel_rfl) (by kernel_rfl) (by omega) (by omega) (rfl)) ?_
                  refine J.run 3 K44_65 [(47, .bool (decide ((byteAt d (i).toNat) > 57))), (35, .int .i64 i), (34, .int .i64 (d.size : Int)), (0, .string s), (4, .string d)] w12 (by kernel_rfl) ?_
                  by_cases fk23 : (byteAt d (i).toNat) > 57
                  · skip
                    refine J.head (.bool true) (congrArg Value.bool (decide_eq_true fk23)) ?_
                    refine J.run 6 K44_66 [(3, .int .i64 3), (2, .int .i64 0)] w12 (by kernel_rfl) ?_
                    refine J.ret Tryd.f44 [.int .i64 0, .int .i64 3] Tryd.func44 ⟨by kernel_rfl, by kernel_rfl, trivial⟩ ?_
                    refine hR _ _ ?_
                    obtain ⟨e1, e2⟩ := par_three (s := s) (by omega) (by first | exact form_bad1 hd (by omega) | exact form_bad2 hd (i := i.toNat) (by omega) (by omega))
                    exact ⟨by rw [tup_two, e1, e2], S12.nil⟩
                  · skip
                    refine J.head (.bool false) (congrArg Value.bool (decide_eq_false fk23)) ?_
                    refine J.run 5 K44_67 [(48, .int .i64 (IntKind.wrap .i64 (i + 1))), (34, .int .i64 (d.size : Int)), (0, .string s), (4, .string d)] w12 (by kernel_rfl) ?_
                    refine J.head (.int .i64 (i + 1)) (congrArg (Value.int .i64) (IntWalk.i64_in _ (by omega))) ?_
                    refine J.run 3 K44_59 [(35, .int .i64 (i + 1)), (34, .int .i64 (d.size : Int)), (0, .string s), (4, .string d)] w12 (by kernel_rfl) ?_
                    refine J.run 0 K44_59 [(35, .int .i64 (i + 1)), (34, .int .i64 (d.size : Int)), (0, .string s), (4, .string d)] w12 (by kernel_rfl) ?_
                    exact ih4 _ (show ((d.size : Int) - (i + 1)).toNat < mm4 from by omega) (i + 1) w12 (by omega) (by omega) (dg_step (q := fun j => 48 ≤ byteAt d j ∧ byteAt d j ≤ 57) h0 hq (by omega)) S12 rfl
              · skip
                refine J.head (.bool false) (congrArg Value.bool (decide_eq_false fk21)) ?_
                have hqd : ∀ j, j < d.size → 48 ≤ byteAt d j ∧ byteAt d j ≤ 57 := fun j hj => hq j (by omega)
                have hf := form_good hd ⟨by omega, by omega⟩ hqd
                refine J.run 5 K44_68 [(50, .string s)] w12 (by kernel_rfl) ?_
                rcases Bool.eq_false_or_eq_true (fitL (valL (ls s))) with fk24 | fk24
                · skip
                  refine J.callF 51 60 #[.string s] hb60 (by kernel_rfl) (atoi_ok s _ (by omega) hf fk24) ?_
                  rintro _ w13 ⟨rfl, T7⟩
                  have S13 : Sep w [] w13 := S12.trans T7
                  clear T7 S12
                  refine J.run 20 K44_69 [(3, .int .i64 0), (2, .int .i64 (valL (ls s)))] w13 (by kernel_rfl) ?_
                  refine J.ret Tryd.f44 [.int .i64 (valL (ls s)), .int .i64 0] Tryd.func44 ⟨by kernel_rfl, by kernel_rfl, trivial⟩ ?_
                  refine hR _ _ ?_
                  obtain ⟨e1, e2⟩ := par_zero (s := s) (by omega) hf fk24
                  exact ⟨by rw [tup_two, e1, e2], S13.nil⟩
                · skip
                  refine J.callF 51 60 #[.string s] hb60 (by kernel_rfl) (atoi_big s _ (by omega) hf fk24 (tabW_sep hW S12)) ?_
                  rintro _ w14 ⟨en4, rfl, T8⟩
                  have S14 : Sep w [] w14 := S12.trans T8
                  clear T8 S12
                  refine J.run 18 K44_70 [(3, .int .i64 9), (2, .int .i64 0)] w14 (by kernel_rfl) ?_
                  refine J.ret Tryd.f44 [.int .i64 0, .int .i64 9] Tryd.func44 ⟨by kernel_rfl, by kernel_rfl, trivial⟩ ?_
                  refine hR _ _ ?_
                  obtain ⟨e1, e2⟩ := par_nine (s := s) (by omega) hf fk24
                  exact ⟨by rw [tup_two, e1, e2], S14.nil⟩
            exact L44_4 _ 0 w8 (by omega) (by omega) (by intro j hj; simp at hj) S8 rfl
      by_cases fk25 : (byteAt s 0) = 45
      · skip
        refine J.head (.bool true) (congrArg Value.bool (beq_iff_eq.2 fk25)) ?_
        refine J.run 3 K44_71 [(19, .string s), (0, .string s)] w (by kernel_rfl) ?_
        refine J.ok (OK.sliceT 20 9 s (some (.int .i64 1)) none 1 s.size (by kernel_rfl) (by kernel_rfl) (.inr ⟨_, _, rfl, rfl⟩) (.inl ⟨rfl, rfl⟩) (by first | omega | (simp; omega)) (by first | omega | (simp; omega))) ?_
        have := size_extract s (i := 1) (j := s.size) (by first | omega | (simp; omega))
        refine J.run 2 K44_39 [(0, .string s), (4, .string (s.extract 1 s.size))] w (by kernel_rfl) ?_
        exact X2 (s.extract 1 s.size) w (by first | exact (dig_minus (by omega) (by omega)).1 | exact (dig_plain (by omega)).1) (by first | omega | (rw [size_extract s (Nat.le_refl _)]; omega)) S0
      · skip
        refine J.head (.bool false) (congrArg Value.bool (beq_eq_false_iff_ne.2 fk25)) ?_
        refine J.run 2 K44_39 [(0, .string s), (4, .string s)] w (by kernel_rfl) ?_
        exact X2 s w (by first | exact (dig_minus (by omega) (by omega)).1 | exact (dig_plain (by omega)).1) (by first | omega | (rw [size_extract s (Nat.le_refl _)]; omega)) S0

theorem hb51 : HasBody Tryd.prog 51 := fun _ _ => by kernel_rfl
noncomputable def K51_0 : List Item := adv 12 [] (bodyOf Tryd.f51)
noncomputable def K51_1 : List Item := adv 6 [true] K51_0
noncomputable def K51_2 : List Item := adv 8 [false] K51_0
noncomputable def K51_3 : List Item := adv 1 [] K51_2
noncomputable def K51_4 : List Item := adv 14 [] (popK K51_3)
noncomputable def K51_5 : List Item := List.drop 1 K51_4
noncomputable def K51_6 : List Item := adv 7 [] K51_5
noncomputable def K51_7 : List Item := adv 19 [true] K51_6
noncomputable def K51_8 : List Item := adv 1 [] K51_6
noncomputable def K51_9 : List Item := adv 2 [] (popK K51_8)
noncomputable def K51_10 : List Item := adv 2 [] K51_9
noncomputable def K51_11 : List Item := adv 13 [true] K51_10
noncomputable def K51_12 : List Item := adv 7 [] K51_10
noncomputable def K51_13 : List Item := adv 6 [true] K51_12
noncomputable def K51_14 : List Item := adv 9 [false] K51_12
noncomputable def K51_15 : List Item := adv 8 [] K51_14
noncomputable def K51_16 : List Item := adv 8 [true] K51_15
noncomputable def K51_17 : List Item := adv 2 [] (popK K51_16)
noncomputable def K51_18 : List Item := adv 12 [true] K51_17
noncomputable def K51_19 : List Item := adv 2 [] K51_17
noncomputable def K51_20 : List Item := adv 3 [] (popK K51_19)
noncomputable def K51_21 : List Item := adv 6 [true] K51_20
noncomputable def K51_22 : List Item := adv 6 [false] K51_20
noncomputable def K51_23 : List Item := adv 9 [false] K51_15
noncomputable def K51_24 : List Item := adv 6 [true] K51_23
noncomputable def K51_25 : List Item := adv 13 [false] K51_23
noncomputable def K51_26 : List Item := adv 8 [] K51_25
noncomputable def K51_27 : List Item := adv 7 [true] K51_26
noncomputable def K51_28 : List Item := adv 2 [] K51_27
noncomputable def K51_29 : List Item := adv 1 [] (popK K51_28)
noncomputable def K51_30 : List Item := adv 1 [] K51_29
noncomputable def K51_31 : List Item := adv 1 [] K51_30
noncomputable def K51_32 : List Item := adv 6 [] K51_31
noncomputable def K51_33 : List Item := adv 7 [false] K51_26
noncomputable def K51_34 : List Item := adv 12 [false] K51_33
noncomputable def K51_35 : List Item := adv 4 [] K51_34
noncomputable def K51_36 : List Item := adv 5 [true] K51_35
noncomputable def K51_37 : List Item := adv 3 [] K51_36
noncomputable def K51_38 : List Item := adv 7 [false] K51_35
noncomputable def K51_39 : List Item := adv 18 [false] K51_9
noncomputable def K51_40 : List Item := adv 8 [] K51_39
noncomputable def K51_41 : List Item := adv 8 [true] K51_40
noncomputable def K51_42 : List Item := adv 2 [] (popK K51_41)
noncomputable def K51_43 : List Item := adv 12 [true] K51_42
noncomputable def K51_44 : List Item := adv 2 [] K51_42
noncomputable def K51_45 : List Item := adv 3 [] (popK K51_44)
noncomputable def K51_46 : List Item := adv 6 [true] K51_45
noncomputable def K51_47 : List Item := adv 6 [false] K51_45
noncomputable def K51_48 : List Item := adv 9 [false] K51_40
noncomputable def K51_49 : List Item := adv 6 [true] K51_48
noncomputable def K51_50 : List Item := adv 13 [false] K51_48
noncomputable def K51_51 : List Item := adv 8 [] K51_50
noncomputable def K51_52 : List Item := adv 7 [true] K51_51
noncomputable def K51_53 : List Item := adv 2 [] K51_52
noncomputable def K51_54 : List Item := adv 1 [] (popK K51_53)
noncomputable def K51_55 : List Item := adv 1 [] K51_54
noncomputable def K51_56 : List Item := adv 1 [] K51_55
noncomputable def K51_57 : List Item := adv 6 [] K51_56
noncomputable def K51_58 : List Item := adv 7 [false] K51_51
noncomputable def K51_59 : List Item := adv 4 [] K51_58
noncomputable def K51_60 : List Item := adv 5 [true] K51_59
noncomputable def K51_61 : List Item := adv 1 [] K51_60
noncomputable def K51_62 : List Item := adv 3 [] K51_61
noncomputable def K51_63 : List Item := adv 8 [false] K51_59
noncomputable def K51_64 : List Item := adv 11 [false] K51_63
noncomputable def K51_65 : List Item := adv 12 [false] K51_58
noncomputable def K51_66 : List Item := adv 4 [] K51_65
noncomputable def K51_67 : List Item := adv 5 [true] K51_66
noncomputable def K51_68 : List Item := adv 3 [] K51_67
noncomputable def K51_69 : List Item := adv 7 [false] K51_66
noncomputable def K51_70 : List Item := adv 3 [true] K51_4
noncomputable def K51_71 : List Item := adv 2 [] (popK K51_70)
noncomputable def K51_72 : List Item := adv 2 [false] K51_4
noncomputable def K51_73 : List Item := adv 16 [] K51_2
noncomputable def K51_74 : List Item := List.drop 1 K51_73
noncomputable def K51_75 : List Item := adv 7 [] K51_74
noncomputable def K51_76 : List Item := adv 19 [true] K51_75
noncomputable def K51_77 : List Item := adv 1 [] K51_75
noncomputable def K51_78 : List Item := adv 2 [] (popK K51_77)
noncomputable def K51_79 : List Item := adv 2 [] K51_78
noncomputable def K51_80 : List Item := adv 13 [true] K51_79
noncomputable def K51_81 : List Item := adv 7 [] K51_79
noncomputable def K51_82 : List Item := adv 6 [true] K51_81
noncomputable def K51_83 : List Item := adv 9 [false] K51_81
noncomputable def K51_84 : List Item := adv 8 [] K51_83
noncomputable def K51_85 : List Item := adv 8 [true] K51_84
noncomputable def K51_86 : List Item := adv 2 [] (popK K51_85)
noncomputable def K51_87 : List Item := adv 12 [true] K51_86
noncomputable def K51_88 : List Item := adv 2 [] K51_86
noncomputable def K51_89 : List Item := adv 3 [] (popK K51_88)
noncomputable def K51_90 : List Item := adv 6 [true] K51_89
noncomputable def K51_91 : List Item := adv 6 [false] K51_89
noncomputable def K51_92 : List Item := adv 9 [false] K51_84
noncomputable def K51_93 : List Item := adv 6 [true] K51_92
noncomputable def K51_94 : List Item := adv 13 [false] K51_92
noncomputable def K51_95 : List Item := adv 8 [] K51_94
noncomputable def K51_96 : List Item := adv 7 [true] K51_95
noncomputable def K51_97 : List Item := adv 2 [] K51_96
noncomputable def K51_98 : List Item := adv 1 [] (popK K51_97)
noncomputable def K51_99 : List Item := adv 1 [] K51_98
noncomputable def K51_100 : List Item := adv 1 [] K51_99
noncomputable def K51_101 : List Item := adv 6 [] K51_100
noncomputable def K51_102 : List Item := adv 7 [false] K51_95
noncomputable def K51_103 : List Item := adv 12 [false] K51_102
noncomputable def K51_104 : List Item := adv 4 [] K51_103
noncomputable def K51_105 : List Item := adv 5 [true] K51_104
noncomputable def K51_106 : List Item := adv 3 [] K51_105
noncomputable def K51_107 : List Item := adv 7 [false] K51_104
noncomputable def K51_108 : List Item := adv 18 [false] K51_78
noncomputable def K51_109 : List Item := adv 8 [] K51_108
noncomputable def K51_110 : List Item := adv 8 [true] K51_109
noncomputable def K51_111 : List Item := adv 2 [] (popK K51_110)
noncomputable def K51_112 : List Item := adv 12 [true] K51_111
noncomputable def K51_113 : List Item := adv 2 [] K51_111
noncomputable def K51_114 : List Item := adv 3 [] (popK K51_113)
noncomputable def K51_115 : List Item := adv 6 [true] K51_114
noncomputable def K51_116 : List Item := adv 6 [false] K51_114
noncomputable def K51_117 : List Item := adv 9 [false] K51_109
noncomputable def K51_118 : List Item := adv 6 [true] K51_117
noncomputable def K51_119 : List Item := adv 13 [false] K51_117
noncomputable def K51_120 : List Item := adv 8 [] K51_119
noncomputable def K51_121 : List Item := adv 7 [true] K51_120
noncomputable def K51_122 : List Item := adv 2 [] K51_121
noncomputable def K51_123 : List Item := adv 1 [] (popK K51_122)
noncomputable def K51_124 : List Item := adv 1 [] K51_123
noncomputable def K51_125 : List Item := adv 1 [] K51_124
noncomputable def K51_126 : List Item := adv 6 [] K51_125
noncomputable def K51_127 : List Item := adv 7 [false] K51_120
noncomputable def K51_128 : List Item := adv 4 [] K51_127
noncomputable def K51_129 : List Item := adv 5 [true] K51_128
noncomputable def K51_130 : List Item := adv 1 [] K51_129
noncomputable def K51_131 : List Item := adv 3 [] K51_130
noncomputable def K51_132 : List Item := adv 8 [false] K51_128
noncomputable def K51_133 : List Item := adv 11 [false] K51_132
noncomputable def K51_134 : List Item := adv 12 [false] K51_127
noncomputable def K51_135 : List Item := adv 4 [] K51_134
noncomputable def K51_136 : List Item := adv 5 [true] K51_135
noncomputable def K51_137 : List Item := adv 3 [] K51_136
noncomputable def K51_138 : List Item := adv 7 [false] K51_135
set_option maxRecDepth 20000 in
set_option maxHeartbeats 20000000 in
theorem rparse_any (s : ByteArray) (w : World) (hs : s.size ≤ 281474976710656) : Ret Tryd.prog 51 #[.string s] w (fun v w' => v = .tuple #[.int .i64 (parX s), .int .i64 (parE s)] ∧ Sep w [] w') := by
  have S0 := Sep.refl w
  refine Ret.named fun R hR => ?_
  refine Ret.of_J (N := 89) [(0, .string s)] Tryd.func51 rfl rfl (Nat.le_of_ble_eq_true (by kernel_rfl)) (by kernel_rfl) ?_
  refine J.run 12 K51_0 [(11, .bool (decide ((s.size : Int) > 24))), (0, .string s)] w (by kernel_rfl) ?_
  by_cases fk1 : (s.size : Int) > 24
  · skip
    refine J.head (.bool true) (congrArg Value.bool (decide_eq_true fk1)) ?_
    refine J.run 6 K51_1 [(3, .int .i64 5), (2, .int .i64 0)] w (by kernel_rfl) ?_
    refine J.ret Tryd.f51 [.int .i64 0, .int .i64 5] Tryd.func51 ⟨by kernel_rfl, by kernel_rfl, trivial⟩ ?_
    refine hR _ _ ?_
    obtain ⟨e1, e2⟩ := par_five (s := s) (by omega)
    exact ⟨by rw [tup_two, e1, e2], S0.nil⟩
  · skip
    refine J.head (.bool false) (congrArg Value.bool (decide_eq_false fk1)) ?_
    refine J.run 8 K51_2 [(15, .bool (decide ((s.size : Int) > 0))), (0, .string s)] w (by kernel_rfl) ?_
    by_cases fk2 : (s.size : Int) > 0
    · skip
      refine J.head (.bool true) (congrArg Value.bool (decide_eq_true fk2)) ?_
      refine J.run 1 K51_3 [(16, .string s), (15, .bool true), (0, .string s)] w (by kernel_rfl) ?_
      have := byteAt_bounds s 0
      refine J.ok (OK.byte 17 9 s (0 : Int) (byteAt s 0) (by kernel_rfl) (by kernel_rfl) (by omega) (by omega) (rfl)) ?_
      refine J.run 14 K51_4 [(21, .bool ((byteAt s 0) == 45)), (5, .string s), (4, .bool ((byteAt s 0) == 45)), (0, .string s)] w (by kernel_rfl) ?_
      have X1 : ∀ (d : ByteArray) (mn : Bool) (w1 : World), (ls d = digL (ls s)) → ((d).size ≤ s.size) → (mn = false → s.size = (d).size) → (mn = true → s.size = (d).size + 1) → (mn = negL (ls s)) → Sep w [] w1 → J Tryd.prog 51 89 R K51_5 [(5, .string d), (4, .bool mn)] w1 := by
        intro d mn w1 hd hds hmf hms hmn S1
        refine J.run 7 K51_6 [(27, .bool ((d.size : Int) == 0)), (5, .string d), (4, .bool mn)] w1 (by kernel_rfl) ?_
        by_cases fk3 : (d.size : Int) = 0
        · skip
          refine J.head (.bool true) (congrArg Value.bool (beq_iff_eq.2 fk3)) ?_
          refine J.run 19 K51_7 [(3, .int .i64 3), (2, .int .i64 0)] w1 (by kernel_rfl) ?_
          refine J.ret Tryd.f51 [.int .i64 0, .int .i64 3] Tryd.func51 ⟨by kernel_rfl, by kernel_rfl, trivial⟩ ?_
          refine hR _ _ ?_
          obtain ⟨e1, e2⟩ := par_three (s := s) (by omega) (by first | exact form_bad1 hd (by omega) | exact form_bad2 hd (i := i.toNat) (by omega) (by omega))
          exact ⟨by rw [tup_two, e1, e2], S1.nil⟩
        · skip
          refine J.head (.bool false) (congrArg Value.bool (beq_eq_false_iff_ne.2 fk3)) ?_
          refine J.run 1 K51_8 [(28, .string d), (27, .bool false), (5, .string d), (4, .bool mn)] w1 (by kernel_rfl) ?_
          have := byteAt_bounds d 0
          refine J.ok (OK.byte 29 9 d (0 : Int) (byteAt d 0) (by kernel_rfl) (by kernel_rfl) (by omega) (by omega) (rfl)) ?_
          refine J.run 2 K51_9 [(31, .bool ((byteAt d 0) == 48)), (27, .bool false), (5, .string d), (4, .bool mn)] w1 (by kernel_rfl) ?_
          by_cases fk4 : (byteAt d 0) = 48
          · skip
            refine J.head (.bool true) (congrArg Value.bool (beq_iff_eq.2 fk4)) ?_
            refine J.run 2 K51_10 [(33, .bool mn), (31, .bool true), (27, .bool false), (5, .string d), (4, .bool mn)] w1 (by kernel_rfl) ?_
            rcases Bool.eq_false_or_eq_true mn with fk5 | fk5
            · skip
              refine J.head (.bool true) (congrArg Value.bool fk5) ?_
              have hms2 := hms fk5
              refine J.run 13 K51_11 [(3, .int .i64 3), (2, .int .i64 0)] w1 (by kernel_rfl) ?_
              refine J.ret Tryd.f51 [.int .i64 0, .int .i64 3] Tryd.func51 ⟨by kernel_rfl, by kernel_rfl, trivial⟩ ?_
              refine hR _ _ ?_
              obtain ⟨e1, e2⟩ := par_three (s := s) (by omega) (by first | exact form_bad1 hd (by omega) | exact form_bad2 hd (i := i.toNat) (by omega) (by omega))
              exact ⟨by rw [tup_two, e1, e2], S1.nil⟩
            · skip
              refine J.head (.bool false) (congrArg Value.bool fk5) ?_
              have hmf2 := hmf fk5
              refine J.run 7 K51_12 [(39, .bool (decide ((d.size : Int) > 1))), (5, .string d), (4, .bool mn)] w1 (by kernel_rfl) ?_
              by_cases fk6 : (d.size : Int) > 1
              · skip
                refine J.head (.bool true) (congrArg Value.bool (decide_eq_true fk6)) ?_
                refine J.run 6 K51_13 [(3, .int .i64 3), (2, .int .i64 0)] w1 (by kernel_rfl) ?_
                refine J.ret Tryd.f51 [.int .i64 0, .int .i64 3] Tryd.func51 ⟨by kernel_rfl, by kernel_rfl, trivial⟩ ?_
                refine hR _ _ ?_
                obtain ⟨e1, e2⟩ := par_three (s := s) (by omega) (by first | exact form_bad1 hd (by omega) | exact form_bad2 hd (i := i.toNat) (by omega) (by omega))
                exact ⟨by rw [tup_two, e1, e2], S1.nil⟩
              · skip
                refine J.head (.bool false) (congrArg Value.bool (decide_eq_false fk6)) ?_
                refine J.run 9 K51_14 [(6, .int .i64 0), (5, .string d), (4, .bool mn)] w1 (by kernel_rfl) ?_
                have L51_1 : ∀ (mm_ : Nat) (i : Int) (w2 : World), (0 ≤ i) → (i ≤ (d.size : Int)) → (∀ j, j < (i).toNat → 48 ≤ byteAt d j ∧ byteAt d j ≤ 57) → Sep w [] w2 → ((d.size : Int) - i).toNat = mm_ → J Tryd.prog 51 89 R K51_14 [(6, .int .i64 i), (5, .string d), (4, .bool mn)] w2 := by
                  intro mm1
                  induction mm1 using Nat.strongRecOn with
                  | _ mm1 ih1 =>
                  intro i w2 h0 h1 hq S2 hm1
                  refine J.run 8 K51_15 [(43, .bool (decide (i < (d.size : Int)))), (6, .int .i64 i), (5, .string d), (4, .bool mn)] w2 (by kernel_rfl) ?_
                  by_cases fk7 : i < (d.size : Int)
                  · skip
                    refine J.head (.bool true) (congrArg Value.bool (decide_eq_true fk7)) ?_
                    refine J.run 8 K51_16 [(47, .int .i64 i), (46, .string d), (6, .int .i64 i), (5, .string d), (4, .bool mn)] w2 (by kernel_rfl) ?_
                    have := byteAt_bounds d (i).toNat
                    refine J.ok (OK.byte 48 9 d i (byteAt d (i).toNat) (by kernel_rfl) (by kernel_rfl) (by omega) (by omega) (rfl)) ?_
                    refine J.run 2 K51_17 [(50, .bool (decide ((byteAt d (i).toNat) < 48))), (6, .int .i64 i), (5, .string d), (4, .bool mn)] w2 (by kernel_rfl) ?_
                    by_cases fk8 : (byteAt d (i).toNat) < 48
                    · skip
                      refine J.head (.bool true) (congrArg Value.bool (decide_eq_true fk8)) ?_
                      refine J.run 12 K51_18 [(3, .int .i64 3), (2, .int .i64 0)] w2 (by kernel_rfl) ?_
                      refine J.ret Tryd.f51 [.int .i64 0, .int .i64 3] Tryd.func51 ⟨by kernel_rfl, by kernel_rfl, trivial⟩ ?_
                      refine hR _ _ ?_
                      obtain ⟨e1, e2⟩ := par_three (s := s) (by omega) (by first | exact form_bad1 hd (by omega) | exact form_bad2 hd (i := i.toNat) (by omega) (by omega))
                      exact ⟨by rw [tup_two, e1, e2], S2.nil⟩
                    · skip
                      refine J.head (.bool false) (congrArg Value.bool (decide_eq_false fk8)) ?_
                      refine J.run 2 K51_19 [(52, .int .i64 i), (51, .string d), (50, .bool false), (6, .int .i64 i), (5, .string d), (4, .bool mn)] w2 (by kernel_rfl) ?_
                      have := byteAt_bounds d (i).toNat
                      refine J.ok (OK.byte 53 9 d i (byteAt d (i).toNat) (by kernel_rfl) (by kernel_rfl) (by omega) (by omega) (rfl)) ?_
                      refine J.run 3 K51_20 [(55, .bool (decide ((byteAt d (i).toNat) > 57))), (6, .int .i64 i), (5, .string d), (4, .bool mn)] w2 (by kernel_rfl) ?_
                      by_cases fk9 : (byteAt d (i).toNat) > 57
                      · skip
                        refine J.head (.bool true) (congrArg Value.bool (decide_eq_true fk9)) ?_
                        refine J.run 6 K51_21 [(3, .int .i64 3), (2, .int .i64 0)] w2 (by kernel_rfl) ?_
                        refine J.ret Tryd.f51 [.int .i64 0, .int .i64 3] Tryd.func51 ⟨by kernel_rfl, by kernel_rfl, trivial⟩ ?_
                        refine hR _ _ ?_
                        obtain ⟨e1, e2⟩ := par_three (s := s) (by omega) (by first | exact form_bad1 hd (by omega) | exact form_bad2 hd (i := i.toNat) (by omega) (by omega))
                        exact ⟨by rw [tup_two, e1, e2], S2.nil⟩
                      · skip
                        refine J.head (.bool false) (congrArg Value.bool (decide_eq_false fk9)) ?_
                        refine J.run 6 K51_22 [(45, .int .i64 (IntKind.wrap .i64 (i + 1))), (5, .string d), (4, .bool mn)] w2 (by kernel_rfl) ?_
                        refine J.head (.int .i64 (i + 1)) (congrArg (Value.int .i64) (IntWalk.i64_in _ (by omega))) ?_
                        refine J.run 3 K51_14 [(6, .int .i64 (i + 1)), (5, .string d), (4, .bool mn)] w2 (by kernel_rfl) ?_
                        refine J.run 0 K51_14 [(6, .int .i64 (i + 1)), (5, .string d), (4, .bool mn)] w2 (by kernel_rfl) ?_
                        exact ih1 _ (show ((d.size : Int) - (i + 1)).toNat < mm1 from by omega) (i + 1) w2 (by omega) (by omega) (dg_step (q := fun j => 48 ≤ byteAt d j ∧ byteAt d j ≤ 57) h0 hq (by omega)) S2 rfl
                  · skip
                    refine J.head (.bool false) (congrArg Value.bool (decide_eq_false fk7)) ?_
                    have hqd : ∀ j, j < d.size → 48 ≤ byteAt d j ∧ byteAt d j ≤ 57 := fun j hj => hq j (by omega)
                    have hf := form_good hd ⟨by omega, by omega⟩ hqd
                    refine J.run 9 K51_23 [(58, .bool (decide ((d.size : Int) > 19))), (5, .string d), (4, .bool mn)] w2 (by kernel_rfl) ?_
                    by_cases fk10 : (d.size : Int) > 19
                    · skip
                      refine J.head (.bool true) (congrArg Value.bool (decide_eq_true fk10)) ?_
                      refine J.run 6 K51_24 [(3, .int .i64 9), (2, .int .i64 0)] w2 (by kernel_rfl) ?_
                      refine J.ret Tryd.f51 [.int .i64 0, .int .i64 9] Tryd.func51 ⟨by kernel_rfl, by kernel_rfl, trivial⟩ ?_
                      refine hR _ _ ?_
                      obtain ⟨e1, e2⟩ := par_nine (s := s) (by omega) hf (by first | exact fit_long hd hf (by omega) | (rw [(fit_neg (m := m) (hmn.symm.trans fk5) (hmd (by omega))).1]; exact decide_eq_false (by omega)) | (rw [(fit_pos (m := m) (hmn.symm.trans fk5) (hmd (by omega))).1]; exact decide_eq_false (by omega)))
                      exact ⟨by rw [tup_two, e1, e2], S2.nil⟩
                    · skip
                      refine J.head (.bool false) (congrArg Value.bool (decide_eq_false fk10)) ?_
                      refine J.run 13 K51_25 [(8, .int .i64 0), (7, .int .u64 0), (5, .string d), (4, .bool mn)] w2 (by kernel_rfl) ?_
                      have L51_2 : ∀ (mm_ : Nat) (m : Int) (k : Int) (w3 : World), (0 ≤ k) → (k ≤ (d.size : Int)) → (m = (decV ((ls d).take (k).toNat) : Int)) → Sep w [] w3 → ((d.size : Int) - k).toNat = mm_ → J Tryd.prog 51 89 R K51_25 [(8, .int .i64 k), (7, .int .u64 m), (5, .string d), (4, .bool mn)] w3 := by
                        intro mm2
                        induction mm2 using Nat.strongRecOn with
                        | _ mm2 ih2 =>
                        intro m k w3 k0 k1 hm S3 hm2
                        have hb0 := take_bound (d := d) (n := k.toNat) hqd (by omega)
                        have hmd : (d.size : Int) ≤ k → m = (decV (digL (ls s)) : Int) := fun h_ => hm.trans (take_all hd h_)
                        refine J.run 8 K51_26 [(62, .bool (decide (k < (d.size : Int)))), (8, .int .i64 k), (7, .int .u64 m), (5, .string d), (4, .bool mn)] w3 (by kernel_rfl) ?_
                        by_cases fk11 : k < (d.size : Int)
                        · skip
                          refine J.head (.bool true) (congrArg Value.bool (decide_eq_true fk11)) ?_
                          have hb1 := decV_take (d := d) k0 (by omega)
                          have hb2 := take_bound (d := d) (n := (k + 1).toNat) hqd (by omega)
                          have hb3 := hqd k.toNat (by omega)
                          have hb4 := byteAt_ls d k.toNat
                          refine J.run 7 K51_27 [(66, .int .u64 (IntKind.wrap .u64 (10 * m))), (8, .int .i64 k), (5, .string d), (4, .bool mn)] w3 (by kernel_rfl) ?_
                          refine J.head (.int .u64 (10 * m)) (congrArg (Value.int .u64) (IntWalk.u64_in _ (by omega))) ?_
                          refine J.run 2 K51_28 [(68, .int .i64 k), (67, .string d), (66, .int .u64 (10 * m)), (8, .int .i64 k), (5, .string d), (4, .bool mn)] w3 (by kernel_rfl) ?_
                          have := byteAt_bounds d (k).toNat
                          refine J.ok (OK.byte 69 9 d k (byteAt d (k).toNat) (by kernel_rfl) (by kernel_rfl) (by omega) (by omega) (rfl)) ?_
                          refine J.run 1 K51_29 [(70, .int .u8 (IntKind.wrap .u8 ((byteAt d (k).toNat) - 48))), (66, .int .u64 (10 * m)), (8, .int .i64 k), (5, .string d), (4, .bool mn)] w3 (by kernel_rfl) ?_
                          refine J.head (.int .u8 ((byteAt d (k).toNat) - 48)) (congrArg (Value.int .u8) (IntWalk.u8_in _ (by omega))) ?_
                          refine J.run 1 K51_30 [(71, .int .u64 (IntKind.wrap .u64 ((byteAt d (k).toNat) - 48))), (66, .int .u64 (10 * m)), (8, .int .i64 k), (5, .string d), (4, .bool mn)] w3 (by kernel_rfl) ?_
                          refine J.head (.int .u64 ((byteAt d (k).toNat) - 48)) (congrArg (Value.int .u64) (IntWalk.u64_in _ (by omega))) ?_
                          refine J.run 1 K51_31 [(72, .int .u64 (IntKind.wrap .u64 ((10 * m) + ((byteAt d (k).toNat) - 48)))), (8, .int .i64 k), (5, .string d), (4, .bool mn)] w3 (by kernel_rfl) ?_
                          refine J.head (.int .u64 ((10 * m) + ((byteAt d (k).toNat) - 48))) (congrArg (Value.int .u64) (IntWalk.u64_in _ (by omega))) ?_
                          refine J.run 6 K51_32 [(64, .int .i64 (IntKind.wrap .i64 (k + 1))), (7, .int .u64 ((10 * m) + ((byteAt d (k).toNat) - 48))), (5, .string d), (4, .bool mn)] w3 (by kernel_rfl) ?_
                          refine J.head (.int .i64 (k + 1)) (congrArg (Value.int .i64) (IntWalk.i64_in _ (by omega))) ?_
                          refine J.run 3 K51_25 [(8, .int .i64 (k + 1)), (7, .int .u64 ((10 * m) + ((byteAt d (k).toNat) - 48))), (5, .string d), (4, .bool mn)] w3 (by kernel_rfl) ?_
                          refine J.run 0 K51_25 [(8, .int .i64 (k + 1)), (7, .int .u64 ((10 * m) + ((byteAt d (k).toNat) - 48))), (5, .string d), (4, .bool mn)] w3 (by kernel_rfl) ?_
                          exact ih2 _ (show ((d.size : Int) - (k + 1)).toNat < mm2 from by omega) ((10 * m) + ((byteAt d (k).toNat) - 48)) (k + 1) w3 (by omega) (by omega) (by omega) S3 rfl
                        · skip
                          refine J.head (.bool false) (congrArg Value.bool (decide_eq_false fk11)) ?_
                          refine J.run 7 K51_33 [(74, .bool mn), (7, .int .u64 m), (4, .bool mn)] w3 (by kernel_rfl) ?_
                          refine J.head (.bool false) (congrArg Value.bool fk5) ?_
                          refine J.run 12 K51_34 [(83, .bool (!mn)), (7, .int .u64 m)] w3 (by kernel_rfl) ?_
                          refine J.head (.bool true) (congrArg Value.bool (by rw [fk5]; rfl)) ?_
                          refine J.run 4 K51_35 [(86, .bool (decide (m < 9223372036854775808))), (7, .int .u64 m)] w3 (by kernel_rfl) ?_
                          by_cases fk14 : m < 9223372036854775808
                          · skip
                            refine J.head (.bool true) (congrArg Value.bool (decide_eq_true fk14)) ?_
                            refine J.run 5 K51_36 [(88, .int .i64 (IntKind.wrap .i64 m))] w3 (by kernel_rfl) ?_
                            refine J.head (.int .i64 m) (congrArg (Value.int .i64) (IntWalk.i64_in _ (by omega))) ?_
                            refine J.run 3 K51_37 [(3, .int .i64 0), (2, .int .i64 m)] w3 (by kernel_rfl) ?_
                            refine J.ret Tryd.f51 [.int .i64 m, .int .i64 0] Tryd.func51 ⟨by kernel_rfl, by kernel_rfl, trivial⟩ ?_
                            refine hR _ _ ?_
                            obtain ⟨e1, e2⟩ := par_zero (s := s) (by omega) hf (by first | (rw [(fit_neg (m := m) (hmn.symm.trans fk5) (hmd (by omega))).1]; exact decide_eq_true (by omega)) | (rw [(fit_pos (m := m) (hmn.symm.trans fk5) (hmd (by omega))).1]; exact decide_eq_true (by omega)))
                            exact ⟨by rw [tup_two, e1, e2]; first | rw [(fit_neg (m := m) (hmn.symm.trans fk5) (hmd (by omega))).2] | rw [(fit_pos (m := m) (hmn.symm.trans fk5) (hmd (by omega))).2], S3.nil⟩
                          · skip
                            refine J.head (.bool false) (congrArg Value.bool (decide_eq_false fk14)) ?_
                            refine J.run 7 K51_38 [(3, .int .i64 9), (2, .int .i64 0)] w3 (by kernel_rfl) ?_
                            refine J.ret Tryd.f51 [.int .i64 0, .int .i64 9] Tryd.func51 ⟨by kernel_rfl, by kernel_rfl, trivial⟩ ?_
                            refine hR _ _ ?_
                            obtain ⟨e1, e2⟩ := par_nine (s := s) (by omega) hf (by first | exact fit_long hd hf (by omega) | (rw [(fit_neg (m := m) (hmn.symm.trans fk5) (hmd (by omega))).1]; exact decide_eq_false (by omega)) | (rw [(fit_pos (m := m) (hmn.symm.trans fk5) (hmd (by omega))).1]; exact decide_eq_false (by omega)))
                            exact ⟨by rw [tup_two, e1, e2], S3.nil⟩
                      exact L51_2 _ 0 0 w2 (by omega) (by omega) (rfl) S2 rfl
                exact L51_1 _ 0 w1 (by omega) (by omega) (by intro j hj; simp at hj) S1 rfl
          · skip
            refine J.head (.bool false) (congrArg Value.bool (beq_eq_false_iff_ne.2 fk4)) ?_
            refine J.run 18 K51_39 [(6, .int .i64 0), (5, .string d), (4, .bool mn)] w1 (by kernel_rfl) ?_
            have L51_3 : ∀ (mm_ : Nat) (i : Int) (w4 : World), (0 ≤ i) → (i ≤ (d.size : Int)) → (∀ j, j < (i).toNat → 48 ≤ byteAt d j ∧ byteAt d j ≤ 57) → Sep w [] w4 → ((d.size : Int) - i).toNat = mm_ → J Tryd.prog 51 89 R K51_39 [(6, .int .i64 i), (5, .string d), (4, .bool mn)] w4 := by
              intro mm3
              induction mm3 using Nat.strongRecOn with
              | _ mm3 ih3 =>
              intro i w4 h0 h1 hq S4 hm3
              refine J.run 8 K51_40 [(43, .bool (decide (i < (d.size : Int)))), (6, .int .i64 i), (5, .string d), (4, .bool mn)] w4 (by kernel_rfl) ?_
              by_cases fk15 : i < (d.size : Int)
              · skip
                refine J.head (.bool true) (congrArg Value.bool (decide_eq_true fk15)) ?_
                refine J.run 8 K51_41 [(47, .int .i64 i), (46, .string d), (6, .int .i64 i), (5, .string d), (4, .bool mn)] w4 (by kernel_rfl) ?_
                have := byteAt_bounds d (i).toNat
                refine J.ok (OK.byte 48 9 d i (byteAt d (i).toNat) (by kernel_rfl) (by kernel_rfl) (by omega) (by omega) (rfl)) ?_
                refine J.run 2 K51_42 [(50, .bool (decide ((byteAt d (i).toNat) < 48))), (6, .int .i64 i), (5, .string d), (4, .bool mn)] w4 (by kernel_rfl) ?_
                by_cases fk16 : (byteAt d (i).toNat) < 48
                · skip
                  refine J.head (.bool true) (congrArg Value.bool (decide_eq_true fk16)) ?_
                  refine J.run 12 K51_43 [(3, .int .i64 3), (2, .int .i64 0)] w4 (by kernel_rfl) ?_
                  refine J.ret Tryd.f51 [.int .i64 0, .int .i64 3] Tryd.func51 ⟨by kernel_rfl, by kernel_rfl, trivial⟩ ?_
                  refine hR _ _ ?_
                  obtain ⟨e1, e2⟩ := par_three (s := s) (by omega) (by first | exact form_bad1 hd (by omega) | exact form_bad2 hd (i := i.toNat) (by omega) (by omega))
                  exact ⟨by rw [tup_two, e1, e2], S4.nil⟩
                · skip
                  refine J.head (.bool false) (congrArg Value.bool (decide_eq_false fk16)) ?_
                  refine J.run 2 K51_44 [(52, .int .i64 i), (51, .string d), (50, .bool false), (6, .int .i64 i), (5, .string d), (4, .bool mn)] w4 (by kernel_rfl) ?_
                  have := byteAt_bounds d (i).toNat
                  refine J.ok (OK.byte 53 9 d i (byteAt d (i).toNat) (by kernel_rfl) (by kernel_rfl) (by omega) (by omega) (rfl)) ?_
                  refine J.run 3 K51_45 [(55, .bool (decide ((byteAt d (i).toNat) > 57))), (6, .int .i64 i), (5, .string d), (4, .bool mn)] w4 (by kernel_rfl) ?_
                  by_cases fk17 : (byteAt d (i).toNat) > 57
                  · skip
                    refine J.head (.bool true) (congrArg Value.bool (decide_eq_true fk17)) ?_
                    refine J.run 6 K51_46 [(3, .int .i64 3), (2, .int .i64 0)] w4 (by kernel_rfl) ?_
                    refine J.ret Tryd.f51 [.int .i64 0, .int .i64 3] Tryd.func51 ⟨by kernel_rfl, by kernel_rfl, trivial⟩ ?_
                    refine hR _ _ ?_
                    obtain ⟨e1, e2⟩ := par_three (s := s) (by omega) (by first | exact form_bad1 hd (by omega) | exact form_bad2 hd (i := i.toNat) (by omega) (by omega))
                    exact ⟨by rw [tup_two, e1, e2], S4.nil⟩
                  · skip
                    refine J.head (.bool false) (congrArg Value.bool (decide_eq_false fk17)) ?_
                    refine J.run 6 K51_47 [(45, .int .i64 (IntKind.wrap .i64 (i + 1))), (5, .string d), (4, .bool mn)] w4 (by kernel_rfl) ?_
                    refine J.head (.int .i64 (i + 1)) (congrArg (Value.int .i64) (IntWalk.i64_in _ (by omega))) ?_
                    refine J.run 3 K51_39 [(6, .int .i64 (i + 1)), (5, .string d), (4, .bool mn)] w4 (by kernel_rfl) ?_
                    refine J.run 0 K51_39 [(6, .int .i64 (i + 1)), (5, .string d), (4, .bool mn)] w4 (by kernel_rfl) ?_
                    exact ih3 _ (show ((d.size : Int) - (i + 1)).toNat < mm3 from by omega) (i + 1) w4 (by omega) (by omega) (dg_step (q := fun j => 48 ≤ byteAt d j ∧ byteAt d j ≤ 57) h0 hq (by omega)) S4 rfl
              · skip
                refine J.head (.bool false) (congrArg Value.bool (decide_eq_false fk15)) ?_
                have hqd : ∀ j, j < d.size → 48 ≤ byteAt d j ∧ byteAt d j ≤ 57 := fun j hj => hq j (by omega)
                have hf := form_good hd ⟨by omega, by omega⟩ hqd
                refine J.run 9 K51_48 [(58, .bool (decide ((d.size : Int) > 19))), (5, .string d), (4, .bool mn)] w4 (by kernel_rfl) ?_
                by_cases fk18 : (d.size : Int) > 19
                · skip
                  refine J.head (.bool true) (congrArg Value.bool (decide_eq_true fk18)) ?_
                  refine J.run 6 K51_49 [(3, .int .i64 9), (2, .int .i64 0)] w4 (by kernel_rfl) ?_
                  refine J.ret Tryd.f51 [.int .i64 0, .int .i64 9] Tryd.func51 ⟨by kernel_rfl, by kernel_rfl, trivial⟩ ?_
                  refine hR _ _ ?_
                  obtain ⟨e1, e2⟩ := par_nine (s := s) (by omega) hf (by first | exact fit_long hd hf (by omega) | (rw [(fit_neg (m := m) (hmn.symm.trans rfl) (hmd (by omega))).1]; exact decide_eq_false (by omega)) | (rw [(fit_pos (m := m) (hmn.symm.trans rfl) (hmd (by omega))).1]; exact decide_eq_false (by omega)))
                  exact ⟨by rw [tup_two, e1, e2], S4.nil⟩
                · skip
                  refine J.head (.bool false) (congrArg Value.bool (decide_eq_false fk18)) ?_
                  refine J.run 13 K51_50 [(8, .int .i64 0), (7, .int .u64 0), (5, .string d), (4, .bool mn)] w4 (by kernel_rfl) ?_
                  have L51_4 : ∀ (mm_ : Nat) (m : Int) (k : Int) (w5 : World), (0 ≤ k) → (k ≤ (d.size : Int)) → (m = (decV ((ls d).take (k).toNat) : Int)) → Sep w [] w5 → ((d.size : Int) - k).toNat = mm_ → J Tryd.prog 51 89 R K51_50 [(8, .int .i64 k), (7, .int .u64 m), (5, .string d), (4, .bool mn)] w5 := by
                    intro mm4
                    induction mm4 using Nat.strongRecOn with
                    | _ mm4 ih4 =>
                    intro m k w5 k0 k1 hm S5 hm4
                    have hb0 := take_bound (d := d) (n := k.toNat) hqd (by omega)
                    have hmd : (d.size : Int) ≤ k → m = (decV (digL (ls s)) : Int) := fun h_ => hm.trans (take_all hd h_)
                    refine J.run 8 K51_51 [(62, .bool (decide (k < (d.size : Int)))), (8, .int .i64 k), (7, .int .u64 m), (5, .string d), (4, .bool mn)] w5 (by kernel_rfl) ?_
                    by_cases fk19 : k < (d.size : Int)
                    · skip
                      refine J.head (.bool true) (congrArg Value.bool (decide_eq_true fk19)) ?_
                      have hb1 := decV_take (d := d) k0 (by omega)
                      have hb2 := take_bound (d := d) (n := (k + 1).toNat) hqd (by omega)
                      have hb3 := hqd k.toNat (by omega)
                      have hb4 := byteAt_ls d k.toNat
                      refine J.run 7 K51_52 [(66, .int .u64 (IntKind.wrap .u64 (10 * m))), (8, .int .i64 k), (5, .string d), (4, .bool mn)] w5 (by kernel_rfl) ?_
                      refine J.head (.int .u64 (10 * m)) (congrArg (Value.int .u64) (IntWalk.u64_in _ (by omega))) ?_
                      refine J.run 2 K51_53 [(68, .int .i64 k), (67, .string d), (66, .int .u64 (10 * m)), (8, .int .i64 k), (5, .string d), (4, .bool mn)] w5 (by kernel_rfl) ?_
                      have := byteAt_bounds d (k).toNat
                      refine J.ok (OK.byte 69 9 d k (byteAt d (k).toNat) (by kernel_rfl) (by kernel_rfl) (by omega) (by omega) (rfl)) ?_
                      refine J.run 1 K51_54 [(70, .int .u8 (IntKind.wrap .u8 ((byteAt d (k).toNat) - 48))), (66, .int .u64 (10 * m)), (8, .int .i64 k), (5, .string d), (4, .bool mn)] w5 (by kernel_rfl) ?_
                      refine J.head (.int .u8 ((byteAt d (k).toNat) - 48)) (congrArg (Value.int .u8) (IntWalk.u8_in _ (by omega))) ?_
                      refine J.run 1 K51_55 [(71, .int .u64 (IntKind.wrap .u64 ((byteAt d (k).toNat) - 48))), (66, .int .u64 (10 * m)), (8, .int .i64 k), (5, .string d), (4, .bool mn)] w5 (by kernel_rfl) ?_
                      refine J.head (.int .u64 ((byteAt d (k).toNat) - 48)) (congrArg (Value.int .u64) (IntWalk.u64_in _ (by omega))) ?_
                      refine J.run 1 K51_56 [(72, .int .u64 (IntKind.wrap .u64 ((10 * m) + ((byteAt d (k).toNat) - 48)))), (8, .int .i64 k), (5, .string d), (4, .bool mn)] w5 (by kernel_rfl) ?_
                      refine J.head (.int .u64 ((10 * m) + ((byteAt d (k).toNat) - 48))) (congrArg (Value.int .u64) (IntWalk.u64_in _ (by omega))) ?_
                      refine J.run 6 K51_57 [(64, .int .i64 (IntKind.wrap .i64 (k + 1))), (7, .int .u64 ((10 * m) + ((byteAt d (k).toNat) - 48))), (5, .string d), (4, .bool mn)] w5 (by kernel_rfl) ?_
                      refine J.head (.int .i64 (k + 1)) (congrArg (Value.int .i64) (IntWalk.i64_in _ (by omega))) ?_
                      refine J.run 3 K51_50 [(8, .int .i64 (k + 1)), (7, .int .u64 ((10 * m) + ((byteAt d (k).toNat) - 48))), (5, .string d), (4, .bool mn)] w5 (by kernel_rfl) ?_
                      refine J.run 0 K51_50 [(8, .int .i64 (k + 1)), (7, .int .u64 ((10 * m) + ((byteAt d (k).toNat) - 48))), (5, .string d), (4, .bool mn)] w5 (by kernel_rfl) ?_
                      exact ih4 _ (show ((d.size : Int) - (k + 1)).toNat < mm4 from by omega) ((10 * m) + ((byteAt d (k).toNat) - 48)) (k + 1) w5 (by omega) (by omega) (by omega) S5 rfl
                    · skip
                      refine J.head (.bool false) (congrArg Value.bool (decide_eq_false fk19)) ?_
                      refine J.run 7 K51_58 [(74, .bool mn), (7, .int .u64 m), (4, .bool mn)] w5 (by kernel_rfl) ?_
                      rcases Bool.eq_false_or_eq_true mn with fk20 | fk20
                      · skip
                        refine J.head (.bool true) (congrArg Value.bool fk20) ?_
                        have hms2 := hms fk20
                        refine J.run 4 K51_59 [(77, .bool (decide (m ≤ 9223372036854775808))), (7, .int .u64 m), (4, .bool mn)] w5 (by kernel_rfl) ?_
                        by_cases fk21 : m ≤ 9223372036854775808
                        · skip
                          refine J.head (.bool true) (congrArg Value.bool (decide_eq_true fk21)) ?_
                          have hm0 := form_neg hf (hmn.symm.trans fk20)
                          have hm1 := hmd (by omega)
                          refine J.run 5 K51_60 [(79, .int .u64 (IntKind.wrap .u64 (0 - m)))] w5 (by kernel_rfl) ?_
                          refine J.head (.int .u64 (18446744073709551616 - m)) (congrArg (Value.int .u64) (by rw [wrapU]; omega)) ?_
                          refine J.run 1 K51_61 [(80, .int .i64 (IntKind.wrap .i64 (18446744073709551616 - m)))] w5 (by kernel_rfl) ?_
                          refine J.head (.int .i64 (-m)) (congrArg (Value.int .i64) (wrap_i64_neg (by omega))) ?_
                          refine J.run 3 K51_62 [(3, .int .i64 0), (2, .int .i64 (-m))] w5 (by kernel_rfl) ?_
                          refine J.ret Tryd.f51 [.int .i64 (-m), .int .i64 0] Tryd.func51 ⟨by kernel_rfl, by kernel_rfl, trivial⟩ ?_
                          refine hR _ _ ?_
                          obtain ⟨e1, e2⟩ := par_zero (s := s) (by omega) hf (by first | (rw [(fit_neg (m := m) (hmn.symm.trans fk20) (hmd (by omega))).1]; exact decide_eq_true (by omega)) | (rw [(fit_pos (m := m) (hmn.symm.trans fk20) (hmd (by omega))).1]; exact decide_eq_true (by omega)))
                          exact ⟨by rw [tup_two, e1, e2]; first | rw [(fit_neg (m := m) (hmn.symm.trans fk20) (hmd (by omega))).2] | rw [(fit_pos (m := m) (hmn.symm.trans fk20) (hmd (by omega))).2], S5.nil⟩
                        · skip
                          refine J.head (.bool false) (congrArg Value.bool (decide_eq_false fk21)) ?_
                          refine J.run 8 K51_63 [(83, .bool (!mn)), (7, .int .u64 m)] w5 (by kernel_rfl) ?_
                          refine J.head (.bool false) (congrArg Value.bool (by rw [fk20]; rfl)) ?_
                          refine J.run 11 K51_64 [(3, .int .i64 9), (2, .int .i64 0)] w5 (by kernel_rfl) ?_
                          refine J.ret Tryd.f51 [.int .i64 0, .int .i64 9] Tryd.func51 ⟨by kernel_rfl, by kernel_rfl, trivial⟩ ?_
                          refine hR _ _ ?_
                          obtain ⟨e1, e2⟩ := par_nine (s := s) (by omega) hf (by first | exact fit_long hd hf (by omega) | (rw [(fit_neg (m := m) (hmn.symm.trans fk20) (hmd (by omega))).1]; exact decide_eq_false (by omega)) | (rw [(fit_pos (m := m) (hmn.symm.trans fk20) (hmd (by omega))).1]; exact decide_eq_false (by omega)))
                          exact ⟨by rw [tup_two, e1, e2], S5.nil⟩
                      · skip
                        refine J.head (.bool false) (congrArg Value.bool fk20) ?_
                        have hmf2 := hmf fk20
                        refine J.run 12 K51_65 [(83, .bool (!mn)), (7, .int .u64 m)] w5 (by kernel_rfl) ?_
                        refine J.head (.bool true) (congrArg Value.bool (by rw [fk20]; rfl)) ?_
                        refine J.run 4 K51_66 [(86, .bool (decide (m < 9223372036854775808))), (7, .int .u64 m)] w5 (by kernel_rfl) ?_
                        by_cases fk24 : m < 9223372036854775808
                        · skip
                          refine J.head (.bool true) (congrArg Value.bool (decide_eq_true fk24)) ?_
                          refine J.run 5 K51_67 [(88, .int .i64 (IntKind.wrap .i64 m))] w5 (by kernel_rfl) ?_
                          refine J.head (.int .i64 m) (congrArg (Value.int .i64) (IntWalk.i64_in _ (by omega))) ?_
                          refine J.run 3 K51_68 [(3, .int .i64 0), (2, .int .i64 m)] w5 (by kernel_rfl) ?_
                          refine J.ret Tryd.f51 [.int .i64 m, .int .i64 0] Tryd.func51 ⟨by kernel_rfl, by kernel_rfl, trivial⟩ ?_
                          refine hR _ _ ?_
                          obtain ⟨e1, e2⟩ := par_zero (s := s) (by omega) hf (by first | (rw [(fit_neg (m := m) (hmn.symm.trans fk20) (hmd (by omega))).1]; exact decide_eq_true (by omega)) | (rw [(fit_pos (m := m) (hmn.symm.trans fk20) (hmd (by omega))).1]; exact decide_eq_true (by omega)))
                          exact ⟨by rw [tup_two, e1, e2]; first | rw [(fit_neg (m := m) (hmn.symm.trans fk20) (hmd (by omega))).2] | rw [(fit_pos (m := m) (hmn.symm.trans fk20) (hmd (by omega))).2], S5.nil⟩
                        · skip
                          refine J.head (.bool false) (congrArg Value.bool (decide_eq_false fk24)) ?_
                          refine J.run 7 K51_69 [(3, .int .i64 9), (2, .int .i64 0)] w5 (by kernel_rfl) ?_
                          refine J.ret Tryd.f51 [.int .i64 0, .int .i64 9] Tryd.func51 ⟨by kernel_rfl, by kernel_rfl, trivial⟩ ?_
                          refine hR _ _ ?_
                          obtain ⟨e1, e2⟩ := par_nine (s := s) (by omega) hf (by first | exact fit_long hd hf (by omega) | (rw [(fit_neg (m := m) (hmn.symm.trans fk20) (hmd (by omega))).1]; exact decide_eq_false (by omega)) | (rw [(fit_pos (m := m) (hmn.symm.trans fk20) (hmd (by omega))).1]; exact decide_eq_false (by omega)))
                          exact ⟨by rw [tup_two, e1, e2], S5.nil⟩
                  exact L51_4 _ 0 0 w4 (by omega) (by omega) (rfl) S4 rfl
            exact L51_3 _ 0 w1 (by omega) (by omega) (by intro j hj; simp at hj) S1 rfl
      by_cases fk25 : (byteAt s 0) = 45
      · skip
        refine J.head (.bool true) (congrArg Value.bool (beq_iff_eq.2 fk25)) ?_
        refine J.run 3 K51_70 [(22, .string s), (4, .bool ((byteAt s 0) == 45))] w (by kernel_rfl) ?_
        refine J.ok (OK.sliceT 23 9 s (some (.int .i64 1)) none 1 s.size (by kernel_rfl) (by kernel_rfl) (.inr ⟨_, _, rfl, rfl⟩) (.inl ⟨rfl, rfl⟩) (by first | omega | (simp; omega)) (by first | omega | (simp; omega))) ?_
        have := size_extract s (i := 1) (j := s.size) (by first | omega | (simp; omega))
        refine J.run 2 K51_71 [(4, .bool ((byteAt s 0) == 45)), (5, .string (s.extract 1 s.size))] w (by kernel_rfl) ?_
        refine J.head (.bool true) (congrArg Value.bool (beq_iff_eq.2 fk25)) ?_
        refine J.run 0 K51_5 [(5, .string (s.extract 1 s.size)), (4, .bool true)] w (by kernel_rfl) ?_
        exact X1 (s.extract 1 s.size) true w (by first | exact (dig_minus (by omega) (by omega)).1 | exact (dig_plain (by omega)).1) (by first | omega | (rw [size_extract s (Nat.le_refl _)]; omega)) ((by first | (intro h_; cases h_; done) | (intro h_; rfl))) ((by first | (intro h_; cases h_; done) | (intro h_; rw [size_extract s (Nat.le_refl _)]; omega))) ((by first | exact (dig_minus (by omega) (by omega)).2.symm | exact (dig_plain (by omega)).2.symm)) S0
      · skip
        refine J.head (.bool false) (congrArg Value.bool (beq_eq_false_iff_ne.2 fk25)) ?_
        refine J.run 2 K51_72 [(4, .bool ((byteAt s 0) == 45)), (5, .string s)] w (by kernel_rfl) ?_
        refine J.head (.bool false) (congrArg Value.bool (beq_eq_false_iff_ne.2 fk25)) ?_
        refine J.run 0 K51_5 [(5, .string s), (4, .bool false)] w (by kernel_rfl) ?_
        exact X1 s false w (by first | exact (dig_minus (by omega) (by omega)).1 | exact (dig_plain (by omega)).1) (by first | omega | (rw [size_extract s (Nat.le_refl _)]; omega)) ((by first | (intro h_; cases h_; done) | (intro h_; rfl))) ((by first | (intro h_; cases h_; done) | (intro h_; rw [size_extract s (Nat.le_refl _)]; omega))) ((by first | exact (dig_minus (by omega) (by omega)).2.symm | exact (dig_plain (by omega)).2.symm)) S0
    · skip
      refine J.head (.bool false) (congrArg Value.bool (decide_eq_false fk2)) ?_
      refine J.run 16 K51_73 [(21, .bool false), (5, .string s), (4, .bool false), (0, .string s)] w (by kernel_rfl) ?_
      have X2 : ∀ (d : ByteArray) (mn : Bool) (w6 : World), (ls d = digL (ls s)) → ((d).size ≤ s.size) → (mn = false → s.size = (d).size) → (mn = true → s.size = (d).size + 1) → (mn = negL (ls s)) → Sep w [] w6 → J Tryd.prog 51 89 R K51_74 [(5, .string d), (4, .bool mn)] w6 := by
        intro d mn w6 hd hds hmf hms hmn S6
        refine J.run 7 K51_75 [(27, .bool ((d.size : Int) == 0)), (5, .string d), (4, .bool mn)] w6 (by kernel_rfl) ?_
        by_cases fk26 : (d.size : Int) = 0
        · skip
          refine J.head (.bool true) (congrArg Value.bool (beq_iff_eq.2 fk26)) ?_
          refine J.run 19 K51_76 [(3, .int .i64 3), (2, .int .i64 0)] w6 (by kernel_rfl) ?_
          refine J.ret Tryd.f51 [.int .i64 0, .int .i64 3] Tryd.func51 ⟨by kernel_rfl, by kernel_rfl, trivial⟩ ?_
          refine hR _ _ ?_
          obtain ⟨e1, e2⟩ := par_three (s := s) (by omega) (by first | exact form_bad1 hd (by omega) | exact form_bad2 hd (i := i.toNat) (by omega) (by omega))
          exact ⟨by rw [tup_two, e1, e2], S6.nil⟩
        · skip
          refine J.head (.bool false) (congrArg Value.bool (beq_eq_false_iff_ne.2 fk26)) ?_
          refine J.run 1 K51_77 [(28, .string d), (27, .bool false), (5, .string d), (4, .bool mn)] w6 (by kernel_rfl) ?_
          have := byteAt_bounds d 0
          refine J.ok (OK.byte 29 9 d (0 : Int) (byteAt d 0) (by kernel_rfl) (by kernel_rfl) (by omega) (by omega) (rfl)) ?_
          refine J.run 2 K51_78 [(31, .bool ((byteAt d 0) == 48)), (27, .bool false), (5, .string d), (4, .bool mn)] w6 (by kernel_rfl) ?_
          by_cases fk27 : (byteAt d 0) = 48
          · skip
            refine J.head (.bool true) (congrArg Value.bool (beq_iff_eq.2 fk27)) ?_
            refine J.run 2 K51_79 [(33, .bool mn), (31, .bool true), (27, .bool false), (5, .string d), (4, .bool mn)] w6 (by kernel_rfl) ?_
            rcases Bool.eq_false_or_eq_true mn with fk28 | fk28
            · skip
              refine J.head (.bool true) (congrArg Value.bool fk28) ?_
              have hms2 := hms fk28
              refine J.run 13 K51_80 [(3, .int .i64 3), (2, .int .i64 0)] w6 (by kernel_rfl) ?_
              refine J.ret Tryd.f51 [.int .i64 0, .int .i64 3] Tryd.func51 ⟨by kernel_rfl, by kernel_rfl, trivial⟩ ?_
              refine hR _ _ ?_
              obtain ⟨e1, e2⟩ := par_three (s := s) (by omega) (by first | exact form_bad1 hd (by omega) | exact form_bad2 hd (i := i.toNat) (by omega) (by omega))
              exact ⟨by rw [tup_two, e1, e2], S6.nil⟩
            · skip
              refine J.head (.bool false) (congrArg Value.bool fk28) ?_
              have hmf2 := hmf fk28
              refine J.run 7 K51_81 [(39, .bool (decide ((d.size : Int) > 1))), (5, .string d), (4, .bool mn)] w6 (by kernel_rfl) ?_
              by_cases fk29 : (d.size : Int) > 1
              · skip
                refine J.head (.bool true) (congrArg Value.bool (decide_eq_true fk29)) ?_
                refine J.run 6 K51_82 [(3, .int .i64 3), (2, .int .i64 0)] w6 (by kernel_rfl) ?_
                refine J.ret Tryd.f51 [.int .i64 0, .int .i64 3] Tryd.func51 ⟨by kernel_rfl, by kernel_rfl, trivial⟩ ?_
                refine hR _ _ ?_
                obtain ⟨e1, e2⟩ := par_three (s := s) (by omega) (by first | exact form_bad1 hd (by omega) | exact form_bad2 hd (i := i.toNat) (by omega) (by omega))
                exact ⟨by rw [tup_two, e1, e2], S6.nil⟩
              · skip
                refine J.head (.bool false) (congrArg Value.bool (decide_eq_false fk29)) ?_
                refine J.run 9 K51_83 [(6, .int .i64 0), (5, .string d), (4, .bool mn)] w6 (by kernel_rfl) ?_
                have L51_5 : ∀ (mm_ : Nat) (i : Int) (w7 : World), (0 ≤ i) → (i ≤ (d.size : Int)) → (∀ j, j < (i).toNat → 48 ≤ byteAt d j ∧ byteAt d j ≤ 57) → Sep w [] w7 → ((d.size : Int) - i).toNat = mm_ → J Tryd.prog 51 89 R K51_83 [(6, .int .i64 i), (5, .string d), (4, .bool mn)] w7 := by
                  intro mm5
                  induction mm5 using Nat.strongRecOn with
                  | _ mm5 ih5 =>
                  intro i w7 h0 h1 hq S7 hm5
                  refine J.run 8 K51_84 [(43, .bool (decide (i < (d.size : Int)))), (6, .int .i64 i), (5, .string d), (4, .bool mn)] w7 (by kernel_rfl) ?_
                  by_cases fk30 : i < (d.size : Int)
                  · skip
                    refine J.head (.bool true) (congrArg Value.bool (decide_eq_true fk30)) ?_
                    refine J.run 8 K51_85 [(47, .int .i64 i), (46, .string d), (6, .int .i64 i), (5, .string d), (4, .bool mn)] w7 (by kernel_rfl) ?_
                    have := byteAt_bounds d (i).toNat
                    refine J.ok (OK.byte 48 9 d i (byteAt d (i).toNat) (by kernel_rfl) (by kernel_rfl) (by omega) (by omega) (rfl)) ?_
                    refine J.run 2 K51_86 [(50, .bool (decide ((byteAt d (i).toNat) < 48))), (6, .int .i64 i), (5, .string d), (4, .bool mn)] w7 (by kernel_rfl) ?_
                    by_cases fk31 : (byteAt d (i).toNat) < 48
                    · skip
                      refine J.head (.bool true) (congrArg Value.bool (decide_eq_true fk31)) ?_
                      refine J.run 12 K51_87 [(3, .int .i64 3), (2, .int .i64 0)] w7 (by kernel_rfl) ?_
                      refine J.ret Tryd.f51 [.int .i64 0, .int .i64 3] Tryd.func51 ⟨by kernel_rfl, by kernel_rfl, trivial⟩ ?_
                      refine hR _ _ ?_
                      obtain ⟨e1, e2⟩ := par_three (s := s) (by omega) (by first | exact form_bad1 hd (by omega) | exact form_bad2 hd (i := i.toNat) (by omega) (by omega))
                      exact ⟨by rw [tup_two, e1, e2], S7.nil⟩
                    · skip
                      refine J.head (.bool false) (congrArg Value.bool (decide_eq_false fk31)) ?_
                      refine J.run 2 K51_88 [(52, .int .i64 i), (51, .string d), (50, .bool false), (6, .int .i64 i), (5, .string d), (4, .bool mn)] w7 (by kernel_rfl) ?_
                      have := byteAt_bounds d (i).toNat
                      refine J.ok (OK.byte 53 9 d i (byteAt d (i).toNat) (by kernel_rfl) (by kernel_rfl) (by omega) (by omega) (rfl)) ?_
                      refine J.run 3 K51_89 [(55, .bool (decide ((byteAt d (i).toNat) > 57))), (6, .int .i64 i), (5, .string d), (4, .bool mn)] w7 (by kernel_rfl) ?_
                      by_cases fk32 : (byteAt d (i).toNat) > 57
                      · skip
                        refine J.head (.bool true) (congrArg Value.bool (decide_eq_true fk32)) ?_
                        refine J.run 6 K51_90 [(3, .int .i64 3), (2, .int .i64 0)] w7 (by kernel_rfl) ?_
                        refine J.ret Tryd.f51 [.int .i64 0, .int .i64 3] Tryd.func51 ⟨by kernel_rfl, by kernel_rfl, trivial⟩ ?_
                        refine hR _ _ ?_
                        obtain ⟨e1, e2⟩ := par_three (s := s) (by omega) (by first | exact form_bad1 hd (by omega) | exact form_bad2 hd (i := i.toNat) (by omega) (by omega))
                        exact ⟨by rw [tup_two, e1, e2], S7.nil⟩
                      · skip
                        refine J.head (.bool false) (congrArg Value.bool (decide_eq_false fk32)) ?_
                        refine J.run 6 K51_91 [(45, .int .i64 (IntKind.wrap .i64 (i + 1))), (5, .string d), (4, .bool mn)] w7 (by kernel_rfl) ?_
                        refine J.head (.int .i64 (i + 1)) (congrArg (Value.int .i64) (IntWalk.i64_in _ (by omega))) ?_
                        refine J.run 3 K51_83 [(6, .int .i64 (i + 1)), (5, .string d), (4, .bool mn)] w7 (by kernel_rfl) ?_
                        refine J.run 0 K51_83 [(6, .int .i64 (i + 1)), (5, .string d), (4, .bool mn)] w7 (by kernel_rfl) ?_
                        exact ih5 _ (show ((d.size : Int) - (i + 1)).toNat < mm5 from by omega) (i + 1) w7 (by omega) (by omega) (dg_step (q := fun j => 48 ≤ byteAt d j ∧ byteAt d j ≤ 57) h0 hq (by omega)) S7 rfl
                  · skip
                    refine J.head (.bool false) (congrArg Value.bool (decide_eq_false fk30)) ?_
                    have hqd : ∀ j, j < d.size → 48 ≤ byteAt d j ∧ byteAt d j ≤ 57 := fun j hj => hq j (by omega)
                    have hf := form_good hd ⟨by omega, by omega⟩ hqd
                    refine J.run 9 K51_92 [(58, .bool (decide ((d.size : Int) > 19))), (5, .string d), (4, .bool mn)] w7 (by kernel_rfl) ?_
                    by_cases fk33 : (d.size : Int) > 19
                    · skip
                      refine J.head (.bool true) (congrArg Value.bool (decide_eq_true fk33)) ?_
                      refine J.run 6 K51_93 [(3, .int .i64 9), (2, .int .i64 0)] w7 (by kernel_rfl) ?_
                      refine J.ret Tryd.f51 [.int .i64 0, .int .i64 9] Tryd.func51 ⟨by kernel_rfl, by kernel_rfl, trivial⟩ ?_
                      refine hR _ _ ?_
                      obtain ⟨e1, e2⟩ := par_nine (s := s) (by omega) hf (by first | exact fit_long hd hf (by omega) | (rw [(fit_neg (m := m) (hmn.symm.trans fk28) (hmd (by omega))).1]; exact decide_eq_false (by omega)) | (rw [(fit_pos (m := m) (hmn.symm.trans fk28) (hmd (by omega))).1]; exact decide_eq_false (by omega)))
                      exact ⟨by rw [tup_two, e1, e2], S7.nil⟩
                    · skip
                      refine J.head (.bool false) (congrArg Value.bool (decide_eq_false fk33)) ?_
                      refine J.run 13 K51_94 [(8, .int .i64 0), (7, .int .u64 0), (5, .string d), (4, .bool mn)] w7 (by kernel_rfl) ?_
                      have L51_6 : ∀ (mm_ : Nat) (m : Int) (k : Int) (w8 : World), (0 ≤ k) → (k ≤ (d.size : Int)) → (m = (decV ((ls d).take (k).toNat) : Int)) → Sep w [] w8 → ((d.size : Int) - k).toNat = mm_ → J Tryd.prog 51 89 R K51_94 [(8, .int .i64 k), (7, .int .u64 m), (5, .string d), (4, .bool mn)] w8 := by
                        intro mm6
                        induction mm6 using Nat.strongRecOn with
                        | _ mm6 ih6 =>
                        intro m k w8 k0 k1 hm S8 hm6
                        have hb0 := take_bound (d := d) (n := k.toNat) hqd (by omega)
                        have hmd : (d.size : Int) ≤ k → m = (decV (digL (ls s)) : Int) := fun h_ => hm.trans (take_all hd h_)
                        refine J.run 8 K51_95 [(62, .bool (decide (k < (d.size : Int)))), (8, .int .i64 k), (7, .int .u64 m), (5, .string d), (4, .bool mn)] w8 (by kernel_rfl) ?_
                        by_cases fk34 : k < (d.size : Int)
                        · skip
                          refine J.head (.bool true) (congrArg Value.bool (decide_eq_true fk34)) ?_
                          have hb1 := decV_take (d := d) k0 (by omega)
                          have hb2 := take_bound (d := d) (n := (k + 1).toNat) hqd (by omega)
                          have hb3 := hqd k.toNat (by omega)
                          have hb4 := byteAt_ls d k.toNat
                          refine J.run 7 K51_96 [(66, .int .u64 (IntKind.wrap .u64 (10 * m))), (8, .int .i64 k), (5, .string d), (4, .bool mn)] w8 (by kernel_rfl) ?_
                          refine J.head (.int .u64 (10 * m)) (congrArg (Value.int .u64) (IntWalk.u64_in _ (by omega))) ?_
                          refine J.run 2 K51_97 [(68, .int .i64 k), (67, .string d), (66, .int .u64 (10 * m)), (8, .int .i64 k), (5, .string d), (4, .bool mn)] w8 (by kernel_rfl) ?_
                          have := byteAt_bounds d (k).toNat
                          refine J.ok (OK.byte 69 9 d k (byteAt d (k).toNat) (by kernel_rfl) (by kernel_rfl) (by omega) (by omega) (rfl)) ?_
                          refine J.run 1 K51_98 [(70, .int .u8 (IntKind.wrap .u8 ((byteAt d (k).toNat) - 48))), (66, .int .u64 (10 * m)), (8, .int .i64 k), (5, .string d), (4, .bool mn)] w8 (by kernel_rfl) ?_
                          refine J.head (.int .u8 ((byteAt d (k).toNat) - 48)) (congrArg (Value.int .u8) (IntWalk.u8_in _ (by omega))) ?_
                          refine J.run 1 K51_99 [(71, .int .u64 (IntKind.wrap .u64 ((byteAt d (k).toNat) - 48))), (66, .int .u64 (10 * m)), (8, .int .i64 k), (5, .string d), (4, .bool mn)] w8 (by kernel_rfl) ?_
                          refine J.head (.int .u64 ((byteAt d (k).toNat) - 48)) (congrArg (Value.int .u64) (IntWalk.u64_in _ (by omega))) ?_
                          refine J.run 1 K51_100 [(72, .int .u64 (IntKind.wrap .u64 ((10 * m) + ((byteAt d (k).toNat) - 48)))), (8, .int .i64 k), (5, .string d), (4, .bool mn)] w8 (by kernel_rfl) ?_
                          refine J.head (.int .u64 ((10 * m) + ((byteAt d (k).toNat) - 48))) (congrArg (Value.int .u64) (IntWalk.u64_in _ (by omega))) ?_
                          refine J.run 6 K51_101 [(64, .int .i64 (IntKind.wrap .i64 (k + 1))), (7, .int .u64 ((10 * m) + ((byteAt d (k).toNat) - 48))), (5, .string d), (4, .bool mn)] w8 (by kernel_rfl) ?_
                          refine J.head (.int .i64 (k + 1)) (congrArg (Value.int .i64) (IntWalk.i64_in _ (by omega))) ?_
                          refine J.run 3 K51_94 [(8, .int .i64 (k + 1)), (7, .int .u64 ((10 * m) + ((byteAt d (k).toNat) - 48))), (5, .string d), (4, .bool mn)] w8 (by kernel_rfl) ?_
                          refine J.run 0 K51_94 [(8, .int .i64 (k + 1)), (7, .int .u64 ((10 * m) + ((byteAt d (k).toNat) - 48))), (5, .string d), (4, .bool mn)] w8 (by kernel_rfl) ?_
                          exact ih6 _ (show ((d.size : Int) - (k + 1)).toNat < mm6 from by omega) ((10 * m) + ((byteAt d (k).toNat) - 48)) (k + 1) w8 (by omega) (by omega) (by omega) S8 rfl
                        · skip
                          refine J.head (.bool false) (congrArg Value.bool (decide_eq_false fk34)) ?_
                          refine J.run 7 K51_102 [(74, .bool mn), (7, .int .u64 m), (4, .bool mn)] w8 (by kernel_rfl) ?_
                          refine J.head (.bool false) (congrArg Value.bool fk28) ?_
                          refine J.run 12 K51_103 [(83, .bool (!mn)), (7, .int .u64 m)] w8 (by kernel_rfl) ?_
                          refine J.head (.bool true) (congrArg Value.bool (by rw [fk28]; rfl)) ?_
                          refine J.run 4 K51_104 [(86, .bool (decide (m < 9223372036854775808))), (7, .int .u64 m)] w8 (by kernel_rfl) ?_
                          by_cases fk37 : m < 9223372036854775808
                          · skip
                            refine J.head (.bool true) (congrArg Value.bool (decide_eq_true fk37)) ?_
                            refine J.run 5 K51_105 [(88, .int .i64 (IntKind.wrap .i64 m))] w8 (by kernel_rfl) ?_
                            refine J.head (.int .i64 m) (congrArg (Value.int .i64) (IntWalk.i64_in _ (by omega))) ?_
                            refine J.run 3 K51_106 [(3, .int .i64 0), (2, .int .i64 m)] w8 (by kernel_rfl) ?_
                            refine J.ret Tryd.f51 [.int .i64 m, .int .i64 0] Tryd.func51 ⟨by kernel_rfl, by kernel_rfl, trivial⟩ ?_
                            refine hR _ _ ?_
                            obtain ⟨e1, e2⟩ := par_zero (s := s) (by omega) hf (by first | (rw [(fit_neg (m := m) (hmn.symm.trans fk28) (hmd (by omega))).1]; exact decide_eq_true (by omega)) | (rw [(fit_pos (m := m) (hmn.symm.trans fk28) (hmd (by omega))).1]; exact decide_eq_true (by omega)))
                            exact ⟨by rw [tup_two, e1, e2]; first | rw [(fit_neg (m := m) (hmn.symm.trans fk28) (hmd (by omega))).2] | rw [(fit_pos (m := m) (hmn.symm.trans fk28) (hmd (by omega))).2], S8.nil⟩
                          · skip
                            refine J.head (.bool false) (congrArg Value.bool (decide_eq_false fk37)) ?_
                            refine J.run 7 K51_107 [(3, .int .i64 9), (2, .int .i64 0)] w8 (by kernel_rfl) ?_
                            refine J.ret Tryd.f51 [.int .i64 0, .int .i64 9] Tryd.func51 ⟨by kernel_rfl, by kernel_rfl, trivial⟩ ?_
                            refine hR _ _ ?_
                            obtain ⟨e1, e2⟩ := par_nine (s := s) (by omega) hf (by first | exact fit_long hd hf (by omega) | (rw [(fit_neg (m := m) (hmn.symm.trans fk28) (hmd (by omega))).1]; exact decide_eq_false (by omega)) | (rw [(fit_pos (m := m) (hmn.symm.trans fk28) (hmd (by omega))).1]; exact decide_eq_false (by omega)))
                            exact ⟨by rw [tup_two, e1, e2], S8.nil⟩
                      exact L51_6 _ 0 0 w7 (by omega) (by omega) (rfl) S7 rfl
                exact L51_5 _ 0 w6 (by omega) (by omega) (by intro j hj; simp at hj) S6 rfl
          · skip
            refine J.head (.bool false) (congrArg Value.bool (beq_eq_false_iff_ne.2 fk27)) ?_
            refine J.run 18 K51_108 [(6, .int .i64 0), (5, .string d), (4, .bool mn)] w6 (by kernel_rfl) ?_
            have L51_7 : ∀ (mm_ : Nat) (i : Int) (w9 : World), (0 ≤ i) → (i ≤ (d.size : Int)) → (∀ j, j < (i).toNat → 48 ≤ byteAt d j ∧ byteAt d j ≤ 57) → Sep w [] w9 → ((d.size : Int) - i).toNat = mm_ → J Tryd.prog 51 89 R K51_108 [(6, .int .i64 i), (5, .string d), (4, .bool mn)] w9 := by
              intro mm7
              induction mm7 using Nat.strongRecOn with
              | _ mm7 ih7 =>
              intro i w9 h0 h1 hq S9 hm7
              refine J.run 8 K51_109 [(43, .bool (decide (i < (d.size : Int)))), (6, .int .i64 i), (5, .string d), (4, .bool mn)] w9 (by kernel_rfl) ?_
              by_cases fk38 : i < (d.size : Int)
              · skip
                refine J.head (.bool true) (congrArg Value.bool (decide_eq_true fk38)) ?_
                refine J.run 8 K51_110 [(47, .int .i64 i), (46, .string d), (6, .int .i64 i), (5, .string d), (4, .bool mn)] w9 (by kernel_rfl) ?_
                have := byteAt_bounds d (i).toNat
                refine J.ok (OK.byte 48 9 d i (byteAt d (i).toNat) (by kernel_rfl) (by kernel_rfl) (by omega) (by omega) (rfl)) ?_
                refine J.run 2 K51_111 [(50, .bool (decide ((byteAt d (i).toNat) < 48))), (6, .int .i64 i), (5, .string d), (4, .bool mn)] w9 (by kernel_rfl) ?_
                by_cases fk39 : (byteAt d (i).toNat) < 48
                · skip
                  refine J.head (.bool true) (congrArg Value.bool (decide_eq_true fk39)) ?_
                  refine J.run 12 K51_112 [(3, .int .i64 3), (2, .int .i64 0)] w9 (by kernel_rfl) ?_
                  refine J.ret Tryd.f51 [.int .i64 0, .int .i64 3] Tryd.func51 ⟨by kernel_rfl, by kernel_rfl, trivial⟩ ?_
                  refine hR _ _ ?_
                  obtain ⟨e1, e2⟩ := par_three (s := s) (by omega) (by first | exact form_bad1 hd (by omega) | exact form_bad2 hd (i := i.toNat) (by omega) (by omega))
                  exact ⟨by rw [tup_two, e1, e2], S9.nil⟩
                · skip
                  refine J.head (.bool false) (congrArg Value.bool (decide_eq_false fk39)) ?_
                  refine J.run 2 K51_113 [(52, .int .i64 i), (51, .string d), (50, .bool false), (6, .int .i64 i), (5, .string d), (4, .bool mn)] w9 (by kernel_rfl) ?_
                  have := byteAt_bounds d (i).toNat
                  refine J.ok (OK.byte 53 9 d i (byteAt d (i).toNat) (by kernel_rfl) (by kernel_rfl) (by omega) (by omega) (rfl)) ?_
                  refine J.run 3 K51_114 [(55, .bool (decide ((byteAt d (i).toNat) > 57))), (6, .int .i64 i), (5, .string d), (4, .bool mn)] w9 (by kernel_rfl) ?_
                  by_cases fk40 : (byteAt d (i).toNat) > 57
                  · skip
                    refine J.head (.bool true) (congrArg Value.bool (decide_eq_true fk40)) ?_
                    refine J.run 6 K51_115 [(3, .int .i64 3), (2, .int .i64 0)] w9 (by kernel_rfl) ?_
                    refine J.ret Tryd.f51 [.int .i64 0, .int .i64 3] Tryd.func51 ⟨by kernel_rfl, by kernel_rfl, trivial⟩ ?_
                    refine hR _ _ ?_
                    obtain ⟨e1, e2⟩ := par_three (s := s) (by omega) (by first | exact form_bad1 hd (by omega) | exact form_bad2 hd (i := i.toNat) (by omega) (by omega))
                    exact ⟨by rw [tup_two, e1, e2], S9.nil⟩
                  · skip
                    refine J.head (.bool false) (congrArg Value.bool (decide_eq_false fk40)) ?_
                    refine J.run 6 K51_116 [(45, .int .i64 (IntKind.wrap .i64 (i + 1))), (5, .string d), (4, .bool mn)] w9 (by kernel_rfl) ?_
                    refine J.head (.int .i64 (i + 1)) (congrArg (Value.int .i64) (IntWalk.i64_in _ (by omega))) ?_
                    refine J.run 3 K51_108 [(6, .int .i64 (i + 1)), (5, .string d), (4, .bool mn)] w9 (by kernel_rfl) ?_
                    refine J.run 0 K51_108 [(6, .int .i64 (i + 1)), (5, .string d), (4, .bool mn)] w9 (by kernel_rfl) ?_
                    exact ih7 _ (show ((d.size : Int) - (i + 1)).toNat < mm7 from by omega) (i + 1) w9 (by omega) (by omega) (dg_step (q := fun j => 48 ≤ byteAt d j ∧ byteAt d j ≤ 57) h0 hq (by omega)) S9 rfl
              · skip
                refine J.head (.bool false) (congrArg Value.bool (decide_eq_false fk38)) ?_
                have hqd : ∀ j, j < d.size → 48 ≤ byteAt d j ∧ byteAt d j ≤ 57 := fun j hj => hq j (by omega)
                have hf := form_good hd ⟨by omega, by omega⟩ hqd
                refine J.run 9 K51_117 [(58, .bool (decide ((d.size : Int) > 19))), (5, .string d), (4, .bool mn)] w9 (by kernel_rfl) ?_
                by_cases fk41 : (d.size : Int) > 19
                · skip
                  refine J.head (.bool true) (congrArg Value.bool (decide_eq_true fk41)) ?_
                  refine J.run 6 K51_118 [(3, .int .i64 9), (2, .int .i64 0)] w9 (by kernel_rfl) ?_
                  refine J.ret Tryd.f51 [.int .i64 0, .int .i64 9] Tryd.func51 ⟨by kernel_rfl, by kernel_rfl, trivial⟩ ?_
                  refine hR _ _ ?_
                  obtain ⟨e1, e2⟩ := par_nine (s := s) (by omega) hf (by first | exact fit_long hd hf (by omega) | (rw [(fit_neg (m := m) (hmn.symm.trans rfl) (hmd (by omega))).1]; exact decide_eq_false (by omega)) | (rw [(fit_pos (m := m) (hmn.symm.trans rfl) (hmd (by omega))).1]; exact decide_eq_false (by omega)))
                  exact ⟨by rw [tup_two, e1, e2], S9.nil⟩
                · skip
                  refine J.head (.bool false) (congrArg Value.bool (decide_eq_false fk41)) ?_
                  refine J.run 13 K51_119 [(8, .int .i64 0), (7, .int .u64 0), (5, .string d), (4, .bool mn)] w9 (by kernel_rfl) ?_
                  have L51_8 : ∀ (mm_ : Nat) (m : Int) (k : Int) (w10 : World), (0 ≤ k) → (k ≤ (d.size : Int)) → (m = (decV ((ls d).take (k).toNat) : Int)) → Sep w [] w10 → ((d.size : Int) - k).toNat = mm_ → J Tryd.prog 51 89 R K51_119 [(8, .int .i64 k), (7, .int .u64 m), (5, .string d), (4, .bool mn)] w10 := by
                    intro mm8
                    induction mm8 using Nat.strongRecOn with
                    | _ mm8 ih8 =>
                    intro m k w10 k0 k1 hm S10 hm8
                    have hb0 := take_bound (d := d) (n := k.toNat) hqd (by omega)
                    have hmd : (d.size : Int) ≤ k → m = (decV (digL (ls s)) : Int) := fun h_ => hm.trans (take_all hd h_)
                    refine J.run 8 K51_120 [(62, .bool (decide (k < (d.size : Int)))), (8, .int .i64 k), (7, .int .u64 m), (5, .string d), (4, .bool mn)] w10 (by kernel_rfl) ?_
                    by_cases fk42 : k < (d.size : Int)
                    · skip
                      refine J.head (.bool true) (congrArg Value.bool (decide_eq_true fk42)) ?_
                      have hb1 := decV_take (d := d) k0 (by omega)
                      have hb2 := take_bound (d := d) (n := (k + 1).toNat) hqd (by omega)
                      have hb3 := hqd k.toNat (by omega)
                      have hb4 := byteAt_ls d k.toNat
                      refine J.run 7 K51_121 [(66, .int .u64 (IntKind.wrap .u64 (10 * m))), (8, .int .i64 k), (5, .string d), (4, .bool mn)] w10 (by kernel_rfl) ?_
                      refine J.head (.int .u64 (10 * m)) (congrArg (Value.int .u64) (IntWalk.u64_in _ (by omega))) ?_
                      refine J.run 2 K51_122 [(68, .int .i64 k), (67, .string d), (66, .int .u64 (10 * m)), (8, .int .i64 k), (5, .string d), (4, .bool mn)] w10 (by kernel_rfl) ?_
                      have := byteAt_bounds d (k).toNat
                      refine J.ok (OK.byte 69 9 d k (byteAt d (k).toNat) (by kernel_rfl) (by kernel_rfl) (by omega) (by omega) (rfl)) ?_
                      refine J.run 1 K51_123 [(70, .int .u8 (IntKind.wrap .u8 ((byteAt d (k).toNat) - 48))), (66, .int .u64 (10 * m)), (8, .int .i64 k), (5, .string d), (4, .bool mn)] w10 (by kernel_rfl) ?_
                      refine J.head (.int .u8 ((byteAt d (k).toNat) - 48)) (congrArg (Value.int .u8) (IntWalk.u8_in _ (by omega))) ?_
                      refine J.run 1 K51_124 [(71, .int .u64 (IntKind.wrap .u64 ((byteAt d (k).toNat) - 48))), (66, .int .u64 (10 * m)), (8, .int .i64 k), (5, .string d), (4, .bool mn)] w10 (by kernel_rfl) ?_
                      refine J.head (.int .u64 ((byteAt d (k).toNat) - 48)) (congrArg (Value.int .u64) (IntWalk.u64_in _ (by omega))) ?_
                      refine J.run 1 K51_125 [(72, .int .u64 (IntKind.wrap .u64 ((10 * m) + ((byteAt d (k).toNat) - 48)))), (8, .int .i64 k), (5, .string d), (4, .bool mn)] w10 (by kernel_rfl) ?_
                      refine J.head (.int .u64 ((10 * m) + ((byteAt d (k).toNat) - 48))) (congrArg (Value.int .u64) (IntWalk.u64_in _ (by omega))) ?_
                      refine J.run 6 K51_126 [(64, .int .i64 (IntKind.wrap .i64 (k + 1))), (7, .int .u64 ((10 * m) + ((byteAt d (k).toNat) - 48))), (5, .string d), (4, .bool mn)] w10 (by kernel_rfl) ?_
                      refine J.head (.int .i64 (k + 1)) (congrArg (Value.int .i64) (IntWalk.i64_in _ (by omega))) ?_
                      refine J.run 3 K51_119 [(8, .int .i64 (k + 1)), (7, .int .u64 ((10 * m) + ((byteAt d (k).toNat) - 48))), (5, .string d), (4, .bool mn)] w10 (by kernel_rfl) ?_
                      refine J.run 0 K51_119 [(8, .int .i64 (k + 1)), (7, .int .u64 ((10 * m) + ((byteAt d (k).toNat) - 48))), (5, .string d), (4, .bool mn)] w10 (by kernel_rfl) ?_
                      exact ih8 _ (show ((d.size : Int) - (k + 1)).toNat < mm8 from by omega) ((10 * m) + ((byteAt d (k).toNat) - 48)) (k + 1) w10 (by omega) (by omega) (by omega) S10 rfl
                    · skip
                      refine J.head (.bool false) (congrArg Value.bool (decide_eq_false fk42)) ?_
                      refine J.run 7 K51_127 [(74, .bool mn), (7, .int .u64 m), (4, .bool mn)] w10 (by kernel_rfl) ?_
                      rcases Bool.eq_false_or_eq_true mn with fk43 | fk43
                      · skip
                        refine J.head (.bool true) (congrArg Value.bool fk43) ?_
                        have hms2 := hms fk43
                        refine J.run 4 K51_128 [(77, .bool (decide (m ≤ 9223372036854775808))), (7, .int .u64 m), (4, .bool mn)] w10 (by kernel_rfl) ?_
                        by_cases fk44 : m ≤ 9223372036854775808
                        · skip
                          refine J.head (.bool true) (congrArg Value.bool (decide_eq_true fk44)) ?_
                          have hm0 := form_neg hf (hmn.symm.trans fk43)
                          have hm1 := hmd (by omega)
                          refine J.run 5 K51_129 [(79, .int .u64 (IntKind.wrap .u64 (0 - m)))] w10 (by kernel_rfl) ?_
                          refine J.head (.int .u64 (18446744073709551616 - m)) (congrArg (Value.int .u64) (by rw [wrapU]; omega)) ?_
                          refine J.run 1 K51_130 [(80, .int .i64 (IntKind.wrap .i64 (18446744073709551616 - m)))] w10 (by kernel_rfl) ?_
                          refine J.head (.int .i64 (-m)) (congrArg (Value.int .i64) (wrap_i64_neg (by omega))) ?_
                          refine J.run 3 K51_131 [(3, .int .i64 0), (2, .int .i64 (-m))] w10 (by kernel_rfl) ?_
                          refine J.ret Tryd.f51 [.int .i64 (-m), .int .i64 0] Tryd.func51 ⟨by kernel_rfl, by kernel_rfl, trivial⟩ ?_
                          refine hR _ _ ?_
                          obtain ⟨e1, e2⟩ := par_zero (s := s) (by omega) hf (by first | (rw [(fit_neg (m := m) (hmn.symm.trans fk43) (hmd (by omega))).1]; exact decide_eq_true (by omega)) | (rw [(fit_pos (m := m) (hmn.symm.trans fk43) (hmd (by omega))).1]; exact decide_eq_true (by omega)))
                          exact ⟨by rw [tup_two, e1, e2]; first | rw [(fit_neg (m := m) (hmn.symm.trans fk43) (hmd (by omega))).2] | rw [(fit_pos (m := m) (hmn.symm.trans fk43) (hmd (by omega))).2], S10.nil⟩
                        · skip
                          refine J.head (.bool false) (congrArg Value.bool (decide_eq_false fk44)) ?_
                          refine J.run 8 K51_132 [(83, .bool (!mn)), (7, .int .u64 m)] w10 (by kernel_rfl) ?_
                          refine J.head (.bool false) (congrArg Value.bool (by rw [fk43]; rfl)) ?_
                          refine J.run 11 K51_133 [(3, .int .i64 9), (2, .int .i64 0)] w10 (by kernel_rfl) ?_
                          refine J.ret Tryd.f51 [.int .i64 0, .int .i64 9] Tryd.func51 ⟨by kernel_rfl, by kernel_rfl, trivial⟩ ?_
                          refine hR _ _ ?_
                          obtain ⟨e1, e2⟩ := par_nine (s := s) (by omega) hf (by first | exact fit_long hd hf (by omega) | (rw [(fit_neg (m := m) (hmn.symm.trans fk43) (hmd (by omega))).1]; exact decide_eq_false (by omega)) | (rw [(fit_pos (m := m) (hmn.symm.trans fk43) (hmd (by omega))).1]; exact decide_eq_false (by omega)))
                          exact ⟨by rw [tup_two, e1, e2], S10.nil⟩
                      · skip
                        refine J.head (.bool false) (congrArg Value.bool fk43) ?_
                        have hmf2 := hmf fk43
                        refine J.run 12 K51_134 [(83, .bool (!mn)), (7, .int .u64 m)] w10 (by kernel_rfl) ?_
                        refine J.head (.bool true) (congrArg Value.bool (by rw [fk43]; rfl)) ?_
                        refine J.run 4 K51_135 [(86, .bool (decide (m < 9223372036854775808))), (7, .int .u64 m)] w10 (by kernel_rfl) ?_
                        by_cases fk47 : m < 9223372036854775808
                        · skip
                          refine J.head (.bool true) (congrArg Value.bool (decide_eq_true fk47)) ?_
                          refine J.run 5 K51_136 [(88, .int .i64 (IntKind.wrap .i64 m))] w10 (by kernel_rfl) ?_
                          refine J.head (.int .i64 m) (congrArg (Value.int .i64) (IntWalk.i64_in _ (by omega))) ?_
                          refine J.run 3 K51_137 [(3, .int .i64 0), (2, .int .i64 m)] w10 (by kernel_rfl) ?_
                          refine J.ret Tryd.f51 [.int .i64 m, .int .i64 0] Tryd.func51 ⟨by kernel_rfl, by kernel_rfl, trivial⟩ ?_
                          refine hR _ _ ?_
                          obtain ⟨e1, e2⟩ := par_zero (s := s) (by omega) hf (by first | (rw [(fit_neg (m := m) (hmn.symm.trans fk43) (hmd (by omega))).1]; exact decide_eq_true (by omega)) | (rw [(fit_pos (m := m) (hmn.symm.trans fk43) (hmd (by omega))).1]; exact decide_eq_true (by omega)))
                          exact ⟨by rw [tup_two, e1, e2]; first | rw [(fit_neg (m := m) (hmn.symm.trans fk43) (hmd (by omega))).2] | rw [(fit_pos (m := m) (hmn.symm.trans fk43) (hmd (by omega))).2], S10.nil⟩
                        · skip
                          refine J.head (.bool false) (congrArg Value.bool (decide_eq_false fk47)) ?_
                          refine J.run 7 K51_138 [(3, .int .i64 9), (2, .int .i64 0)] w10 (by kernel_rfl) ?_
                          refine J.ret Tryd.f51 [.int .i64 0, .int .i64 9] Tryd.func51 ⟨by kernel_rfl, by kernel_rfl, trivial⟩ ?_
                          refine hR _ _ ?_
                          obtain ⟨e1, e2⟩ := par_nine (s := s) (by omega) hf (by first | exact fit_long hd hf (by omega) | (rw [(fit_neg (m := m) (hmn.symm.trans fk43) (hmd (by omega))).1]; exact decide_eq_false (by omega)) | (rw [(fit_pos (m := m) (hmn.symm.trans fk43) (hmd (by omega))).1]; exact decide_eq_false (by omega)))
                          exact ⟨by rw [tup_two, e1, e2], S10.nil⟩
                  exact L51_8 _ 0 0 w9 (by omega) (by omega) (rfl) S9 rfl
            exact L51_7 _ 0 w6 (by omega) (by omega) (by intro j hj; simp at hj) S6 rfl
      refine J.run 2 K51_74 [(5, .string s), (4, .bool false)] w (by kernel_rfl) ?_
      exact X2 s false w (by first | exact (dig_minus (by omega) (by omega)).1 | exact (dig_plain (by omega)).1) (by first | omega | (rw [size_extract s (Nat.le_refl _)]; omega)) ((by first | (intro h_; cases h_; done) | (intro h_; rfl))) ((by first | (intro h_; cases h_; done) | (intro h_; rw [size_extract s (Nat.le_refl _)]; omega))) ((by first | exact (dig_minus (by omega) (by omega)).2.symm | exact (dig_plain (by omega)).2.symm)) S0

end Go.Proofs.YtlklealllohmgaaDoor
