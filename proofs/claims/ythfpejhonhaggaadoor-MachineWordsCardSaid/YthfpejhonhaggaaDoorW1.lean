/- Walks of functions of this seat, printed by a program over the engine. Conditions: as each theorem says. -/
import Derived.Test.YthfpejhonhaggaaDoorEng15
import Derived.Test.YthfpejhonhaggaaDoorShelf
namespace Go.Proofs.YthfpejhonhaggaaDoor
open Go.Eng Go.RowKit
set_option linter.unusedSimpArgs false
set_option linter.unusedVariables false
abbrev TabW (w : World) : Prop := Lib.TabIs Tryd.prog w "internal/strconv.uint64pow10" .u64 Lib.pow10Tab ∧ ErrW w 0 ∧ ErrW w 1 ∧ IntW w 2 .i64
theorem tabW_sep {w w' : World} {L : List Go.Eng.Claim} (h : TabW w) (S : Sep w L w') : TabW w' := ⟨S.tab (g := 3) (by kernel_rfl) h.1, (h.2.1).sep S, (h.2.2.1).sep S, (h.2.2.2).sep S⟩
theorem Tryd.mixed : Tryd.prog.follows .mixedOrders = true := by kernel_rfl
def magF (n : Int) : Int := (n.natAbs : Int)
theorem mag_le (n : Int) (h : -9223372036854775808 ≤ n ∧ n ≤ 9223372036854775807) : 0 ≤ magF n ∧ magF n ≤ 9223372036854775808 ∧ (n = 0 ∨ 1 ≤ magF n) := by unfold magF; omega
theorem wrap_u64 (n : Int) : IntKind.wrap .u64 n = n % 18446744073709551616 := by simp [IntKind.wrap, IntKind.bits, IntKind.signed]
theorem hb40 : HasBody Tryd.prog 40 := fun _ _ => by kernel_rfl
noncomputable def K40_0 : List Item := adv 10 [] (bodyOf Tryd.f40)
noncomputable def K40_1 : List Item := adv 8 [true] K40_0
noncomputable def K40_2 : List Item := adv 8 [false] K40_0
set_option maxRecDepth 20000 in
set_option maxHeartbeats 20000000 in
theorem size_any (n : Int) (w : World) (hn : (-9223372036854775808) ≤ n ∧ n ≤ 9223372036854775807) : Ret Tryd.prog 40 #[.int .i64 n] w (fun v w' => v = .int .u64 (magF n) ∧ Sep w [] w') := by
 have S0 := Sep.refl w
 refine Ret.named fun R hR => ?_
 refine Ret.of_J (N := 10) [(0, .int .i64 n)] Tryd.func40 rfl rfl (Nat.le_of_ble_eq_true (by kernel_rfl)) (by kernel_rfl) ?_
 refine J.run 10 K40_0 [(4, .bool (decide (n < 0))), (0, .int .i64 n)] w (by kernel_rfl) ?_
 by_cases fk1 : n < 0
 ·skip
  refine J.head (.bool true) (congrArg Value.bool (decide_eq_true fk1)) ?_
  refine J.run 8 K40_1 [(2, .int .u64 (IntKind.wrap .u64 (0 - (IntKind.wrap .u64 n))))] w (by kernel_rfl) ?_
  refine J.ret Tryd.f40 [.int .u64 (IntKind.wrap .u64 (0 - (IntKind.wrap .u64 n)))] Tryd.func40 ⟨by kernel_rfl, trivial⟩ ?_
  refine hR _ _ ?_
  exact ⟨by rw [tup_one]; exact congrArg (Value.int .u64) (by (try simp only [wrap_u64]); unfold magF; omega), S0.nil⟩
 ·skip
  refine J.head (.bool false) (congrArg Value.bool (decide_eq_false fk1)) ?_
  refine J.run 8 K40_2 [(2, .int .u64 (IntKind.wrap .u64 n))] w (by kernel_rfl) ?_
  refine J.ret Tryd.f40 [.int .u64 (IntKind.wrap .u64 n)] Tryd.func40 ⟨by kernel_rfl, trivial⟩ ?_
  refine hR _ _ ?_
  exact ⟨by rw [tup_one]; exact congrArg (Value.int .u64) (by (try simp only [wrap_u64]); unfold magF; omega), S0.nil⟩

def parE (s : ByteArray) : Int := if 24 < s.size then 5 else if formL (ls s) then (if fitL (valL (ls s)) then 0 else 9) else 3
def parX (s : ByteArray) : Int := if parE s = 0 then valL (ls s) else 0
theorem par_bounds (s : ByteArray) : -9223372036854775808 ≤ parX s ∧ parX s ≤ 9223372036854775807 := by
  unfold parX
  split
  · rename_i h
    unfold parE at h
    split at h; · omega
    split at h
    · split at h
      · rename_i h1; simp only [fitL, Bool.and_eq_true, decide_eq_true_eq] at h1; exact h1
      · omega
    · omega
  · omega
theorem par_five {s : ByteArray} (h : 24 < s.size) : parX s = 0 ∧ parE s = 5 := by
  have e : parE s = 5 := by unfold parE; rw [if_pos h]
  exact ⟨by unfold parX; rw [if_neg (by omega)], e⟩
theorem par_three {s : ByteArray} (h : s.size ≤ 24) (hf : formL (ls s) = false) : parX s = 0 ∧ parE s = 3 := by
  have e : parE s = 3 := by unfold parE; rw [if_neg (by omega), if_neg (by rw [hf]; decide)]
  exact ⟨by unfold parX; rw [if_neg (by omega)], e⟩
theorem par_nine {s : ByteArray} (h : s.size ≤ 24) (hf : formL (ls s) = true) (hg : fitL (valL (ls s)) = false) : parX s = 0 ∧ parE s = 9 := by
  have e : parE s = 9 := by unfold parE; rw [if_neg (by omega), if_pos hf, if_neg (by rw [hg]; decide)]
  exact ⟨by unfold parX; rw [if_neg (by omega)], e⟩
theorem par_zero {s : ByteArray} (h : s.size ≤ 24) (hf : formL (ls s) = true) (hg : fitL (valL (ls s)) = true) : parX s = valL (ls s) ∧ parE s = 0 := by
  have e : parE s = 0 := by unfold parE; rw [if_neg (by omega), if_pos hf, if_pos hg]
  exact ⟨by unfold parX; rw [if_pos e], e⟩
theorem par_facts {s : ByteArray} (h : parE s = 0) : s.size ≤ 24 ∧ formL (ls s) = true ∧ fitL (valL (ls s)) = true ∧ parX s = valL (ls s) := by
  have hx : parX s = valL (ls s) := by unfold parX; rw [if_pos h]
  unfold parE at h
  split at h; · omega
  split at h
  · split at h
    · rename_i h1 h2 h3; exact ⟨by omega, h2, h3, hx⟩
    · omega
  · omega
theorem par_text {s : ByteArray} (h : parE s = 0) : itoaB (parX s) = s := by
  obtain ⟨_, h2, _, h4⟩ := par_facts h
  apply ls_inj
  rw [h4]; exact itoa_form h2
theorem text_par {n : Int} (h : -9223372036854775808 ≤ n ∧ n ≤ 9223372036854775807) : parE (itoaB n) = 0 ∧ parX (itoaB n) = n := by
  obtain ⟨f1, f2⟩ := form_itoa n
  have hz := itoaB_size h
  have e : ls (itoaB n) = Lib.itoa n := rfl
  obtain ⟨h1, h2⟩ := par_zero (s := itoaB n) (by omega) (by rw [e]; exact f1) (by rw [e, f2]; simp only [fitL, Bool.and_eq_true, decide_eq_true_eq]; exact h)
  exact ⟨h2, by rw [h1, e, f2]⟩
/-! the bytes of a text that may have a sign -/
theorem dig_minus {s : ByteArray} (h : s.size ≠ 0) (h2 : byteAt s 0 = 45) : ls (s.extract 1 s.size) = digL (ls s) ∧ negL (ls s) = true := by
  have hl := ls_length s
  rw [ls_extract, ← hl, List.take_length]
  cases hs : ls s with
  | nil => rw [hs] at hl; simp at hl; omega
  | cons c l =>
    rw [byteAt_ls, hs] at h2
    have hc : c = 45 := UInt8.toNat_inj.1 (by have h3 : ((c.toNat : Nat) : Int) = 45 := h2; have : (45 : UInt8).toNat = 45 := rfl; omega)
    subst hc
    exact ⟨rfl, rfl⟩
theorem dig_plain {s : ByteArray} (h : s.size = 0 ∨ byteAt s 0 ≠ 45) : ls s = digL (ls s) ∧ negL (ls s) = false := by
  have hl := ls_length s
  have hn : negL (ls s) = false := by
    cases hs : ls s with
    | nil => rfl
    | cons c l =>
      rcases h with h | h
      · rw [hs] at hl; simp at hl; omega
      · rw [byteAt_ls, hs] at h
        unfold negL
        rw [List.head?_cons, beq_eq_false_iff_ne]
        intro e
        have := Option.some.inj e; subst this
        exact h rfl
  exact ⟨(digL_pos hn).symm, hn⟩
theorem head_byte {d : ByteArray} {l : List UInt8} (hd : ls d = l) (h : d.size ≠ 0) (k : Nat) (hk : k < 256) : (l.head? == some (UInt8.ofNat k)) = decide (byteAt d 0 = k) := by
  have hl := ls_length d
  rw [byteAt_ls, hd]
  rw [hd] at hl
  cases l with
  | nil => simp at hl; omega
  | cons c l =>
    rw [List.head?_cons, Bool.eq_iff_iff, beq_iff_eq, decide_eq_true_eq]
    constructor
    · intro e
      have := Option.some.inj e; subst this
      show (((UInt8.ofNat k).toNat : Nat) : Int) = k
      rw [UInt8.toNat_ofNat']; omega
    · intro e
      have e2 : ((c.toNat : Nat) : Int) = k := e
      congr 1
      apply UInt8.toNat_inj.1
      rw [UInt8.toNat_ofNat']; omega
theorem head48 {d : ByteArray} {l : List UInt8} (hd : ls d = l) (h : d.size ≠ 0) : (l.head? == some 48) = decide (byteAt d 0 = 48) := head_byte hd h 48 (by omega)
theorem form_bad1 {s d : ByteArray} (hd : ls d = digL (ls s)) (h : d.size = 0 ∨ (byteAt d 0 = 48 ∧ 1 < s.size)) : formL (ls s) = false := by
  have hl := ls_length d
  have hsl := ls_length s
  unfold formL
  by_cases h0 : d.size = 0
  · rw [← hd, show ls d = [] from List.eq_nil_of_length_eq_zero (by omega)]; rfl
  · rcases h with h | ⟨h1, h2⟩
    · exact absurd h h0
    · rw [head48 hd h0, decide_eq_true h1, decide_eq_true (by omega)]; simp
theorem getD_dig {d : ByteArray} {i : Nat} (hi : i < d.size) : isDig ((ls d).getD i 0) = (decide (48 ≤ byteAt d i) && decide (byteAt d i ≤ 57)) := by
  rw [byteAt_ls]; unfold isDig
  rw [Bool.eq_iff_iff, Bool.and_eq_true, Bool.and_eq_true, decide_eq_true_eq, decide_eq_true_eq, decide_eq_true_eq, decide_eq_true_eq]; omega
theorem form_bad2 {s d : ByteArray} (hd : ls d = digL (ls s)) {i : Nat} (hi : i < d.size) (h : byteAt d i < 48 ∨ 57 < byteAt d i) : formL (ls s) = false := by
  have hl := ls_length d
  have hdig := getD_dig hi
  have hf : isDig ((ls d).getD i 0) = false := by
    rw [hdig, Bool.and_eq_false_iff, decide_eq_false_iff_not, decide_eq_false_iff_not]; omega
  have hall : (digL (ls s)).all isDig = false := by
    rw [← hd, List.all_eq_false]
    exact ⟨(ls d).getD i 0, by rw [List.getD_eq_getElem?_getD, List.getElem?_eq_getElem (by omega)]; exact List.getElem_mem _, by rw [hf]; simp⟩
  unfold formL; rw [hall, Bool.and_false, Bool.false_and]
theorem form_good {s d : ByteArray} (hd : ls d = digL (ls s)) (h : ¬ (d.size = 0) ∧ (¬ byteAt d 0 = 48 ∨ ¬ 1 < s.size)) (hq : ∀ j, j < d.size → 48 ≤ byteAt d j ∧ byteAt d j ≤ 57) : formL (ls s) = true := by
  have hl := ls_length d
  have hsl := ls_length s
  have hall : (digL (ls s)).all isDig = true := by
    rw [← hd, List.all_eq_true]
    intro c hc
    obtain ⟨j, hj, rfl⟩ := List.mem_iff_getElem.1 hc
    have h1 := getD_dig (d := d) (i := j) (by omega)
    rw [List.getD_eq_getElem?_getD, List.getElem?_eq_getElem hj, Option.getD_some] at h1
    rw [h1]; have := hq j (by omega)
    rw [decide_eq_true this.1, decide_eq_true this.2]; rfl
  have hne : (digL (ls s)).isEmpty = false := by
    rw [← hd, List.isEmpty_eq_false_iff]; intro e; rw [e] at hl; simp at hl; omega
  unfold formL
  rw [hall, hne]
  rw [head48 hd h.1]
  rcases h.2 with h2 | h2
  · rw [decide_eq_false (by simpa using h2)]; rfl
  · rw [decide_eq_false (show ¬ 1 < (ls s).length by omega), Bool.and_false]; rfl
theorem wrapU (n : Int) : IntKind.wrap .u64 n = n % 18446744073709551616 := by simp [IntKind.wrap, IntKind.bits, IntKind.signed]
theorem wrap_i64_neg {m : Int} (h : 0 < m ∧ m ≤ 9223372036854775808) : IntKind.wrap .i64 (18446744073709551616 - m) = -m := by
  have e : (18446744073709551616 - m) % 2 ^ 64 = 18446744073709551616 - m := by
    rw [show (2 : Int) ^ 64 = 18446744073709551616 by decide]; exact Int.emod_eq_of_lt (by omega) (by omega)
  simp only [IntKind.wrap, IntKind.bits, IntKind.signed, e, Bool.true_and]
  rw [show (2 : Int) ^ (64 - 1) = 9223372036854775808 by decide, show (2 : Int) ^ 64 = 18446744073709551616 by decide, if_pos (decide_eq_true (by omega))]
  omega
/-- a numeral of more than 19 digits is too great -/
theorem fit_long {s d : ByteArray} (hd : ls d = digL (ls s)) (hf : formL (ls s) = true) (h : 19 < d.size) : fitL (valL (ls s)) = false := by
  have hl := ls_length d
  obtain ⟨f1, f2, f3⟩ := canonL_facts (form_canon hf)
  have hbig : 10000000000000000000 ≤ decV (digL (ls s)) := by
    rw [← hd] at f1 f2 f3 ⊢
    cases hc : ls d with
    | nil => exact absurd hc f1
    | cons c l =>
      rw [hc] at f2 f3 hl
      have hne : c.toNat ≠ 48 := fun e => by
        have e2 : c = 48 := UInt8.toNat_inj.1 (by rw [e]; rfl)
        have := f3 (by rw [e2]; rfl)
        simp only [List.length_cons] at this hl; omega
      have := decV_pos (l := l) (c := c) f2 hne
      simp only [List.length_cons] at hl
      have h10 : 10 ^ 19 ≤ 10 ^ l.length := Nat.pow_le_pow_right (by decide) (by omega)
      have : (10 : Nat) ^ 19 = 10000000000000000000 := by decide
      omega
  unfold fitL valL
  split
  · rw [decide_eq_false (by omega)]; rfl
  · rw [decide_eq_false (show ¬ ((decV (digL (ls s)) : Int) ≤ 9223372036854775807) by omega), Bool.and_false]
theorem dg_step {q : Nat → Prop} {i : Int} (h0 : 0 ≤ i) (hq : ∀ k, k < i.toNat → q k) (h : q i.toNat) : ∀ k, k < (i + 1).toNat → q k := by
  intro k hk
  by_cases e : k = i.toNat
  · subst e; exact h
  · exact hq k (by omega)
theorem decV_take {d : ByteArray} {i : Int} (h0 : 0 ≤ i) (hi : i < (d.size : Int)) : (decV ((ls d).take (i + 1).toNat) : Int) = decV ((ls d).take i.toNat) * 10 + (((((ls d).getD i.toNat 0).toNat - 48 : Nat)) : Int) := by
  have hl := ls_length d
  rw [show (i + 1).toNat = i.toNat + 1 by omega, List.take_succ_eq_append_getElem (by omega)]
  rw [show decV ((ls d).take i.toNat ++ [(ls d)[i.toNat]]) = decV ((ls d).take i.toNat) * 10 + _ from foldV_snoc _ _ _]
  rw [List.getD_eq_getElem?_getD, List.getElem?_eq_getElem (by omega), Option.getD_some]
  omega
theorem take_bound {d : ByteArray} {n : Nat} (hq : ∀ j, j < d.size → 48 ≤ byteAt d j ∧ byteAt d j ≤ 57) (hn : n ≤ 19) : (decV ((ls d).take n) : Int) < 10000000000000000000 := by
  have hl := ls_length d
  have h1 := decV_lt (l := (ls d).take n) fun c hc => by
    obtain ⟨j, hj, rfl⟩ := List.mem_iff_getElem.1 (List.mem_of_mem_take hc)
    have h1 := getD_dig (d := d) (i := j) (by omega)
    rw [List.getD_eq_getElem?_getD, List.getElem?_eq_getElem hj, Option.getD_some] at h1
    rw [h1]; have := hq j (by omega)
    rw [decide_eq_true this.1, decide_eq_true this.2]; rfl
  have h2 : ((ls d).take n).length ≤ 19 := by rw [List.length_take]; omega
  have h3 : (10 : Nat) ^ ((ls d).take n).length ≤ 10 ^ 19 := Nat.pow_le_pow_right (by decide) h2
  have : (10 : Nat) ^ 19 = 10000000000000000000 := by decide
  omega
theorem take_all {d : ByteArray} {l : List UInt8} (hd : ls d = l) {i : Int} (h : (d.size : Int) ≤ i) : (decV ((ls d).take i.toNat) : Int) = decV l := by
  have hl := ls_length d
  rw [List.take_of_length_le (by omega), hd]
theorem fit_neg {l : List UInt8} {m : Int} (hn : negL l = true) (hm : m = decV (digL l)) : fitL (valL l) = decide (m ≤ 9223372036854775808) ∧ valL l = -m := by
  unfold valL; rw [if_pos hn, ← hm]
  refine ⟨?_, rfl⟩
  unfold fitL
  rw [Bool.eq_iff_iff, Bool.and_eq_true, decide_eq_true_eq, decide_eq_true_eq, decide_eq_true_eq]; omega
theorem fit_pos {l : List UInt8} {m : Int} (hn : negL l = false) (hm : m = decV (digL l)) : fitL (valL l) = decide (m < 9223372036854775808) ∧ valL l = m := by
  unfold valL; rw [hn, if_neg (by decide), ← hm]
  refine ⟨?_, rfl⟩
  unfold fitL
  rw [Bool.eq_iff_iff, Bool.and_eq_true, decide_eq_true_eq, decide_eq_true_eq, decide_eq_true_eq]; omega
/-! the text of a number, digit by digit -/
theorem text_first {m : Int} : Lib.decDigits m.toNat = Lib.decDigits m.toNat ++ ls ByteArray.empty := by rw [empty_ls, List.append_nil]
theorem text_round {m : Int} (h0 : 0 ≤ m) (h : ¬ m / 10 = 0) (s : ByteArray) : Lib.decDigits m.toNat ++ ls s = Lib.decDigits (m / 10).toNat ++ ls (bytesB [48 + m % 10] ++ s) := by
  rw [ls_append, bytesB_ls, Lib.decDigits, dif_neg (by omega), show (m / 10).toNat = m.toNat / 10 by omega, List.append_assoc]
  congr 3
  show UInt8.ofNat (48 + m.toNat % 10) = UInt8.ofNat (48 + m % 10).toNat
  congr 1; omega
theorem text_last {m : Int} (h0 : 0 ≤ m) (h : m / 10 = 0) (s : ByteArray) : Lib.decDigits m.toNat ++ ls s = ls (bytesB [48 + m % 10] ++ s) := by
  rw [ls_append, bytesB_ls, Lib.decDigits_one (by omega)]
  congr 2
  show UInt8.ofNat (48 + m.toNat) = UInt8.ofNat (48 + m % 10).toNat
  congr 1; omega
theorem text_size {m m0 : Int} {s : ByteArray} (hm : 0 ≤ m0 ∧ m0 ≤ 9223372036854775808) (h : Lib.decDigits m0.toNat = Lib.decDigits m.toNat ++ ls s) : s.size ≤ 20 := by
  have h1 := congrArg List.length h
  rw [List.length_append, ls_length, Lib.decDigits_length] at h1
  have := nDigits_le 18 m0.toNat (by rw [ten19]; omega)
  omega
theorem text_neg {n m : Int} {s : ByteArray} (hn : n < 0) (hm : m = -n) (h : Lib.decDigits m.toNat = ls s) : (⟨#[45]⟩ : ByteArray) ++ s = itoaB n := by
  apply ls_inj
  show ls _ = Lib.itoa n
  rw [ls_append, ← h]
  unfold Lib.itoa
  rw [if_pos hn, show n.natAbs = m.toNat by omega]; rfl
theorem text_pos {n m : Int} {s : ByteArray} (hn : ¬ n < 0) (hm : m = n) (h : Lib.decDigits m.toNat = ls s) : s = itoaB n := by
  apply ls_inj
  show ls _ = Lib.itoa n
  unfold Lib.itoa
  rw [if_neg hn, ← hm, h]

theorem hb17 : HasBody Tryd.prog 17 := fun _ _ => by kernel_rfl
theorem itoa_any (n : Int) (w : World) (hn : -9223372036854775808 ≤ n ∧ n ≤ 9223372036854775807) (hW : TabW w) : Ret Tryd.prog 17 #[.int .i64 n] w (fun v w' => v = .string (itoaB n) ∧ Sep w [] w') :=
  Ret.of_calls (Tryd.strconv_Itoa n hn.1 hn.2 w hW.1) fun w' ⟨k, os, e⟩ => ⟨rfl, by subst e; exact .of_grow _ _ _⟩
theorem hb26 : HasBody Tryd.prog 26 := fun _ _ => by kernel_rfl
theorem atoi_ok (s : ByteArray) (w : World) (hs : s.size ≤ 281474976710656) (h : formL (ls s) = true) (hf : fitL (valL (ls s)) = true) : Ret Tryd.prog 26 #[.string s] w (fun v w' => v = .tuple #[.int .i64 (valL (ls s)), .nilIface] ∧ Sep w [] w') :=
  Ret.of_calls (Tryd.strconv_Atoi_ok s (by omega) (valL (ls s)) (by rw [atoi_form h, if_pos hf]) w) fun w' hw => ⟨rfl, by rcases hw with rfl | ⟨t, rfl⟩; exact .refl _; exact .of_below (Lib.bytesWorld_below _ _ _)⟩
theorem atoi_big (s : ByteArray) (w : World) (hs : s.size ≤ 281474976710656) (h : formL (ls s) = true) (hf : fitL (valL (ls s)) = false) (hW : TabW w) : Ret Tryd.prog 26 #[.string s] w (fun v w' => ∃ N, v = .tuple #[.int .i64 (Lib.atoiSat (ls s)), .iface 77 (.pointer (some ⟨N, 0, none⟩))] ∧ Sep w [] w') := by
  obtain ⟨ev, hv, hev⟩ := hW.2.2.1
  exact Calls.mono (Tryd.strconv_Atoi_range s hs (by rw [atoi_form h, if_neg (by rw [hf]; decide)]) ev w hv hev) fun e w' ⟨N, he, _, _, hb⟩ => ⟨_, he, N, rfl, .of_below hb⟩
theorem hb28 : HasBody Tryd.prog 28 := fun _ _ => by kernel_rfl
noncomputable def K28_0 : List Item := adv 7 [] (bodyOf Tryd.f28)
noncomputable def K28_1 : List Item := adv 9 [] (popK K28_0)
noncomputable def K28_2 : List Item := adv 5 [] K28_1
noncomputable def K28_3 : List Item := adv 1 [] K28_2
noncomputable def K28_4 : List Item := adv 1 [] K28_3
noncomputable def K28_5 : List Item := adv 1 [] (popK (popK K28_4))
noncomputable def K28_6 : List Item := adv 6 [] (popK K28_5)
noncomputable def K28_7 : List Item := adv 7 [] K28_6
noncomputable def K28_8 : List Item := adv 8 [true] K28_7
noncomputable def K28_9 : List Item := adv 4 [true] K28_8
noncomputable def K28_10 : List Item := adv 2 [] (popK K28_9)
noncomputable def K28_11 : List Item := adv 7 [false] K28_8
set_option maxRecDepth 20000 in
set_option maxHeartbeats 20000000 in
theorem rtext_any (n : Int) (w : World) (hn : -9223372036854775808 ≤ n ∧ n ≤ 9223372036854775807) : Ret Tryd.prog 28 #[.int .i64 n] w (fun v w' => v = .string (itoaB n) ∧ Sep w [] w') := by
 have S0 := Sep.refl w
 refine Ret.named fun R hR => ?_
 refine Ret.of_J (N := 24) [(0, .int .i64 n)] Tryd.func28 rfl rfl (Nat.le_of_ble_eq_true (by kernel_rfl)) (by kernel_rfl) ?_
 have hmg : 0 ≤ magF n ∧ magF n ≤ 9223372036854775808 := by unfold magF; omega
 refine J.run 7 K28_0 [(5, .int .i64 n), (0, .int .i64 n)] w (by kernel_rfl) ?_
 have := mag_le n (by omega)
 refine J.callF 6 40 #[.int .i64 n] hb40 (by kernel_rfl) (size_any n _ (by omega)) ?_
 rintro _ w1 ⟨rfl, T1⟩
 have S1 : Sep w [] w1 := S0.trans T1
 clear T1
 refine J.run 9 K28_1 [(4, .string ByteArray.empty), (3, .int .u64 (magF n)), (0, .int .i64 n)] w1 (by kernel_rfl) ?_
 have L28_1 : ∀ (mm_ : Nat) (m : Int) (s : ByteArray) (w2 : World), (0 ≤ m ∧ m ≤ 9223372036854775808) → (Lib.decDigits (magF n).toNat = Lib.decDigits (m).toNat ++ ls s) → Sep w [] w2 → (m).toNat = mm_ → J Tryd.prog 28 24 R K28_1 [(4, .string s), (3, .int .u64 m), (0, .int .i64 n)] w2 := by
  intro mm1
  induction mm1 using Nat.strongRecOn with
  | _ mm1 ih1 =>
  intro m s w2 hm hd S2 hm1
  refine J.run 5 K28_2 [(8, .int .u64 (Int.tmod m 10)), (4, .string s), (3, .int .u64 m), (0, .int .i64 n)] w2 (by kernel_rfl) ?_
  refine J.head (.int .u64 (m % 10)) (congrArg (Value.int .u64) (IntWalk.rem_in _ _ (by omega))) ?_
  refine J.run 1 K28_3 [(9, .int .u64 (IntKind.wrap .u64 (48 + (m % 10)))), (4, .string s), (3, .int .u64 m), (0, .int .i64 n)] w2 (by kernel_rfl) ?_
  refine J.head (.int .u64 (48 + (m % 10))) (congrArg (Value.int .u64) (IntWalk.u64_in _ (by omega))) ?_
  refine J.run 1 K28_4 [(10, .int .u8 (IntKind.wrap .u8 (48 + (m % 10)))), (4, .string s), (3, .int .u64 m), (0, .int .i64 n)] w2 (by kernel_rfl) ?_
  refine J.head (.int .u8 (48 + (m % 10))) (congrArg (Value.int .u8) (IntWalk.u8_in _ (by omega))) ?_
  refine J.newSlice S2 11 1 [.int .u8 (48 + (m % 10))] 5 (by kernel_rfl) ?_
  intro b1 w3 S3
  refine J.ok (OK.bytes 12 24 9 (some ⟨b1, 0, none⟩) 1 1 ([(48 + (m % 10))]) (by kernel_rfl) (by kernel_rfl) ⟨rfl, box_cells (S3.nth 0 rfl)⟩ (fun p hp => by cases hp; rfl)) ?_
  refine J.run 1 K28_5 [(13, .string s), (12, .string (bytesB ([(48 + (m % 10))]))), (3, .int .u64 m), (0, .int .i64 n)] w3 (by kernel_rfl) ?_
  refine J.ok (OK.cat 14 (bytesB ([(48 + (m % 10))])) s ((bytesB ([(48 + (m % 10))])) ++ s) (by kernel_rfl) (by first | omega | (have := text_size (m0 := magF n) ⟨by unfold magF; omega, by unfold magF; omega⟩ hd; (try simp only [ByteArray.size_append, bytesB_size, lit_size, List.size_toArray, List.length_cons, List.length_nil]); omega)) (rfl)) ?_
  refine J.run 6 K28_6 [(16, .int .u64 (IntKind.wrap .u64 (Int.tdiv m 10))), (4, .string ((bytesB ([(48 + (m % 10))])) ++ s)), (0, .int .i64 n)] w3 (by kernel_rfl) ?_
  refine J.head (.int .u64 (m / 10)) (congrArg (Value.int .u64) (IntWalk.u64_quo _ _ (by omega))) ?_
  refine J.run 7 K28_7 [(18, .bool ((m / 10) == 0)), (3, .int .u64 (m / 10)), (4, .string ((bytesB ([(48 + (m % 10))])) ++ s)), (0, .int .i64 n)] w3 (by kernel_rfl) ?_
  by_cases fk1 : (m / 10) = 0
  ·skip
   refine J.head (.bool true) (congrArg Value.bool (beq_iff_eq.2 fk1)) ?_
   refine J.run 8 K28_8 [(20, .bool (decide (n < 0))), (4, .string ((bytesB ([(48 + (m % 10))])) ++ s))] w3 (by kernel_rfl) ?_
   by_cases fk2 : n < 0
   ·skip
    refine J.head (.bool true) (congrArg Value.bool (decide_eq_true fk2)) ?_
    refine J.run 4 K28_9 [(21, .string ((bytesB ([(48 + (m % 10))])) ++ s))] w3 (by kernel_rfl) ?_
    refine J.ok (OK.cat 22 (⟨#[45]⟩ : ByteArray) ((bytesB ([(48 + (m % 10))])) ++ s) ((⟨#[45]⟩ : ByteArray) ++ ((bytesB ([(48 + (m % 10))])) ++ s)) (by kernel_rfl) (by first | omega | (have := text_size (m0 := magF n) ⟨by unfold magF; omega, by unfold magF; omega⟩ hd; (try simp only [ByteArray.size_append, bytesB_size, lit_size, List.size_toArray, List.length_cons, List.length_nil]); omega)) (rfl)) ?_
    refine J.run 2 K28_10 [(2, .string ((⟨#[45]⟩ : ByteArray) ++ ((bytesB ([(48 + (m % 10))])) ++ s)))] w3 (by kernel_rfl) ?_
    refine J.ret Tryd.f28 [.string ((⟨#[45]⟩ : ByteArray) ++ ((bytesB ([(48 + (m % 10))])) ++ s))] Tryd.func28 ⟨by kernel_rfl, trivial⟩ ?_
    refine hR _ _ ?_
    have he := hd.trans (text_last (by omega) (by omega) s)
    exact ⟨congrArg Value.string (by first | exact text_neg (by omega) (by unfold magF; omega) he | exact text_pos (by omega) (by unfold magF; omega) he), S3.nil⟩
   ·skip
    refine J.head (.bool false) (congrArg Value.bool (decide_eq_false fk2)) ?_
    refine J.run 7 K28_11 [(2, .string ((bytesB ([(48 + (m % 10))])) ++ s))] w3 (by kernel_rfl) ?_
    refine J.ret Tryd.f28 [.string ((bytesB ([(48 + (m % 10))])) ++ s)] Tryd.func28 ⟨by kernel_rfl, trivial⟩ ?_
    refine hR _ _ ?_
    have he := hd.trans (text_last (by omega) (by omega) s)
    exact ⟨congrArg Value.string (by first | exact text_neg (by omega) (by unfold magF; omega) he | exact text_pos (by omega) (by unfold magF; omega) he), S3.nil⟩
  ·skip
   refine J.head (.bool false) (congrArg Value.bool (beq_eq_false_iff_ne.2 fk1)) ?_
   refine J.run 4 K28_1 [(3, .int .u64 (m / 10)), (4, .string ((bytesB ([(48 + (m % 10))])) ++ s)), (0, .int .i64 n)] w3 (by kernel_rfl) ?_
   have S4 : Sep w [] w3 := S3.erase 0
   clear S3
   refine J.run 0 K28_1 [(4, .string ((bytesB ([(48 + (m % 10))])) ++ s)), (3, .int .u64 (m / 10)), (0, .int .i64 n)] w3 (by kernel_rfl) ?_
   exact ih1 _ (show ((m / 10)).toNat < mm1 from by omega) (m / 10) ((bytesB ([(48 + (m % 10))])) ++ s) w3 (by omega) (hd.trans (text_round (by omega) (by omega) s)) S4 rfl
 exact L28_1 _ (magF n) (ByteArray.empty : ByteArray) w1 (by omega) (text_first) S1 rfl

theorem hb30 : HasBody Tryd.prog 30 := fun _ _ => by kernel_rfl
noncomputable def K30_0 : List Item := adv 12 [] (bodyOf Tryd.f30)
noncomputable def K30_1 : List Item := adv 6 [true] K30_0
noncomputable def K30_2 : List Item := adv 8 [false] K30_0
noncomputable def K30_3 : List Item := adv 1 [] K30_2
noncomputable def K30_4 : List Item := adv 14 [] (popK K30_3)
noncomputable def K30_5 : List Item := List.drop 1 K30_4
noncomputable def K30_6 : List Item := adv 7 [] K30_5
noncomputable def K30_7 : List Item := adv 19 [true] K30_6
noncomputable def K30_8 : List Item := adv 1 [] K30_6
noncomputable def K30_9 : List Item := adv 2 [] (popK K30_8)
noncomputable def K30_10 : List Item := adv 2 [] K30_9
noncomputable def K30_11 : List Item := adv 13 [true] K30_10
noncomputable def K30_12 : List Item := adv 7 [] K30_10
noncomputable def K30_13 : List Item := adv 6 [true] K30_12
noncomputable def K30_14 : List Item := adv 9 [false] K30_12
noncomputable def K30_15 : List Item := adv 8 [] K30_14
noncomputable def K30_16 : List Item := adv 8 [true] K30_15
noncomputable def K30_17 : List Item := adv 2 [] (popK K30_16)
noncomputable def K30_18 : List Item := adv 12 [true] K30_17
noncomputable def K30_19 : List Item := adv 2 [] K30_17
noncomputable def K30_20 : List Item := adv 3 [] (popK K30_19)
noncomputable def K30_21 : List Item := adv 6 [true] K30_20
noncomputable def K30_22 : List Item := adv 6 [false] K30_20
noncomputable def K30_23 : List Item := adv 9 [false] K30_15
noncomputable def K30_24 : List Item := adv 6 [true] K30_23
noncomputable def K30_25 : List Item := adv 13 [false] K30_23
noncomputable def K30_26 : List Item := adv 8 [] K30_25
noncomputable def K30_27 : List Item := adv 7 [true] K30_26
noncomputable def K30_28 : List Item := adv 2 [] K30_27
noncomputable def K30_29 : List Item := adv 1 [] (popK K30_28)
noncomputable def K30_30 : List Item := adv 1 [] K30_29
noncomputable def K30_31 : List Item := adv 1 [] K30_30
noncomputable def K30_32 : List Item := adv 6 [] K30_31
noncomputable def K30_33 : List Item := adv 7 [false] K30_26
noncomputable def K30_34 : List Item := adv 12 [false] K30_33
noncomputable def K30_35 : List Item := adv 4 [] K30_34
noncomputable def K30_36 : List Item := adv 5 [true] K30_35
noncomputable def K30_37 : List Item := adv 3 [] K30_36
noncomputable def K30_38 : List Item := adv 7 [false] K30_35
noncomputable def K30_39 : List Item := adv 18 [false] K30_9
noncomputable def K30_40 : List Item := adv 8 [] K30_39
noncomputable def K30_41 : List Item := adv 8 [true] K30_40
noncomputable def K30_42 : List Item := adv 2 [] (popK K30_41)
noncomputable def K30_43 : List Item := adv 12 [true] K30_42
noncomputable def K30_44 : List Item := adv 2 [] K30_42
noncomputable def K30_45 : List Item := adv 3 [] (popK K30_44)
noncomputable def K30_46 : List Item := adv 6 [true] K30_45
noncomputable def K30_47 : List Item := adv 6 [false] K30_45
noncomputable def K30_48 : List Item := adv 9 [false] K30_40
noncomputable def K30_49 : List Item := adv 6 [true] K30_48
noncomputable def K30_50 : List Item := adv 13 [false] K30_48
noncomputable def K30_51 : List Item := adv 8 [] K30_50
noncomputable def K30_52 : List Item := adv 7 [true] K30_51
noncomputable def K30_53 : List Item := adv 2 [] K30_52
noncomputable def K30_54 : List Item := adv 1 [] (popK K30_53)
noncomputable def K30_55 : List Item := adv 1 [] K30_54
noncomputable def K30_56 : List Item := adv 1 [] K30_55
noncomputable def K30_57 : List Item := adv 6 [] K30_56
noncomputable def K30_58 : List Item := adv 7 [false] K30_51
noncomputable def K30_59 : List Item := adv 4 [] K30_58
noncomputable def K30_60 : List Item := adv 5 [true] K30_59
noncomputable def K30_61 : List Item := adv 1 [] K30_60
noncomputable def K30_62 : List Item := adv 3 [] K30_61
noncomputable def K30_63 : List Item := adv 8 [false] K30_59
noncomputable def K30_64 : List Item := adv 11 [false] K30_63
noncomputable def K30_65 : List Item := adv 12 [false] K30_58
noncomputable def K30_66 : List Item := adv 4 [] K30_65
noncomputable def K30_67 : List Item := adv 5 [true] K30_66
noncomputable def K30_68 : List Item := adv 3 [] K30_67
noncomputable def K30_69 : List Item := adv 7 [false] K30_66
noncomputable def K30_70 : List Item := adv 3 [true] K30_4
noncomputable def K30_71 : List Item := adv 2 [] (popK K30_70)
noncomputable def K30_72 : List Item := adv 2 [false] K30_4
noncomputable def K30_73 : List Item := adv 16 [] K30_2
noncomputable def K30_74 : List Item := List.drop 1 K30_73
noncomputable def K30_75 : List Item := adv 7 [] K30_74
noncomputable def K30_76 : List Item := adv 19 [true] K30_75
noncomputable def K30_77 : List Item := adv 1 [] K30_75
noncomputable def K30_78 : List Item := adv 2 [] (popK K30_77)
noncomputable def K30_79 : List Item := adv 2 [] K30_78
noncomputable def K30_80 : List Item := adv 13 [true] K30_79
noncomputable def K30_81 : List Item := adv 7 [] K30_79
noncomputable def K30_82 : List Item := adv 6 [true] K30_81
noncomputable def K30_83 : List Item := adv 9 [false] K30_81
noncomputable def K30_84 : List Item := adv 8 [] K30_83
noncomputable def K30_85 : List Item := adv 8 [true] K30_84
noncomputable def K30_86 : List Item := adv 2 [] (popK K30_85)
noncomputable def K30_87 : List Item := adv 12 [true] K30_86
noncomputable def K30_88 : List Item := adv 2 [] K30_86
noncomputable def K30_89 : List Item := adv 3 [] (popK K30_88)
noncomputable def K30_90 : List Item := adv 6 [true] K30_89
noncomputable def K30_91 : List Item := adv 6 [false] K30_89
noncomputable def K30_92 : List Item := adv 9 [false] K30_84
noncomputable def K30_93 : List Item := adv 6 [true] K30_92
noncomputable def K30_94 : List Item := adv 13 [false] K30_92
noncomputable def K30_95 : List Item := adv 8 [] K30_94
noncomputable def K30_96 : List Item := adv 7 [true] K30_95
noncomputable def K30_97 : List Item := adv 2 [] K30_96
noncomputable def K30_98 : List Item := adv 1 [] (popK K30_97)
noncomputable def K30_99 : List Item := adv 1 [] K30_98
noncomputable def K30_100 : List Item := adv 1 [] K30_99
noncomputable def K30_101 : List Item := adv 6 [] K30_100
noncomputable def K30_102 : List Item := adv 7 [false] K30_95
noncomputable def K30_103 : List Item := adv 12 [false] K30_102
noncomputable def K30_104 : List Item := adv 4 [] K30_103
noncomputable def K30_105 : List Item := adv 5 [true] K30_104
noncomputable def K30_106 : List Item := adv 3 [] K30_105
noncomputable def K30_107 : List Item := adv 7 [false] K30_104
noncomputable def K30_108 : List Item := adv 18 [false] K30_78
noncomputable def K30_109 : List Item := adv 8 [] K30_108
noncomputable def K30_110 : List Item := adv 8 [true] K30_109
noncomputable def K30_111 : List Item := adv 2 [] (popK K30_110)
noncomputable def K30_112 : List Item := adv 12 [true] K30_111
noncomputable def K30_113 : List Item := adv 2 [] K30_111
noncomputable def K30_114 : List Item := adv 3 [] (popK K30_113)
noncomputable def K30_115 : List Item := adv 6 [true] K30_114
noncomputable def K30_116 : List Item := adv 6 [false] K30_114
noncomputable def K30_117 : List Item := adv 9 [false] K30_109
noncomputable def K30_118 : List Item := adv 6 [true] K30_117
noncomputable def K30_119 : List Item := adv 13 [false] K30_117
noncomputable def K30_120 : List Item := adv 8 [] K30_119
noncomputable def K30_121 : List Item := adv 7 [true] K30_120
noncomputable def K30_122 : List Item := adv 2 [] K30_121
noncomputable def K30_123 : List Item := adv 1 [] (popK K30_122)
noncomputable def K30_124 : List Item := adv 1 [] K30_123
noncomputable def K30_125 : List Item := adv 1 [] K30_124
noncomputable def K30_126 : List Item := adv 6 [] K30_125
noncomputable def K30_127 : List Item := adv 7 [false] K30_120
noncomputable def K30_128 : List Item := adv 4 [] K30_127
noncomputable def K30_129 : List Item := adv 5 [true] K30_128
noncomputable def K30_130 : List Item := adv 1 [] K30_129
noncomputable def K30_131 : List Item := adv 3 [] K30_130
noncomputable def K30_132 : List Item := adv 8 [false] K30_128
noncomputable def K30_133 : List Item := adv 11 [false] K30_132
noncomputable def K30_134 : List Item := adv 12 [false] K30_127
noncomputable def K30_135 : List Item := adv 4 [] K30_134
noncomputable def K30_136 : List Item := adv 5 [true] K30_135
noncomputable def K30_137 : List Item := adv 3 [] K30_136
noncomputable def K30_138 : List Item := adv 7 [false] K30_135
set_option maxRecDepth 20000 in
set_option maxHeartbeats 20000000 in
theorem rparse_any (s : ByteArray) (w : World) (hs : s.size ≤ 281474976710656) : Ret Tryd.prog 30 #[.string s] w (fun v w' => v = .tuple #[.int .i64 (parX s), .int .i64 (parE s)] ∧ Sep w [] w') := by
 have S0 := Sep.refl w
 refine Ret.named fun R hR => ?_
 refine Ret.of_J (N := 89) [(0, .string s)] Tryd.func30 rfl rfl (Nat.le_of_ble_eq_true (by kernel_rfl)) (by kernel_rfl) ?_
 refine J.run 12 K30_0 [(11, .bool (decide ((s.size : Int) > 24))), (0, .string s)] w (by kernel_rfl) ?_
 by_cases fk1 : (s.size : Int) > 24
 ·skip
  refine J.head (.bool true) (congrArg Value.bool (decide_eq_true fk1)) ?_
  refine J.run 6 K30_1 [(3, .int .i64 5), (2, .int .i64 0)] w (by kernel_rfl) ?_
  refine J.ret Tryd.f30 [.int .i64 0, .int .i64 5] Tryd.func30 ⟨by kernel_rfl, by kernel_rfl, trivial⟩ ?_
  refine hR _ _ ?_
  obtain ⟨e1, e2⟩ := par_five (s := s) (by omega)
  exact ⟨by rw [tup_two, e1, e2], S0.nil⟩
 ·skip
  refine J.head (.bool false) (congrArg Value.bool (decide_eq_false fk1)) ?_
  refine J.run 8 K30_2 [(15, .bool (decide ((s.size : Int) > 0))), (0, .string s)] w (by kernel_rfl) ?_
  by_cases fk2 : (s.size : Int) > 0
  ·skip
   refine J.head (.bool true) (congrArg Value.bool (decide_eq_true fk2)) ?_
   refine J.run 1 K30_3 [(16, .string s), (15, .bool true), (0, .string s)] w (by kernel_rfl) ?_
   have := byteAt_bounds s 0
   refine J.ok (OK.byte 17 9 s (0 : Int) (byteAt s 0) (by kernel_rfl) (by kernel_rfl) (by omega) (by omega) (rfl)) ?_
   refine J.run 14 K30_4 [(21, .bool ((byteAt s 0) == 45)), (5, .string s), (4, .bool ((byteAt s 0) == 45)), (0, .string s)] w (by kernel_rfl) ?_
   have X1 : ∀ (d : ByteArray) (mn : Bool) (w1 : World), (ls d = digL (ls s)) → ((d).size ≤ s.size) → (mn = false → s.size = (d).size) → (mn = true → s.size = (d).size + 1) → (mn = negL (ls s)) → Sep w [] w1 → J Tryd.prog 30 89 R K30_5 [(5, .string d), (4, .bool mn)] w1 := by
    intro d mn w1 hd hds hmf hms hmn S1
    refine J.run 7 K30_6 [(27, .bool ((d.size : Int) == 0)), (5, .string d), (4, .bool mn)] w1 (by kernel_rfl) ?_
    by_cases fk3 : (d.size : Int) = 0
    ·skip
     refine J.head (.bool true) (congrArg Value.bool (beq_iff_eq.2 fk3)) ?_
     refine J.run 19 K30_7 [(3, .int .i64 3), (2, .int .i64 0)] w1 (by kernel_rfl) ?_
     refine J.ret Tryd.f30 [.int .i64 0, .int .i64 3] Tryd.func30 ⟨by kernel_rfl, by kernel_rfl, trivial⟩ ?_
     refine hR _ _ ?_
     obtain ⟨e1, e2⟩ := par_three (s := s) (by omega) (by first | exact form_bad1 hd (by omega) | exact form_bad2 hd (i := i.toNat) (by omega) (by omega))
     exact ⟨by rw [tup_two, e1, e2], S1.nil⟩
    ·skip
     refine J.head (.bool false) (congrArg Value.bool (beq_eq_false_iff_ne.2 fk3)) ?_
     refine J.run 1 K30_8 [(28, .string d), (27, .bool false), (5, .string d), (4, .bool mn)] w1 (by kernel_rfl) ?_
     have := byteAt_bounds d 0
     refine J.ok (OK.byte 29 9 d (0 : Int) (byteAt d 0) (by kernel_rfl) (by kernel_rfl) (by omega) (by omega) (rfl)) ?_
     refine J.run 2 K30_9 [(31, .bool ((byteAt d 0) == 48)), (27, .bool false), (5, .string d), (4, .bool mn)] w1 (by kernel_rfl) ?_
     by_cases fk4 : (byteAt d 0) = 48
     ·skip
      refine J.head (.bool true) (congrArg Value.bool (beq_iff_eq.2 fk4)) ?_
      refine J.run 2 K30_10 [(33, .bool mn), (31, .bool true), (27, .bool false), (5, .string d), (4, .bool mn)] w1 (by kernel_rfl) ?_
      rcases Bool.eq_false_or_eq_true mn with fk5 | fk5
      ·skip
       refine J.head (.bool true) (congrArg Value.bool fk5) ?_
       have hms2 := hms fk5
       refine J.run 13 K30_11 [(3, .int .i64 3), (2, .int .i64 0)] w1 (by kernel_rfl) ?_
       refine J.ret Tryd.f30 [.int .i64 0, .int .i64 3] Tryd.func30 ⟨by kernel_rfl, by kernel_rfl, trivial⟩ ?_
       refine hR _ _ ?_
       obtain ⟨e1, e2⟩ := par_three (s := s) (by omega) (by first | exact form_bad1 hd (by omega) | exact form_bad2 hd (i := i.toNat) (by omega) (by omega))
       exact ⟨by rw [tup_two, e1, e2], S1.nil⟩
      ·skip
       refine J.head (.bool false) (congrArg Value.bool fk5) ?_
       have hmf2 := hmf fk5
       refine J.run 7 K30_12 [(39, .bool (decide ((d.size : Int) > 1))), (5, .string d), (4, .bool mn)] w1 (by kernel_rfl) ?_
       by_cases fk6 : (d.size : Int) > 1
       ·skip
        refine J.head (.bool true) (congrArg Value.bool (decide_eq_true fk6)) ?_
        refine J.run 6 K30_13 [(3, .int .i64 3), (2, .int .i64 0)] w1 (by kernel_rfl) ?_
        refine J.ret Tryd.f30 [.int .i64 0, .int .i64 3] Tryd.func30 ⟨by kernel_rfl, by kernel_rfl, trivial⟩ ?_
        refine hR _ _ ?_
        obtain ⟨e1, e2⟩ := par_three (s := s) (by omega) (by first | exact form_bad1 hd (by omega) | exact form_bad2 hd (i := i.toNat) (by omega) (by omega))
        exact ⟨by rw [tup_two, e1, e2], S1.nil⟩
       ·skip
        refine J.head (.bool false) (congrArg Value.bool (decide_eq_false fk6)) ?_
        refine J.run 9 K30_14 [(6, .int .i64 0), (5, .string d), (4, .bool mn)] w1 (by kernel_rfl) ?_
        have L30_1 : ∀ (mm_ : Nat) (i : Int) (w2 : World), (0 ≤ i) → (i ≤ (d.size : Int)) → (∀ j, j < (i).toNat → 48 ≤ byteAt d j ∧ byteAt d j ≤ 57) → Sep w [] w2 → ((d.size : Int) - i).toNat = mm_ → J Tryd.prog 30 89 R K30_14 [(6, .int .i64 i), (5, .string d), (4, .bool mn)] w2 := by
         intro mm1
         induction mm1 using Nat.strongRecOn with
         | _ mm1 ih1 =>
         intro i w2 h0 h1 hq S2 hm1
         refine J.run 8 K30_15 [(43, .bool (decide (i < (d.size : Int)))), (6, .int .i64 i), (5, .string d), (4, .bool mn)] w2 (by kernel_rfl) ?_
         by_cases fk7 : i < (d.size : Int)
         ·skip
          refine J.head (.bool true) (congrArg Value.bool (decide_eq_true fk7)) ?_
          refine J.run 8 K30_16 [(47, .int .i64 i), (46, .string d), (6, .int .i64 i), (5, .string d), (4, .bool mn)] w2 (by kernel_rfl) ?_
          have := byteAt_bounds d (i).toNat
          refine J.ok (OK.byte 48 9 d i (byteAt d (i).toNat) (by kernel_rfl) (by kernel_rfl) (by omega) (by omega) (rfl)) ?_
          refine J.run 2 K30_17 [(50, .bool (decide ((byteAt d (i).toNat) < 48))), (6, .int .i64 i), (5, .string d), (4, .bool mn)] w2 (by kernel_rfl) ?_
          by_cases fk8 : (byteAt d (i).toNat) < 48
          ·skip
           refine J.head (.bool true) (congrArg Value.bool (decide_eq_true fk8)) ?_
           refine J.run 12 K30_18 [(3, .int .i64 3), (2, .int .i64 0)] w2 (by kernel_rfl) ?_
           refine J.ret Tryd.f30 [.int .i64 0, .int .i64 3] Tryd.func30 ⟨by kernel_rfl, by kernel_rfl, trivial⟩ ?_
           refine hR _ _ ?_
           obtain ⟨e1, e2⟩ := par_three (s := s) (by omega) (by first | exact form_bad1 hd (by omega) | exact form_bad2 hd (i := i.toNat) (by omega) (by omega))
           exact ⟨by rw [tup_two, e1, e2], S2.nil⟩
          ·skip
           refine J.head (.bool false) (congrArg Value.bool (decide_eq_false fk8)) ?_
           refine J.run 2 K30_19 [(52, .int .i64 i), (51, .string d), (50, .bool false), (6, .int .i64 i), (5, .string d), (4, .bool mn)] w2 (by kernel_rfl) ?_
           have := byteAt_bounds d (i).toNat
           refine J.ok (OK.byte 53 9 d i (byteAt d (i).toNat) (by kernel_rfl) (by kernel_rfl) (by omega) (by omega) (rfl)) ?_
           refine J.run 3 K30_20 [(55, .bool (decide ((byteAt d (i).toNat) > 57))), (6, .int .i64 i), (5, .string d), (4, .bool mn)] w2 (by kernel_rfl) ?_
           by_cases fk9 : (byteAt d (i).toNat) > 57
           ·skip
            refine J.head (.bool true) (congrArg Value.bool (decide_eq_true fk9)) ?_
            refine J.run 6 K30_21 [(3, .int .i64 3), (2, .int .i64 0)] w2 (by kernel_rfl) ?_
            refine J.ret Tryd.f30 [.int .i64 0, .int .i64 3] Tryd.func30 ⟨by kernel_rfl, by kernel_rfl, trivial⟩ ?_
            refine hR _ _ ?_
            obtain ⟨e1, e2⟩ := par_three (s := s) (by omega) (by first | exact form_bad1 hd (by omega) | exact form_bad2 hd (i := i.toNat) (by omega) (by omega))
            exact ⟨by rw [tup_two, e1, e2], S2.nil⟩
           ·skip
            refine J.head (.bool false) (congrArg Value.bool (decide_eq_false fk9)) ?_
            refine J.run 6 K30_22 [(45, .int .i64 (IntKind.wrap .i64 (i + 1))), (5, .string d), (4, .bool mn)] w2 (by kernel_rfl) ?_
            refine J.head (.int .i64 (i + 1)) (congrArg (Value.int .i64) (IntWalk.i64_in _ (by omega))) ?_
            refine J.run 3 K30_14 [(6, .int .i64 (i + 1)), (5, .string d), (4, .bool mn)] w2 (by kernel_rfl) ?_
            refine J.run 0 K30_14 [(6, .int .i64 (i + 1)), (5, .string d), (4, .bool mn)] w2 (by kernel_rfl) ?_
            exact ih1 _ (show ((d.size : Int) - (i + 1)).toNat < mm1 from by omega) (i + 1) w2 (by omega) (by omega) (dg_step (q := fun j => 48 ≤ byteAt d j ∧ byteAt d j ≤ 57) h0 hq (by omega)) S2 rfl
         ·skip
          refine J.head (.bool false) (congrArg Value.bool (decide_eq_false fk7)) ?_
          have hqd : ∀ j, j < d.size → 48 ≤ byteAt d j ∧ byteAt d j ≤ 57 := fun j hj => hq j (by omega)
          have hf := form_good hd ⟨by omega, by omega⟩ hqd
          refine J.run 9 K30_23 [(58, .bool (decide ((d.size : Int) > 19))), (5, .string d), (4, .bool mn)] w2 (by kernel_rfl) ?_
          by_cases fk10 : (d.size : Int) > 19
          ·skip
           refine J.head (.bool true) (congrArg Value.bool (decide_eq_true fk10)) ?_
           refine J.run 6 K30_24 [(3, .int .i64 9), (2, .int .i64 0)] w2 (by kernel_rfl) ?_
           refine J.ret Tryd.f30 [.int .i64 0, .int .i64 9] Tryd.func30 ⟨by kernel_rfl, by kernel_rfl, trivial⟩ ?_
           refine hR _ _ ?_
           obtain ⟨e1, e2⟩ := par_nine (s := s) (by omega) hf (by first | exact fit_long hd hf (by omega) | (rw [(fit_neg (m := m) (hmn.symm.trans fk5) (hmd (by omega))).1]; exact decide_eq_false (by omega)) | (rw [(fit_pos (m := m) (hmn.symm.trans fk5) (hmd (by omega))).1]; exact decide_eq_false (by omega)))
           exact ⟨by rw [tup_two, e1, e2], S2.nil⟩
          ·skip
           refine J.head (.bool false) (congrArg Value.bool (decide_eq_false fk10)) ?_
           refine J.run 13 K30_25 [(8, .int .i64 0), (7, .int .u64 0), (5, .string d), (4, .bool mn)] w2 (by kernel_rfl) ?_
           have L30_2 : ∀ (mm_ : Nat) (m : Int) (k : Int) (w3 : World), (0 ≤ k) → (k ≤ (d.size : Int)) → (m = (decV ((ls d).take (k).toNat) : Int)) → Sep w [] w3 → ((d.size : Int) - k).toNat = mm_ → J Tryd.prog 30 89 R K30_25 [(8, .int .i64 k), (7, .int .u64 m), (5, .string d), (4, .bool mn)] w3 := by
            intro mm2
            induction mm2 using Nat.strongRecOn with
            | _ mm2 ih2 =>
            intro m k w3 k0 k1 hm S3 hm2
            have hb0 := take_bound (d := d) (n := k.toNat) hqd (by omega)
            have hmd : (d.size : Int) ≤ k → m = (decV (digL (ls s)) : Int) := fun h_ => hm.trans (take_all hd h_)
            refine J.run 8 K30_26 [(62, .bool (decide (k < (d.size : Int)))), (8, .int .i64 k), (7, .int .u64 m), (5, .string d), (4, .bool mn)] w3 (by kernel_rfl) ?_
            by_cases fk11 : k < (d.size : Int)
            ·skip
             refine J.head (.bool true) (congrArg Value.bool (decide_eq_true fk11)) ?_
             have hb1 := decV_take (d := d) k0 (by omega)
             have hb2 := take_bound (d := d) (n := (k + 1).toNat) hqd (by omega)
             have hb3 := hqd k.toNat (by omega)
             have hb4 := byteAt_ls d k.toNat
             refine J.run 7 K30_27 [(66, .int .u64 (IntKind.wrap .u64 (10 * m))), (8, .int .i64 k), (5, .string d), (4, .bool mn)] w3 (by kernel_rfl) ?_
             refine J.head (.int .u64 (10 * m)) (congrArg (Value.int .u64) (IntWalk.u64_in _ (by omega))) ?_
             refine J.run 2 K30_28 [(68, .int .i64 k), (67, .string d), (66, .int .u64 (10 * m)), (8, .int .i64 k), (5, .string d), (4, .bool mn)] w3 (by kernel_rfl) ?_
             have := byteAt_bounds d (k).toNat
             refine J.ok (OK.byte 69 9 d k (byteAt d (k).toNat) (by kernel_rfl) (by kernel_rfl) (by omega) (by omega) (rfl)) ?_
             refine J.run 1 K30_29 [(70, .int .u8 (IntKind.wrap .u8 ((byteAt d (k).toNat) - 48))), (66, .int .u64 (10 * m)), (8, .int .i64 k), (5, .string d), (4, .bool mn)] w3 (by kernel_rfl) ?_
             refine J.head (.int .u8 ((byteAt d (k).toNat) - 48)) (congrArg (Value.int .u8) (IntWalk.u8_in _ (by omega))) ?_
             refine J.run 1 K30_30 [(71, .int .u64 (IntKind.wrap .u64 ((byteAt d (k).toNat) - 48))), (66, .int .u64 (10 * m)), (8, .int .i64 k), (5, .string d), (4, .bool mn)] w3 (by kernel_rfl) ?_
             refine J.head (.int .u64 ((byteAt d (k).toNat) - 48)) (congrArg (Value.int .u64) (IntWalk.u64_in _ (by omega))) ?_
             refine J.run 1 K30_31 [(72, .int .u64 (IntKind.wrap .u64 ((10 * m) + ((byteAt d (k).toNat) - 48)))), (8, .int .i64 k), (5, .string d), (4, .bool mn)] w3 (by kernel_rfl) ?_
             refine J.head (.int .u64 ((10 * m) + ((byteAt d (k).toNat) - 48))) (congrArg (Value.int .u64) (IntWalk.u64_in _ (by omega))) ?_
             refine J.run 6 K30_32 [(64, .int .i64 (IntKind.wrap .i64 (k + 1))), (7, .int .u64 ((10 * m) + ((byteAt d (k).toNat) - 48))), (5, .string d), (4, .bool mn)] w3 (by kernel_rfl) ?_
             refine J.head (.int .i64 (k + 1)) (congrArg (Value.int .i64) (IntWalk.i64_in _ (by omega))) ?_
             refine J.run 3 K30_25 [(8, .int .i64 (k + 1)), (7, .int .u64 ((10 * m) + ((byteAt d (k).toNat) - 48))), (5, .string d), (4, .bool mn)] w3 (by kernel_rfl) ?_
             refine J.run 0 K30_25 [(8, .int .i64 (k + 1)), (7, .int .u64 ((10 * m) + ((byteAt d (k).toNat) - 48))), (5, .string d), (4, .bool mn)] w3 (by kernel_rfl) ?_
             exact ih2 _ (show ((d.size : Int) - (k + 1)).toNat < mm2 from by omega) ((10 * m) + ((byteAt d (k).toNat) - 48)) (k + 1) w3 (by omega) (by omega) (by omega) S3 rfl
            ·skip
             refine J.head (.bool false) (congrArg Value.bool (decide_eq_false fk11)) ?_
             refine J.run 7 K30_33 [(74, .bool mn), (7, .int .u64 m), (4, .bool mn)] w3 (by kernel_rfl) ?_
             refine J.head (.bool false) (congrArg Value.bool fk5) ?_
             refine J.run 12 K30_34 [(83, .bool (!mn)), (7, .int .u64 m)] w3 (by kernel_rfl) ?_
             refine J.head (.bool true) (congrArg Value.bool (by rw [fk5]; rfl)) ?_
             refine J.run 4 K30_35 [(86, .bool (decide (m < 9223372036854775808))), (7, .int .u64 m)] w3 (by kernel_rfl) ?_
             by_cases fk14 : m < 9223372036854775808
             ·skip
              refine J.head (.bool true) (congrArg Value.bool (decide_eq_true fk14)) ?_
              refine J.run 5 K30_36 [(88, .int .i64 (IntKind.wrap .i64 m))] w3 (by kernel_rfl) ?_
              refine J.head (.int .i64 m) (congrArg (Value.int .i64) (IntWalk.i64_in _ (by omega))) ?_
              refine J.run 3 K30_37 [(3, .int .i64 0), (2, .int .i64 m)] w3 (by kernel_rfl) ?_
              refine J.ret Tryd.f30 [.int .i64 m, .int .i64 0] Tryd.func30 ⟨by kernel_rfl, by kernel_rfl, trivial⟩ ?_
              refine hR _ _ ?_
              obtain ⟨e1, e2⟩ := par_zero (s := s) (by omega) hf (by first | (rw [(fit_neg (m := m) (hmn.symm.trans fk5) (hmd (by omega))).1]; exact decide_eq_true (by omega)) | (rw [(fit_pos (m := m) (hmn.symm.trans fk5) (hmd (by omega))).1]; exact decide_eq_true (by omega)))
              exact ⟨by rw [tup_two, e1, e2]; first | rw [(fit_neg (m := m) (hmn.symm.trans fk5) (hmd (by omega))).2] | rw [(fit_pos (m := m) (hmn.symm.trans fk5) (hmd (by omega))).2], S3.nil⟩
             ·skip
              refine J.head (.bool false) (congrArg Value.bool (decide_eq_false fk14)) ?_
              refine J.run 7 K30_38 [(3, .int .i64 9), (2, .int .i64 0)] w3 (by kernel_rfl) ?_
              refine J.ret Tryd.f30 [.int .i64 0, .int .i64 9] Tryd.func30 ⟨by kernel_rfl, by kernel_rfl, trivial⟩ ?_
              refine hR _ _ ?_
              obtain ⟨e1, e2⟩ := par_nine (s := s) (by omega) hf (by first | exact fit_long hd hf (by omega) | (rw [(fit_neg (m := m) (hmn.symm.trans fk5) (hmd (by omega))).1]; exact decide_eq_false (by omega)) | (rw [(fit_pos (m := m) (hmn.symm.trans fk5) (hmd (by omega))).1]; exact decide_eq_false (by omega)))
              exact ⟨by rw [tup_two, e1, e2], S3.nil⟩
           exact L30_2 _ 0 0 w2 (by omega) (by omega) (rfl) S2 rfl
        exact L30_1 _ 0 w1 (by omega) (by omega) (by intro j hj; simp at hj) S1 rfl
     ·skip
      refine J.head (.bool false) (congrArg Value.bool (beq_eq_false_iff_ne.2 fk4)) ?_
      refine J.run 18 K30_39 [(6, .int .i64 0), (5, .string d), (4, .bool mn)] w1 (by kernel_rfl) ?_
      have L30_3 : ∀ (mm_ : Nat) (i : Int) (w4 : World), (0 ≤ i) → (i ≤ (d.size : Int)) → (∀ j, j < (i).toNat → 48 ≤ byteAt d j ∧ byteAt d j ≤ 57) → Sep w [] w4 → ((d.size : Int) - i).toNat = mm_ → J Tryd.prog 30 89 R K30_39 [(6, .int .i64 i), (5, .string d), (4, .bool mn)] w4 := by
       intro mm3
       induction mm3 using Nat.strongRecOn with
       | _ mm3 ih3 =>
       intro i w4 h0 h1 hq S4 hm3
       refine J.run 8 K30_40 [(43, .bool (decide (i < (d.size : Int)))), (6, .int .i64 i), (5, .string d), (4, .bool mn)] w4 (by kernel_rfl) ?_
       by_cases fk15 : i < (d.size : Int)
       ·skip
        refine J.head (.bool true) (congrArg Value.bool (decide_eq_true fk15)) ?_
        refine J.run 8 K30_41 [(47, .int .i64 i), (46, .string d), (6, .int .i64 i), (5, .string d), (4, .bool mn)] w4 (by kernel_rfl) ?_
        have := byteAt_bounds d (i).toNat
        refine J.ok (OK.byte 48 9 d i (byteAt d (i).toNat) (by kernel_rfl) (by kernel_rfl) (by omega) (by omega) (rfl)) ?_
        refine J.run 2 K30_42 [(50, .bool (decide ((byteAt d (i).toNat) < 48))), (6, .int .i64 i), (5, .string d), (4, .bool mn)] w4 (by kernel_rfl) ?_
        by_cases fk16 : (byteAt d (i).toNat) < 48
        ·skip
         refine J.head (.bool true) (congrArg Value.bool (decide_eq_true fk16)) ?_
         refine J.run 12 K30_43 [(3, .int .i64 3), (2, .int .i64 0)] w4 (by kernel_rfl) ?_
         refine J.ret Tryd.f30 [.int .i64 0, .int .i64 3] Tryd.func30 ⟨by kernel_rfl, by kernel_rfl, trivial⟩ ?_
         refine hR _ _ ?_
         obtain ⟨e1, e2⟩ := par_three (s := s) (by omega) (by first | exact form_bad1 hd (by omega) | exact form_bad2 hd (i := i.toNat) (by omega) (by omega))
         exact ⟨by rw [tup_two, e1, e2], S4.nil⟩
        ·skip
         refine J.head (.bool false) (congrArg Value.bool (decide_eq_false fk16)) ?_
         refine J.run 2 K30_44 [(52, .int .i64 i), (51, .string d), (50, .bool false), (6, .int .i64 i), (5, .string d), (4, .bool mn)] w4 (by kernel_rfl) ?_
         have := byteAt_bounds d (i).toNat
         refine J.ok (OK.byte 53 9 d i (byteAt d (i).toNat) (by kernel_rfl) (by kernel_rfl) (by omega) (by omega) (rfl)) ?_
         refine J.run 3 K30_45 [(55, .bool (decide ((byteAt d (i).toNat) > 57))), (6, .int .i64 i), (5, .string d), (4, .bool mn)] w4 (by kernel_rfl) ?_
         by_cases fk17 : (byteAt d (i).toNat) > 57
         ·skip
          refine J.head (.bool true) (congrArg Value.bool (decide_eq_true fk17)) ?_
          refine J.run 6 K30_46 [(3, .int .i64 3), (2, .int .i64 0)] w4 (by kernel_rfl) ?_
          refine J.ret Tryd.f30 [.int .i64 0, .int .i64 3] Tryd.func30 ⟨by kernel_rfl, by kernel_rfl, trivial⟩ ?_
          refine hR _ _ ?_
          obtain ⟨e1, e2⟩ := par_three (s := s) (by omega) (by first | exact form_bad1 hd (by omega) | exact form_bad2 hd (i := i.toNat) (by omega) (by omega))
          exact ⟨by rw [tup_two, e1, e2], S4.nil⟩
         ·skip
          refine J.head (.bool false) (congrArg Value.bool (decide_eq_false fk17)) ?_
          refine J.run 6 K30_47 [(45, .int .i64 (IntKind.wrap .i64 (i + 1))), (5, .string d), (4, .bool mn)] w4 (by kernel_rfl) ?_
          refine J.head (.int .i64 (i + 1)) (congrArg (Value.int .i64) (IntWalk.i64_in _ (by omega))) ?_
          refine J.run 3 K30_39 [(6, .int .i64 (i + 1)), (5, .string d), (4, .bool mn)] w4 (by kernel_rfl) ?_
          refine J.run 0 K30_39 [(6, .int .i64 (i + 1)), (5, .string d), (4, .bool mn)] w4 (by kernel_rfl) ?_
          exact ih3 _ (show ((d.size : Int) - (i + 1)).toNat < mm3 from by omega) (i + 1) w4 (by omega) (by omega) (dg_step (q := fun j => 48 ≤ byteAt d j ∧ byteAt d j ≤ 57) h0 hq (by omega)) S4 rfl
       ·skip
        refine J.head (.bool false) (congrArg Value.bool (decide_eq_false fk15)) ?_
        have hqd : ∀ j, j < d.size → 48 ≤ byteAt d j ∧ byteAt d j ≤ 57 := fun j hj => hq j (by omega)
        have hf := form_good hd ⟨by omega, by omega⟩ hqd
        refine J.run 9 K30_48 [(58, .bool (decide ((d.size : Int) > 19))), (5, .string d), (4, .bool mn)] w4 (by kernel_rfl) ?_
        by_cases fk18 : (d.size : Int) > 19
        ·skip
         refine J.head (.bool true) (congrArg Value.bool (decide_eq_true fk18)) ?_
         refine J.run 6 K30_49 [(3, .int .i64 9), (2, .int .i64 0)] w4 (by kernel_rfl) ?_
         refine J.ret Tryd.f30 [.int .i64 0, .int .i64 9] Tryd.func30 ⟨by kernel_rfl, by kernel_rfl, trivial⟩ ?_
         refine hR _ _ ?_
         obtain ⟨e1, e2⟩ := par_nine (s := s) (by omega) hf (by first | exact fit_long hd hf (by omega) | (rw [(fit_neg (m := m) (hmn.symm.trans rfl) (hmd (by omega))).1]; exact decide_eq_false (by omega)) | (rw [(fit_pos (m := m) (hmn.symm.trans rfl) (hmd (by omega))).1]; exact decide_eq_false (by omega)))
         exact ⟨by rw [tup_two, e1, e2], S4.nil⟩
        ·skip
         refine J.head (.bool false) (congrArg Value.bool (decide_eq_false fk18)) ?_
         refine J.run 13 K30_50 [(8, .int .i64 0), (7, .int .u64 0), (5, .string d), (4, .bool mn)] w4 (by kernel_rfl) ?_
         have L30_4 : ∀ (mm_ : Nat) (m : Int) (k : Int) (w5 : World), (0 ≤ k) → (k ≤ (d.size : Int)) → (m = (decV ((ls d).take (k).toNat) : Int)) → Sep w [] w5 → ((d.size : Int) - k).toNat = mm_ → J Tryd.prog 30 89 R K30_50 [(8, .int .i64 k), (7, .int .u64 m), (5, .string d), (4, .bool mn)] w5 := by
          intro mm4
          induction mm4 using Nat.strongRecOn with
          | _ mm4 ih4 =>
          intro m k w5 k0 k1 hm S5 hm4
          have hb0 := take_bound (d := d) (n := k.toNat) hqd (by omega)
          have hmd : (d.size : Int) ≤ k → m = (decV (digL (ls s)) : Int) := fun h_ => hm.trans (take_all hd h_)
          refine J.run 8 K30_51 [(62, .bool (decide (k < (d.size : Int)))), (8, .int .i64 k), (7, .int .u64 m), (5, .string d), (4, .bool mn)] w5 (by kernel_rfl) ?_
          by_cases fk19 : k < (d.size : Int)
          ·skip
           refine J.head (.bool true) (congrArg Value.bool (decide_eq_true fk19)) ?_
           have hb1 := decV_take (d := d) k0 (by omega)
           have hb2 := take_bound (d := d) (n := (k + 1).toNat) hqd (by omega)
           have hb3 := hqd k.toNat (by omega)
           have hb4 := byteAt_ls d k.toNat
           refine J.run 7 K30_52 [(66, .int .u64 (IntKind.wrap .u64 (10 * m))), (8, .int .i64 k), (5, .string d), (4, .bool mn)] w5 (by kernel_rfl) ?_
           refine J.head (.int .u64 (10 * m)) (congrArg (Value.int .u64) (IntWalk.u64_in _ (by omega))) ?_
           refine J.run 2 K30_53 [(68, .int .i64 k), (67, .string d), (66, .int .u64 (10 * m)), (8, .int .i64 k), (5, .string d), (4, .bool mn)] w5 (by kernel_rfl) ?_
           have := byteAt_bounds d (k).toNat
           refine J.ok (OK.byte 69 9 d k (byteAt d (k).toNat) (by kernel_rfl) (by kernel_rfl) (by omega) (by omega) (rfl)) ?_
           refine J.run 1 K30_54 [(70, .int .u8 (IntKind.wrap .u8 ((byteAt d (k).toNat) - 48))), (66, .int .u64 (10 * m)), (8, .int .i64 k), (5, .string d), (4, .bool mn)] w5 (by kernel_rfl) ?_
           refine J.head (.int .u8 ((byteAt d (k).toNat) - 48)) (congrArg (Value.int .u8) (IntWalk.u8_in _ (by omega))) ?_
           refine J.run 1 K30_55 [(71, .int .u64 (IntKind.wrap .u64 ((byteAt d (k).toNat) - 48))), (66, .int .u64 (10 * m)), (8, .int .i64 k), (5, .string d), (4, .bool mn)] w5 (by kernel_rfl) ?_
           refine J.head (.int .u64 ((byteAt d (k).toNat) - 48)) (congrArg (Value.int .u64) (IntWalk.u64_in _ (by omega))) ?_
           refine J.run 1 K30_56 [(72, .int .u64 (IntKind.wrap .u64 ((10 * m) + ((byteAt d (k).toNat) - 48)))), (8, .int .i64 k), (5, .string d), (4, .bool mn)] w5 (by kernel_rfl) ?_
           refine J.head (.int .u64 ((10 * m) + ((byteAt d (k).toNat) - 48))) (congrArg (Value.int .u64) (IntWalk.u64_in _ (by omega))) ?_
           refine J.run 6 K30_57 [(64, .int .i64 (IntKind.wrap .i64 (k + 1))), (7, .int .u64 ((10 * m) + ((byteAt d (k).toNat) - 48))), (5, .string d), (4, .bool mn)] w5 (by kernel_rfl) ?_
           refine J.head (.int .i64 (k + 1)) (congrArg (Value.int .i64) (IntWalk.i64_in _ (by omega))) ?_
           refine J.run 3 K30_50 [(8, .int .i64 (k + 1)), (7, .int .u64 ((10 * m) + ((byteAt d (k).toNat) - 48))), (5, .string d), (4, .bool mn)] w5 (by kernel_rfl) ?_
           refine J.run 0 K30_50 [(8, .int .i64 (k + 1)), (7, .int .u64 ((10 * m) + ((byteAt d (k).toNat) - 48))), (5, .string d), (4, .bool mn)] w5 (by kernel_rfl) ?_
           exact ih4 _ (show ((d.size : Int) - (k + 1)).toNat < mm4 from by omega) ((10 * m) + ((byteAt d (k).toNat) - 48)) (k + 1) w5 (by omega) (by omega) (by omega) S5 rfl
          ·skip
           refine J.head (.bool false) (congrArg Value.bool (decide_eq_false fk19)) ?_
           refine J.run 7 K30_58 [(74, .bool mn), (7, .int .u64 m), (4, .bool mn)] w5 (by kernel_rfl) ?_
           rcases Bool.eq_false_or_eq_true mn with fk20 | fk20
           ·skip
            refine J.head (.bool true) (congrArg Value.bool fk20) ?_
            have hms2 := hms fk20
            refine J.run 4 K30_59 [(77, .bool (decide (m ≤ 9223372036854775808))), (7, .int .u64 m), (4, .bool mn)] w5 (by kernel_rfl) ?_
            by_cases fk21 : m ≤ 9223372036854775808
            ·skip
             refine J.head (.bool true) (congrArg Value.bool (decide_eq_true fk21)) ?_
             have hm0 := form_neg hf (hmn.symm.trans fk20)
             have hm1 := hmd (by omega)
             refine J.run 5 K30_60 [(79, .int .u64 (IntKind.wrap .u64 (0 - m)))] w5 (by kernel_rfl) ?_
             refine J.head (.int .u64 (18446744073709551616 - m)) (congrArg (Value.int .u64) (by rw [wrapU]; omega)) ?_
             refine J.run 1 K30_61 [(80, .int .i64 (IntKind.wrap .i64 (18446744073709551616 - m)))] w5 (by kernel_rfl) ?_
             refine J.head (.int .i64 (-m)) (congrArg (Value.int .i64) (wrap_i64_neg (by omega))) ?_
             refine J.run 3 K30_62 [(3, .int .i64 0), (2, .int .i64 (-m))] w5 (by kernel_rfl) ?_
             refine J.ret Tryd.f30 [.int .i64 (-m), .int .i64 0] Tryd.func30 ⟨by kernel_rfl, by kernel_rfl, trivial⟩ ?_
             refine hR _ _ ?_
             obtain ⟨e1, e2⟩ := par_zero (s := s) (by omega) hf (by first | (rw [(fit_neg (m := m) (hmn.symm.trans fk20) (hmd (by omega))).1]; exact decide_eq_true (by omega)) | (rw [(fit_pos (m := m) (hmn.symm.trans fk20) (hmd (by omega))).1]; exact decide_eq_true (by omega)))
             exact ⟨by rw [tup_two, e1, e2]; first | rw [(fit_neg (m := m) (hmn.symm.trans fk20) (hmd (by omega))).2] | rw [(fit_pos (m := m) (hmn.symm.trans fk20) (hmd (by omega))).2], S5.nil⟩
            ·skip
             refine J.head (.bool false) (congrArg Value.bool (decide_eq_false fk21)) ?_
             refine J.run 8 K30_63 [(83, .bool (!mn)), (7, .int .u64 m)] w5 (by kernel_rfl) ?_
             refine J.head (.bool false) (congrArg Value.bool (by rw [fk20]; rfl)) ?_
             refine J.run 11 K30_64 [(3, .int .i64 9), (2, .int .i64 0)] w5 (by kernel_rfl) ?_
             refine J.ret Tryd.f30 [.int .i64 0, .int .i64 9] Tryd.func30 ⟨by kernel_rfl, by kernel_rfl, trivial⟩ ?_
             refine hR _ _ ?_
             obtain ⟨e1, e2⟩ := par_nine (s := s) (by omega) hf (by first | exact fit_long hd hf (by omega) | (rw [(fit_neg (m := m) (hmn.symm.trans fk20) (hmd (by omega))).1]; exact decide_eq_false (by omega)) | (rw [(fit_pos (m := m) (hmn.symm.trans fk20) (hmd (by omega))).1]; exact decide_eq_false (by omega)))
             exact ⟨by rw [tup_two, e1, e2], S5.nil⟩
           ·skip
            refine J.head (.bool false) (congrArg Value.bool fk20) ?_
            have hmf2 := hmf fk20
            refine J.run 12 K30_65 [(83, .bool (!mn)), (7, .int .u64 m)] w5 (by kernel_rfl) ?_
            refine J.head (.bool true) (congrArg Value.bool (by rw [fk20]; rfl)) ?_
            refine J.run 4 K30_66 [(86, .bool (decide (m < 9223372036854775808))), (7, .int .u64 m)] w5 (by kernel_rfl) ?_
            by_cases fk24 : m < 9223372036854775808
            ·skip
             refine J.head (.bool true) (congrArg Value.bool (decide_eq_true fk24)) ?_
             refine J.run 5 K30_67 [(88, .int .i64 (IntKind.wrap .i64 m))] w5 (by kernel_rfl) ?_
             refine J.head (.int .i64 m) (congrArg (Value.int .i64) (IntWalk.i64_in _ (by omega))) ?_
             refine J.run 3 K30_68 [(3, .int .i64 0), (2, .int .i64 m)] w5 (by kernel_rfl) ?_
             refine J.ret Tryd.f30 [.int .i64 m, .int .i64 0] Tryd.func30 ⟨by kernel_rfl, by kernel_rfl, trivial⟩ ?_
             refine hR _ _ ?_
             obtain ⟨e1, e2⟩ := par_zero (s := s) (by omega) hf (by first | (rw [(fit_neg (m := m) (hmn.symm.trans fk20) (hmd (by omega))).1]; exact decide_eq_true (by omega)) | (rw [(fit_pos (m := m) (hmn.symm.trans fk20) (hmd (by omega))).1]; exact decide_eq_true (by omega)))
             exact ⟨by rw [tup_two, e1, e2]; first | rw [(fit_neg (m := m) (hmn.symm.trans fk20) (hmd (by omega))).2] | rw [(fit_pos (m := m) (hmn.symm.trans fk20) (hmd (by omega))).2], S5.nil⟩
            ·skip
             refine J.head (.bool false) (congrArg Value.bool (decide_eq_false fk24)) ?_
             refine J.run 7 K30_69 [(3, .int .i64 9), (2, .int .i64 0)] w5 (by kernel_rfl) ?_
             refine J.ret Tryd.f30 [.int .i64 0, .int .i64 9] Tryd.func30 ⟨by kernel_rfl, by kernel_rfl, trivial⟩ ?_
             refine hR _ _ ?_
             obtain ⟨e1, e2⟩ := par_nine (s := s) (by omega) hf (by first | exact fit_long hd hf (by omega) | (rw [(fit_neg (m := m) (hmn.symm.trans fk20) (hmd (by omega))).1]; exact decide_eq_false (by omega)) | (rw [(fit_pos (m := m) (hmn.symm.trans fk20) (hmd (by omega))).1]; exact decide_eq_false (by omega)))
             exact ⟨by rw [tup_two, e1, e2], S5.nil⟩
         exact L30_4 _ 0 0 w4 (by omega) (by omega) (rfl) S4 rfl
      exact L30_3 _ 0 w1 (by omega) (by omega) (by intro j hj; simp at hj) S1 rfl
   by_cases fk25 : (byteAt s 0) = 45
   ·skip
    refine J.head (.bool true) (congrArg Value.bool (beq_iff_eq.2 fk25)) ?_
    refine J.run 3 K30_70 [(22, .string s), (4, .bool ((byteAt s 0) == 45))] w (by kernel_rfl) ?_
    refine J.ok (OK.sliceT 23 9 s (some (.int .i64 1)) none 1 s.size (by kernel_rfl) (by kernel_rfl) (.inr ⟨_, _, rfl, rfl⟩) (.inl ⟨rfl, rfl⟩) (by first | omega | (simp; omega)) (by first | omega | (simp; omega))) ?_
    have := size_extract s (i := 1) (j := s.size) (by first | omega | (simp; omega))
    refine J.run 2 K30_71 [(4, .bool ((byteAt s 0) == 45)), (5, .string (s.extract 1 s.size))] w (by kernel_rfl) ?_
    refine J.head (.bool true) (congrArg Value.bool (beq_iff_eq.2 fk25)) ?_
    refine J.run 0 K30_5 [(5, .string (s.extract 1 s.size)), (4, .bool true)] w (by kernel_rfl) ?_
    exact X1 (s.extract 1 s.size) true w (by first | exact (dig_minus (by omega) (by omega)).1 | exact (dig_plain (by omega)).1) (by first | omega | (rw [size_extract s (Nat.le_refl _)]; omega)) ((by first | (intro h_; cases h_; done) | (intro h_; rfl))) ((by first | (intro h_; cases h_; done) | (intro h_; rw [size_extract s (Nat.le_refl _)]; omega))) ((by first | exact (dig_minus (by omega) (by omega)).2.symm | exact (dig_plain (by omega)).2.symm)) S0
   ·skip
    refine J.head (.bool false) (congrArg Value.bool (beq_eq_false_iff_ne.2 fk25)) ?_
    refine J.run 2 K30_72 [(4, .bool ((byteAt s 0) == 45)), (5, .string s)] w (by kernel_rfl) ?_
    refine J.head (.bool false) (congrArg Value.bool (beq_eq_false_iff_ne.2 fk25)) ?_
    refine J.run 0 K30_5 [(5, .string s), (4, .bool false)] w (by kernel_rfl) ?_
    exact X1 s false w (by first | exact (dig_minus (by omega) (by omega)).1 | exact (dig_plain (by omega)).1) (by first | omega | (rw [size_extract s (Nat.le_refl _)]; omega)) ((by first | (intro h_; cases h_; done) | (intro h_; rfl))) ((by first | (intro h_; cases h_; done) | (intro h_; rw [size_extract s (Nat.le_refl _)]; omega))) ((by first | exact (dig_minus (by omega) (by omega)).2.symm | exact (dig_plain (by omega)).2.symm)) S0
  ·skip
   refine J.head (.bool false) (congrArg Value.bool (decide_eq_false fk2)) ?_
   refine J.run 16 K30_73 [(21, .bool false), (5, .string s), (4, .bool false), (0, .string s)] w (by kernel_rfl) ?_
   have X2 : ∀ (d : ByteArray) (mn : Bool) (w6 : World), (ls d = digL (ls s)) → ((d).size ≤ s.size) → (mn = false → s.size = (d).size) → (mn = true → s.size = (d).size + 1) → (mn = negL (ls s)) → Sep w [] w6 → J Tryd.prog 30 89 R K30_74 [(5, .string d), (4, .bool mn)] w6 := by
    intro d mn w6 hd hds hmf hms hmn S6
    refine J.run 7 K30_75 [(27, .bool ((d.size : Int) == 0)), (5, .string d), (4, .bool mn)] w6 (by kernel_rfl) ?_
    by_cases fk26 : (d.size : Int) = 0
    ·skip
     refine J.head (.bool true) (congrArg Value.bool (beq_iff_eq.2 fk26)) ?_
     refine J.run 19 K30_76 [(3, .int .i64 3), (2, .int .i64 0)] w6 (by kernel_rfl) ?_
     refine J.ret Tryd.f30 [.int .i64 0, .int .i64 3] Tryd.func30 ⟨by kernel_rfl, by kernel_rfl, trivial⟩ ?_
     refine hR _ _ ?_
     obtain ⟨e1, e2⟩ := par_three (s := s) (by omega) (by first | exact form_bad1 hd (by omega) | exact form_bad2 hd (i := i.toNat) (by omega) (by omega))
     exact ⟨by rw [tup_two, e1, e2], S6.nil⟩
    ·skip
     refine J.head (.bool false) (congrArg Value.bool (beq_eq_false_iff_ne.2 fk26)) ?_
     refine J.run 1 K30_77 [(28, .string d), (27, .bool false), (5, .string d), (4, .bool mn)] w6 (by kernel_rfl) ?_
     have := byteAt_bounds d 0
     refine J.ok (OK.byte 29 9 d (0 : Int) (byteAt d 0) (by kernel_rfl) (by kernel_rfl) (by omega) (by omega) (rfl)) ?_
     refine J.run 2 K30_78 [(31, .bool ((byteAt d 0) == 48)), (27, .bool false), (5, .string d), (4, .bool mn)] w6 (by kernel_rfl) ?_
     by_cases fk27 : (byteAt d 0) = 48
     ·skip
      refine J.head (.bool true) (congrArg Value.bool (beq_iff_eq.2 fk27)) ?_
      refine J.run 2 K30_79 [(33, .bool mn), (31, .bool true), (27, .bool false), (5, .string d), (4, .bool mn)] w6 (by kernel_rfl) ?_
      rcases Bool.eq_false_or_eq_true mn with fk28 | fk28
      ·skip
       refine J.head (.bool true) (congrArg Value.bool fk28) ?_
       have hms2 := hms fk28
       refine J.run 13 K30_80 [(3, .int .i64 3), (2, .int .i64 0)] w6 (by kernel_rfl) ?_
       refine J.ret Tryd.f30 [.int .i64 0, .int .i64 3] Tryd.func30 ⟨by kernel_rfl, by kernel_rfl, trivial⟩ ?_
       refine hR _ _ ?_
       obtain ⟨e1, e2⟩ := par_three (s := s) (by omega) (by first | exact form_bad1 hd (by omega) | exact form_bad2 hd (i := i.toNat) (by omega) (by omega))
       exact ⟨by rw [tup_two, e1, e2], S6.nil⟩
      ·skip
       refine J.head (.bool false) (congrArg Value.bool fk28) ?_
       have hmf2 := hmf fk28
       refine J.run 7 K30_81 [(39, .bool (decide ((d.size : Int) > 1))), (5, .string d), (4, .bool mn)] w6 (by kernel_rfl) ?_
       by_cases fk29 : (d.size : Int) > 1
       ·skip
        refine J.head (.bool true) (congrArg Value.bool (decide_eq_true fk29)) ?_
        refine J.run 6 K30_82 [(3, .int .i64 3), (2, .int .i64 0)] w6 (by kernel_rfl) ?_
        refine J.ret Tryd.f30 [.int .i64 0, .int .i64 3] Tryd.func30 ⟨by kernel_rfl, by kernel_rfl, trivial⟩ ?_
        refine hR _ _ ?_
        obtain ⟨e1, e2⟩ := par_three (s := s) (by omega) (by first | exact form_bad1 hd (by omega) | exact form_bad2 hd (i := i.toNat) (by omega) (by omega))
        exact ⟨by rw [tup_two, e1, e2], S6.nil⟩
       ·skip
        refine J.head (.bool false) (congrArg Value.bool (decide_eq_false fk29)) ?_
        refine J.run 9 K30_83 [(6, .int .i64 0), (5, .string d), (4, .bool mn)] w6 (by kernel_rfl) ?_
        have L30_5 : ∀ (mm_ : Nat) (i : Int) (w7 : World), (0 ≤ i) → (i ≤ (d.size : Int)) → (∀ j, j < (i).toNat → 48 ≤ byteAt d j ∧ byteAt d j ≤ 57) → Sep w [] w7 → ((d.size : Int) - i).toNat = mm_ → J Tryd.prog 30 89 R K30_83 [(6, .int .i64 i), (5, .string d), (4, .bool mn)] w7 := by
         intro mm5
         induction mm5 using Nat.strongRecOn with
         | _ mm5 ih5 =>
         intro i w7 h0 h1 hq S7 hm5
         refine J.run 8 K30_84 [(43, .bool (decide (i < (d.size : Int)))), (6, .int .i64 i), (5, .string d), (4, .bool mn)] w7 (by kernel_rfl) ?_
         by_cases fk30 : i < (d.size : Int)
         ·skip
          refine J.head (.bool true) (congrArg Value.bool (decide_eq_true fk30)) ?_
          refine J.run 8 K30_85 [(47, .int .i64 i), (46, .string d), (6, .int .i64 i), (5, .string d), (4, .bool mn)] w7 (by kernel_rfl) ?_
          have := byteAt_bounds d (i).toNat
          refine J.ok (OK.byte 48 9 d i (byteAt d (i).toNat) (by kernel_rfl) (by kernel_rfl) (by omega) (by omega) (rfl)) ?_
          refine J.run 2 K30_86 [(50, .bool (decide ((byteAt d (i).toNat) < 48))), (6, .int .i64 i), (5, .string d), (4, .bool mn)] w7 (by kernel_rfl) ?_
          by_cases fk31 : (byteAt d (i).toNat) < 48
          ·skip
           refine J.head (.bool true) (congrArg Value.bool (decide_eq_true fk31)) ?_
           refine J.run 12 K30_87 [(3, .int .i64 3), (2, .int .i64 0)] w7 (by kernel_rfl) ?_
           refine J.ret Tryd.f30 [.int .i64 0, .int .i64 3] Tryd.func30 ⟨by kernel_rfl, by kernel_rfl, trivial⟩ ?_
           refine hR _ _ ?_
           obtain ⟨e1, e2⟩ := par_three (s := s) (by omega) (by first | exact form_bad1 hd (by omega) | exact form_bad2 hd (i := i.toNat) (by omega) (by omega))
           exact ⟨by rw [tup_two, e1, e2], S7.nil⟩
          ·skip
           refine J.head (.bool false) (congrArg Value.bool (decide_eq_false fk31)) ?_
           refine J.run 2 K30_88 [(52, .int .i64 i), (51, .string d), (50, .bool false), (6, .int .i64 i), (5, .string d), (4, .bool mn)] w7 (by kernel_rfl) ?_
           have := byteAt_bounds d (i).toNat
           refine J.ok (OK.byte 53 9 d i (byteAt d (i).toNat) (by kernel_rfl) (by kernel_rfl) (by omega) (by omega) (rfl)) ?_
           refine J.run 3 K30_89 [(55, .bool (decide ((byteAt d (i).toNat) > 57))), (6, .int .i64 i), (5, .string d), (4, .bool mn)] w7 (by kernel_rfl) ?_
           by_cases fk32 : (byteAt d (i).toNat) > 57
           ·skip
            refine J.head (.bool true) (congrArg Value.bool (decide_eq_true fk32)) ?_
            refine J.run 6 K30_90 [(3, .int .i64 3), (2, .int .i64 0)] w7 (by kernel_rfl) ?_
            refine J.ret Tryd.f30 [.int .i64 0, .int .i64 3] Tryd.func30 ⟨by kernel_rfl, by kernel_rfl, trivial⟩ ?_
            refine hR _ _ ?_
            obtain ⟨e1, e2⟩ := par_three (s := s) (by omega) (by first | exact form_bad1 hd (by omega) | exact form_bad2 hd (i := i.toNat) (by omega) (by omega))
            exact ⟨by rw [tup_two, e1, e2], S7.nil⟩
           ·skip
            refine J.head (.bool false) (congrArg Value.bool (decide_eq_false fk32)) ?_
            refine J.run 6 K30_91 [(45, .int .i64 (IntKind.wrap .i64 (i + 1))), (5, .string d), (4, .bool mn)] w7 (by kernel_rfl) ?_
            refine J.head (.int .i64 (i + 1)) (congrArg (Value.int .i64) (IntWalk.i64_in _ (by omega))) ?_
            refine J.run 3 K30_83 [(6, .int .i64 (i + 1)), (5, .string d), (4, .bool mn)] w7 (by kernel_rfl) ?_
            refine J.run 0 K30_83 [(6, .int .i64 (i + 1)), (5, .string d), (4, .bool mn)] w7 (by kernel_rfl) ?_
            exact ih5 _ (show ((d.size : Int) - (i + 1)).toNat < mm5 from by omega) (i + 1) w7 (by omega) (by omega) (dg_step (q := fun j => 48 ≤ byteAt d j ∧ byteAt d j ≤ 57) h0 hq (by omega)) S7 rfl
         ·skip
          refine J.head (.bool false) (congrArg Value.bool (decide_eq_false fk30)) ?_
          have hqd : ∀ j, j < d.size → 48 ≤ byteAt d j ∧ byteAt d j ≤ 57 := fun j hj => hq j (by omega)
          have hf := form_good hd ⟨by omega, by omega⟩ hqd
          refine J.run 9 K30_92 [(58, .bool (decide ((d.size : Int) > 19))), (5, .string d), (4, .bool mn)] w7 (by kernel_rfl) ?_
          by_cases fk33 : (d.size : Int) > 19
          ·skip
           refine J.head (.bool true) (congrArg Value.bool (decide_eq_true fk33)) ?_
           refine J.run 6 K30_93 [(3, .int .i64 9), (2, .int .i64 0)] w7 (by kernel_rfl) ?_
           refine J.ret Tryd.f30 [.int .i64 0, .int .i64 9] Tryd.func30 ⟨by kernel_rfl, by kernel_rfl, trivial⟩ ?_
           refine hR _ _ ?_
           obtain ⟨e1, e2⟩ := par_nine (s := s) (by omega) hf (by first | exact fit_long hd hf (by omega) | (rw [(fit_neg (m := m) (hmn.symm.trans fk28) (hmd (by omega))).1]; exact decide_eq_false (by omega)) | (rw [(fit_pos (m := m) (hmn.symm.trans fk28) (hmd (by omega))).1]; exact decide_eq_false (by omega)))
           exact ⟨by rw [tup_two, e1, e2], S7.nil⟩
          ·skip
           refine J.head (.bool false) (congrArg Value.bool (decide_eq_false fk33)) ?_
           refine J.run 13 K30_94 [(8, .int .i64 0), (7, .int .u64 0), (5, .string d), (4, .bool mn)] w7 (by kernel_rfl) ?_
           have L30_6 : ∀ (mm_ : Nat) (m : Int) (k : Int) (w8 : World), (0 ≤ k) → (k ≤ (d.size : Int)) → (m = (decV ((ls d).take (k).toNat) : Int)) → Sep w [] w8 → ((d.size : Int) - k).toNat = mm_ → J Tryd.prog 30 89 R K30_94 [(8, .int .i64 k), (7, .int .u64 m), (5, .string d), (4, .bool mn)] w8 := by
            intro mm6
            induction mm6 using Nat.strongRecOn with
            | _ mm6 ih6 =>
            intro m k w8 k0 k1 hm S8 hm6
            have hb0 := take_bound (d := d) (n := k.toNat) hqd (by omega)
            have hmd : (d.size : Int) ≤ k → m = (decV (digL (ls s)) : Int) := fun h_ => hm.trans (take_all hd h_)
            refine J.run 8 K30_95 [(62, .bool (decide (k < (d.size : Int)))), (8, .int .i64 k), (7, .int .u64 m), (5, .string d), (4, .bool mn)] w8 (by kernel_rfl) ?_
            by_cases fk34 : k < (d.size : Int)
            ·skip
             refine J.head (.bool true) (congrArg Value.bool (decide_eq_true fk34)) ?_
             have hb1 := decV_take (d := d) k0 (by omega)
             have hb2 := take_bound (d := d) (n := (k + 1).toNat) hqd (by omega)
             have hb3 := hqd k.toNat (by omega)
             have hb4 := byteAt_ls d k.toNat
             refine J.run 7 K30_96 [(66, .int .u64 (IntKind.wrap .u64 (10 * m))), (8, .int .i64 k), (5, .string d), (4, .bool mn)] w8 (by kernel_rfl) ?_
             refine J.head (.int .u64 (10 * m)) (congrArg (Value.int .u64) (IntWalk.u64_in _ (by omega))) ?_
             refine J.run 2 K30_97 [(68, .int .i64 k), (67, .string d), (66, .int .u64 (10 * m)), (8, .int .i64 k), (5, .string d), (4, .bool mn)] w8 (by kernel_rfl) ?_
             have := byteAt_bounds d (k).toNat
             refine J.ok (OK.byte 69 9 d k (byteAt d (k).toNat) (by kernel_rfl) (by kernel_rfl) (by omega) (by omega) (rfl)) ?_
             refine J.run 1 K30_98 [(70, .int .u8 (IntKind.wrap .u8 ((byteAt d (k).toNat) - 48))), (66, .int .u64 (10 * m)), (8, .int .i64 k), (5, .string d), (4, .bool mn)] w8 (by kernel_rfl) ?_
             refine J.head (.int .u8 ((byteAt d (k).toNat) - 48)) (congrArg (Value.int .u8) (IntWalk.u8_in _ (by omega))) ?_
             refine J.run 1 K30_99 [(71, .int .u64 (IntKind.wrap .u64 ((byteAt d (k).toNat) - 48))), (66, .int .u64 (10 * m)), (8, .int .i64 k), (5, .string d), (4, .bool mn)] w8 (by kernel_rfl) ?_
             refine J.head (.int .u64 ((byteAt d (k).toNat) - 48)) (congrArg (Value.int .u64) (IntWalk.u64_in _ (by omega))) ?_
             refine J.run 1 K30_100 [(72, .int .u64 (IntKind.wrap .u64 ((10 * m) + ((byteAt d (k).toNat) - 48)))), (8, .int .i64 k), (5, .string d), (4, .bool mn)] w8 (by kernel_rfl) ?_
             refine J.head (.int .u64 ((10 * m) + ((byteAt d (k).toNat) - 48))) (congrArg (Value.int .u64) (IntWalk.u64_in _ (by omega))) ?_
             refine J.run 6 K30_101 [(64, .int .i64 (IntKind.wrap .i64 (k + 1))), (7, .int .u64 ((10 * m) + ((byteAt d (k).toNat) - 48))), (5, .string d), (4, .bool mn)] w8 (by kernel_rfl) ?_
             refine J.head (.int .i64 (k + 1)) (congrArg (Value.int .i64) (IntWalk.i64_in _ (by omega))) ?_
             refine J.run 3 K30_94 [(8, .int .i64 (k + 1)), (7, .int .u64 ((10 * m) + ((byteAt d (k).toNat) - 48))), (5, .string d), (4, .bool mn)] w8 (by kernel_rfl) ?_
             refine J.run 0 K30_94 [(8, .int .i64 (k + 1)), (7, .int .u64 ((10 * m) + ((byteAt d (k).toNat) - 48))), (5, .string d), (4, .bool mn)] w8 (by kernel_rfl) ?_
             exact ih6 _ (show ((d.size : Int) - (k + 1)).toNat < mm6 from by omega) ((10 * m) + ((byteAt d (k).toNat) - 48)) (k + 1) w8 (by omega) (by omega) (by omega) S8 rfl
            ·skip
             refine J.head (.bool false) (congrArg Value.bool (decide_eq_false fk34)) ?_
             refine J.run 7 K30_102 [(74, .bool mn), (7, .int .u64 m), (4, .bool mn)] w8 (by kernel_rfl) ?_
             refine J.head (.bool false) (congrArg Value.bool fk28) ?_
             refine J.run 12 K30_103 [(83, .bool (!mn)), (7, .int .u64 m)] w8 (by kernel_rfl) ?_
             refine J.head (.bool true) (congrArg Value.bool (by rw [fk28]; rfl)) ?_
             refine J.run 4 K30_104 [(86, .bool (decide (m < 9223372036854775808))), (7, .int .u64 m)] w8 (by kernel_rfl) ?_
             by_cases fk37 : m < 9223372036854775808
             ·skip
              refine J.head (.bool true) (congrArg Value.bool (decide_eq_true fk37)) ?_
              refine J.run 5 K30_105 [(88, .int .i64 (IntKind.wrap .i64 m))] w8 (by kernel_rfl) ?_
              refine J.head (.int .i64 m) (congrArg (Value.int .i64) (IntWalk.i64_in _ (by omega))) ?_
              refine J.run 3 K30_106 [(3, .int .i64 0), (2, .int .i64 m)] w8 (by kernel_rfl) ?_
              refine J.ret Tryd.f30 [.int .i64 m, .int .i64 0] Tryd.func30 ⟨by kernel_rfl, by kernel_rfl, trivial⟩ ?_
              refine hR _ _ ?_
              obtain ⟨e1, e2⟩ := par_zero (s := s) (by omega) hf (by first | (rw [(fit_neg (m := m) (hmn.symm.trans fk28) (hmd (by omega))).1]; exact decide_eq_true (by omega)) | (rw [(fit_pos (m := m) (hmn.symm.trans fk28) (hmd (by omega))).1]; exact decide_eq_true (by omega)))
              exact ⟨by rw [tup_two, e1, e2]; first | rw [(fit_neg (m := m) (hmn.symm.trans fk28) (hmd (by omega))).2] | rw [(fit_pos (m := m) (hmn.symm.trans fk28) (hmd (by omega))).2], S8.nil⟩
             ·skip
              refine J.head (.bool false) (congrArg Value.bool (decide_eq_false fk37)) ?_
              refine J.run 7 K30_107 [(3, .int .i64 9), (2, .int .i64 0)] w8 (by kernel_rfl) ?_
              refine J.ret Tryd.f30 [.int .i64 0, .int .i64 9] Tryd.func30 ⟨by kernel_rfl, by kernel_rfl, trivial⟩ ?_
              refine hR _ _ ?_
              obtain ⟨e1, e2⟩ := par_nine (s := s) (by omega) hf (by first | exact fit_long hd hf (by omega) | (rw [(fit_neg (m := m) (hmn.symm.trans fk28) (hmd (by omega))).1]; exact decide_eq_false (by omega)) | (rw [(fit_pos (m := m) (hmn.symm.trans fk28) (hmd (by omega))).1]; exact decide_eq_false (by omega)))
              exact ⟨by rw [tup_two, e1, e2], S8.nil⟩
           exact L30_6 _ 0 0 w7 (by omega) (by omega) (rfl) S7 rfl
        exact L30_5 _ 0 w6 (by omega) (by omega) (by intro j hj; simp at hj) S6 rfl
     ·skip
      refine J.head (.bool false) (congrArg Value.bool (beq_eq_false_iff_ne.2 fk27)) ?_
      refine J.run 18 K30_108 [(6, .int .i64 0), (5, .string d), (4, .bool mn)] w6 (by kernel_rfl) ?_
      have L30_7 : ∀ (mm_ : Nat) (i : Int) (w9 : World), (0 ≤ i) → (i ≤ (d.size : Int)) → (∀ j, j < (i).toNat → 48 ≤ byteAt d j ∧ byteAt d j ≤ 57) → Sep w [] w9 → ((d.size : Int) - i).toNat = mm_ → J Tryd.prog 30 89 R K30_108 [(6, .int .i64 i), (5, .string d), (4, .bool mn)] w9 := by
       intro mm7
       induction mm7 using Nat.strongRecOn with
       | _ mm7 ih7 =>
       intro i w9 h0 h1 hq S9 hm7
       refine J.run 8 K30_109 [(43, .bool (decide (i < (d.size : Int)))), (6, .int .i64 i), (5, .string d), (4, .bool mn)] w9 (by kernel_rfl) ?_
       by_cases fk38 : i < (d.size : Int)
       ·skip
        refine J.head (.bool true) (congrArg Value.bool (decide_eq_true fk38)) ?_
        refine J.run 8 K30_110 [(47, .int .i64 i), (46, .string d), (6, .int .i64 i), (5, .string d), (4, .bool mn)] w9 (by kernel_rfl) ?_
        have := byteAt_bounds d (i).toNat
        refine J.ok (OK.byte 48 9 d i (byteAt d (i).toNat) (by kernel_rfl) (by kernel_rfl) (by omega) (by omega) (rfl)) ?_
        refine J.run 2 K30_111 [(50, .bool (decide ((byteAt d (i).toNat) < 48))), (6, .int .i64 i), (5, .string d), (4, .bool mn)] w9 (by kernel_rfl) ?_
        by_cases fk39 : (byteAt d (i).toNat) < 48
        ·skip
         refine J.head (.bool true) (congrArg Value.bool (decide_eq_true fk39)) ?_
         refine J.run 12 K30_112 [(3, .int .i64 3), (2, .int .i64 0)] w9 (by kernel_rfl) ?_
         refine J.ret Tryd.f30 [.int .i64 0, .int .i64 3] Tryd.func30 ⟨by kernel_rfl, by kernel_rfl, trivial⟩ ?_
         refine hR _ _ ?_
         obtain ⟨e1, e2⟩ := par_three (s := s) (by omega) (by first | exact form_bad1 hd (by omega) | exact form_bad2 hd (i := i.toNat) (by omega) (by omega))
         exact ⟨by rw [tup_two, e1, e2], S9.nil⟩
        ·skip
         refine J.head (.bool false) (congrArg Value.bool (decide_eq_false fk39)) ?_
         refine J.run 2 K30_113 [(52, .int .i64 i), (51, .string d), (50, .bool false), (6, .int .i64 i), (5, .string d), (4, .bool mn)] w9 (by kernel_rfl) ?_
         have := byteAt_bounds d (i).toNat
         refine J.ok (OK.byte 53 9 d i (byteAt d (i).toNat) (by kernel_rfl) (by kernel_rfl) (by omega) (by omega) (rfl)) ?_
         refine J.run 3 K30_114 [(55, .bool (decide ((byteAt d (i).toNat) > 57))), (6, .int .i64 i), (5, .string d), (4, .bool mn)] w9 (by kernel_rfl) ?_
         by_cases fk40 : (byteAt d (i).toNat) > 57
         ·skip
          refine J.head (.bool true) (congrArg Value.bool (decide_eq_true fk40)) ?_
          refine J.run 6 K30_115 [(3, .int .i64 3), (2, .int .i64 0)] w9 (by kernel_rfl) ?_
          refine J.ret Tryd.f30 [.int .i64 0, .int .i64 3] Tryd.func30 ⟨by kernel_rfl, by kernel_rfl, trivial⟩ ?_
          refine hR _ _ ?_
          obtain ⟨e1, e2⟩ := par_three (s := s) (by omega) (by first | exact form_bad1 hd (by omega) | exact form_bad2 hd (i := i.toNat) (by omega) (by omega))
          exact ⟨by rw [tup_two, e1, e2], S9.nil⟩
         ·skip
          refine J.head (.bool false) (congrArg Value.bool (decide_eq_false fk40)) ?_
          refine J.run 6 K30_116 [(45, .int .i64 (IntKind.wrap .i64 (i + 1))), (5, .string d), (4, .bool mn)] w9 (by kernel_rfl) ?_
          refine J.head (.int .i64 (i + 1)) (congrArg (Value.int .i64) (IntWalk.i64_in _ (by omega))) ?_
          refine J.run 3 K30_108 [(6, .int .i64 (i + 1)), (5, .string d), (4, .bool mn)] w9 (by kernel_rfl) ?_
          refine J.run 0 K30_108 [(6, .int .i64 (i + 1)), (5, .string d), (4, .bool mn)] w9 (by kernel_rfl) ?_
          exact ih7 _ (show ((d.size : Int) - (i + 1)).toNat < mm7 from by omega) (i + 1) w9 (by omega) (by omega) (dg_step (q := fun j => 48 ≤ byteAt d j ∧ byteAt d j ≤ 57) h0 hq (by omega)) S9 rfl
       ·skip
        refine J.head (.bool false) (congrArg Value.bool (decide_eq_false fk38)) ?_
        have hqd : ∀ j, j < d.size → 48 ≤ byteAt d j ∧ byteAt d j ≤ 57 := fun j hj => hq j (by omega)
        have hf := form_good hd ⟨by omega, by omega⟩ hqd
        refine J.run 9 K30_117 [(58, .bool (decide ((d.size : Int) > 19))), (5, .string d), (4, .bool mn)] w9 (by kernel_rfl) ?_
        by_cases fk41 : (d.size : Int) > 19
        ·skip
         refine J.head (.bool true) (congrArg Value.bool (decide_eq_true fk41)) ?_
         refine J.run 6 K30_118 [(3, .int .i64 9), (2, .int .i64 0)] w9 (by kernel_rfl) ?_
         refine J.ret Tryd.f30 [.int .i64 0, .int .i64 9] Tryd.func30 ⟨by kernel_rfl, by kernel_rfl, trivial⟩ ?_
         refine hR _ _ ?_
         obtain ⟨e1, e2⟩ := par_nine (s := s) (by omega) hf (by first | exact fit_long hd hf (by omega) | (rw [(fit_neg (m := m) (hmn.symm.trans rfl) (hmd (by omega))).1]; exact decide_eq_false (by omega)) | (rw [(fit_pos (m := m) (hmn.symm.trans rfl) (hmd (by omega))).1]; exact decide_eq_false (by omega)))
         exact ⟨by rw [tup_two, e1, e2], S9.nil⟩
        ·skip
         refine J.head (.bool false) (congrArg Value.bool (decide_eq_false fk41)) ?_
         refine J.run 13 K30_119 [(8, .int .i64 0), (7, .int .u64 0), (5, .string d), (4, .bool mn)] w9 (by kernel_rfl) ?_
         have L30_8 : ∀ (mm_ : Nat) (m : Int) (k : Int) (w10 : World), (0 ≤ k) → (k ≤ (d.size : Int)) → (m = (decV ((ls d).take (k).toNat) : Int)) → Sep w [] w10 → ((d.size : Int) - k).toNat = mm_ → J Tryd.prog 30 89 R K30_119 [(8, .int .i64 k), (7, .int .u64 m), (5, .string d), (4, .bool mn)] w10 := by
          intro mm8
          induction mm8 using Nat.strongRecOn with
          | _ mm8 ih8 =>
          intro m k w10 k0 k1 hm S10 hm8
          have hb0 := take_bound (d := d) (n := k.toNat) hqd (by omega)
          have hmd : (d.size : Int) ≤ k → m = (decV (digL (ls s)) : Int) := fun h_ => hm.trans (take_all hd h_)
          refine J.run 8 K30_120 [(62, .bool (decide (k < (d.size : Int)))), (8, .int .i64 k), (7, .int .u64 m), (5, .string d), (4, .bool mn)] w10 (by kernel_rfl) ?_
          by_cases fk42 : k < (d.size : Int)
          ·skip
           refine J.head (.bool true) (congrArg Value.bool (decide_eq_true fk42)) ?_
           have hb1 := decV_take (d := d) k0 (by omega)
           have hb2 := take_bound (d := d) (n := (k + 1).toNat) hqd (by omega)
           have hb3 := hqd k.toNat (by omega)
           have hb4 := byteAt_ls d k.toNat
           refine J.run 7 K30_121 [(66, .int .u64 (IntKind.wrap .u64 (10 * m))), (8, .int .i64 k), (5, .string d), (4, .bool mn)] w10 (by kernel_rfl) ?_
           refine J.head (.int .u64 (10 * m)) (congrArg (Value.int .u64) (IntWalk.u64_in _ (by omega))) ?_
           refine J.run 2 K30_122 [(68, .int .i64 k), (67, .string d), (66, .int .u64 (10 * m)), (8, .int .i64 k), (5, .string d), (4, .bool mn)] w10 (by kernel_rfl) ?_
           have := byteAt_bounds d (k).toNat
           refine J.ok (OK.byte 69 9 d k (byteAt d (k).toNat) (by kernel_rfl) (by kernel_rfl) (by omega) (by omega) (rfl)) ?_
           refine J.run 1 K30_123 [(70, .int .u8 (IntKind.wrap .u8 ((byteAt d (k).toNat) - 48))), (66, .int .u64 (10 * m)), (8, .int .i64 k), (5, .string d), (4, .bool mn)] w10 (by kernel_rfl) ?_
           refine J.head (.int .u8 ((byteAt d (k).toNat) - 48)) (congrArg (Value.int .u8) (IntWalk.u8_in _ (by omega))) ?_
           refine J.run 1 K30_124 [(71, .int .u64 (IntKind.wrap .u64 ((byteAt d (k).toNat) - 48))), (66, .int .u64 (10 * m)), (8, .int .i64 k), (5, .string d), (4, .bool mn)] w10 (by kernel_rfl) ?_
           refine J.head (.int .u64 ((byteAt d (k).toNat) - 48)) (congrArg (Value.int .u64) (IntWalk.u64_in _ (by omega))) ?_
           refine J.run 1 K30_125 [(72, .int .u64 (IntKind.wrap .u64 ((10 * m) + ((byteAt d (k).toNat) - 48)))), (8, .int .i64 k), (5, .string d), (4, .bool mn)] w10 (by kernel_rfl) ?_
           refine J.head (.int .u64 ((10 * m) + ((byteAt d (k).toNat) - 48))) (congrArg (Value.int .u64) (IntWalk.u64_in _ (by omega))) ?_
           refine J.run 6 K30_126 [(64, .int .i64 (IntKind.wrap .i64 (k + 1))), (7, .int .u64 ((10 * m) + ((byteAt d (k).toNat) - 48))), (5, .string d), (4, .bool mn)] w10 (by kernel_rfl) ?_
           refine J.head (.int .i64 (k + 1)) (congrArg (Value.int .i64) (IntWalk.i64_in _ (by omega))) ?_
           refine J.run 3 K30_119 [(8, .int .i64 (k + 1)), (7, .int .u64 ((10 * m) + ((byteAt d (k).toNat) - 48))), (5, .string d), (4, .bool mn)] w10 (by kernel_rfl) ?_
           refine J.run 0 K30_119 [(8, .int .i64 (k + 1)), (7, .int .u64 ((10 * m) + ((byteAt d (k).toNat) - 48))), (5, .string d), (4, .bool mn)] w10 (by kernel_rfl) ?_
           exact ih8 _ (show ((d.size : Int) - (k + 1)).toNat < mm8 from by omega) ((10 * m) + ((byteAt d (k).toNat) - 48)) (k + 1) w10 (by omega) (by omega) (by omega) S10 rfl
          ·skip
           refine J.head (.bool false) (congrArg Value.bool (decide_eq_false fk42)) ?_
           refine J.run 7 K30_127 [(74, .bool mn), (7, .int .u64 m), (4, .bool mn)] w10 (by kernel_rfl) ?_
           rcases Bool.eq_false_or_eq_true mn with fk43 | fk43
           ·skip
            refine J.head (.bool true) (congrArg Value.bool fk43) ?_
            have hms2 := hms fk43
            refine J.run 4 K30_128 [(77, .bool (decide (m ≤ 9223372036854775808))), (7, .int .u64 m), (4, .bool mn)] w10 (by kernel_rfl) ?_
            by_cases fk44 : m ≤ 9223372036854775808
            ·skip
             refine J.head (.bool true) (congrArg Value.bool (decide_eq_true fk44)) ?_
             have hm0 := form_neg hf (hmn.symm.trans fk43)
             have hm1 := hmd (by omega)
             refine J.run 5 K30_129 [(79, .int .u64 (IntKind.wrap .u64 (0 - m)))] w10 (by kernel_rfl) ?_
             refine J.head (.int .u64 (18446744073709551616 - m)) (congrArg (Value.int .u64) (by rw [wrapU]; omega)) ?_
             refine J.run 1 K30_130 [(80, .int .i64 (IntKind.wrap .i64 (18446744073709551616 - m)))] w10 (by kernel_rfl) ?_
             refine J.head (.int .i64 (-m)) (congrArg (Value.int .i64) (wrap_i64_neg (by omega))) ?_
             refine J.run 3 K30_131 [(3, .int .i64 0), (2, .int .i64 (-m))] w10 (by kernel_rfl) ?_
             refine J.ret Tryd.f30 [.int .i64 (-m), .int .i64 0] Tryd.func30 ⟨by kernel_rfl, by kernel_rfl, trivial⟩ ?_
             refine hR _ _ ?_
             obtain ⟨e1, e2⟩ := par_zero (s := s) (by omega) hf (by first | (rw [(fit_neg (m := m) (hmn.symm.trans fk43) (hmd (by omega))).1]; exact decide_eq_true (by omega)) | (rw [(fit_pos (m := m) (hmn.symm.trans fk43) (hmd (by omega))).1]; exact decide_eq_true (by omega)))
             exact ⟨by rw [tup_two, e1, e2]; first | rw [(fit_neg (m := m) (hmn.symm.trans fk43) (hmd (by omega))).2] | rw [(fit_pos (m := m) (hmn.symm.trans fk43) (hmd (by omega))).2], S10.nil⟩
            ·skip
             refine J.head (.bool false) (congrArg Value.bool (decide_eq_false fk44)) ?_
             refine J.run 8 K30_132 [(83, .bool (!mn)), (7, .int .u64 m)] w10 (by kernel_rfl) ?_
             refine J.head (.bool false) (congrArg Value.bool (by rw [fk43]; rfl)) ?_
             refine J.run 11 K30_133 [(3, .int .i64 9), (2, .int .i64 0)] w10 (by kernel_rfl) ?_
             refine J.ret Tryd.f30 [.int .i64 0, .int .i64 9] Tryd.func30 ⟨by kernel_rfl, by kernel_rfl, trivial⟩ ?_
             refine hR _ _ ?_
             obtain ⟨e1, e2⟩ := par_nine (s := s) (by omega) hf (by first | exact fit_long hd hf (by omega) | (rw [(fit_neg (m := m) (hmn.symm.trans fk43) (hmd (by omega))).1]; exact decide_eq_false (by omega)) | (rw [(fit_pos (m := m) (hmn.symm.trans fk43) (hmd (by omega))).1]; exact decide_eq_false (by omega)))
             exact ⟨by rw [tup_two, e1, e2], S10.nil⟩
           ·skip
            refine J.head (.bool false) (congrArg Value.bool fk43) ?_
            have hmf2 := hmf fk43
            refine J.run 12 K30_134 [(83, .bool (!mn)), (7, .int .u64 m)] w10 (by kernel_rfl) ?_
            refine J.head (.bool true) (congrArg Value.bool (by rw [fk43]; rfl)) ?_
            refine J.run 4 K30_135 [(86, .bool (decide (m < 9223372036854775808))), (7, .int .u64 m)] w10 (by kernel_rfl) ?_
            by_cases fk47 : m < 9223372036854775808
            ·skip
             refine J.head (.bool true) (congrArg Value.bool (decide_eq_true fk47)) ?_
             refine J.run 5 K30_136 [(88, .int .i64 (IntKind.wrap .i64 m))] w10 (by kernel_rfl) ?_
             refine J.head (.int .i64 m) (congrArg (Value.int .i64) (IntWalk.i64_in _ (by omega))) ?_
             refine J.run 3 K30_137 [(3, .int .i64 0), (2, .int .i64 m)] w10 (by kernel_rfl) ?_
             refine J.ret Tryd.f30 [.int .i64 m, .int .i64 0] Tryd.func30 ⟨by kernel_rfl, by kernel_rfl, trivial⟩ ?_
             refine hR _ _ ?_
             obtain ⟨e1, e2⟩ := par_zero (s := s) (by omega) hf (by first | (rw [(fit_neg (m := m) (hmn.symm.trans fk43) (hmd (by omega))).1]; exact decide_eq_true (by omega)) | (rw [(fit_pos (m := m) (hmn.symm.trans fk43) (hmd (by omega))).1]; exact decide_eq_true (by omega)))
             exact ⟨by rw [tup_two, e1, e2]; first | rw [(fit_neg (m := m) (hmn.symm.trans fk43) (hmd (by omega))).2] | rw [(fit_pos (m := m) (hmn.symm.trans fk43) (hmd (by omega))).2], S10.nil⟩
            ·skip
             refine J.head (.bool false) (congrArg Value.bool (decide_eq_false fk47)) ?_
             refine J.run 7 K30_138 [(3, .int .i64 9), (2, .int .i64 0)] w10 (by kernel_rfl) ?_
             refine J.ret Tryd.f30 [.int .i64 0, .int .i64 9] Tryd.func30 ⟨by kernel_rfl, by kernel_rfl, trivial⟩ ?_
             refine hR _ _ ?_
             obtain ⟨e1, e2⟩ := par_nine (s := s) (by omega) hf (by first | exact fit_long hd hf (by omega) | (rw [(fit_neg (m := m) (hmn.symm.trans fk43) (hmd (by omega))).1]; exact decide_eq_false (by omega)) | (rw [(fit_pos (m := m) (hmn.symm.trans fk43) (hmd (by omega))).1]; exact decide_eq_false (by omega)))
             exact ⟨by rw [tup_two, e1, e2], S10.nil⟩
         exact L30_8 _ 0 0 w9 (by omega) (by omega) (rfl) S9 rfl
      exact L30_7 _ 0 w6 (by omega) (by omega) (by intro j hj; simp at hj) S6 rfl
   refine J.run 2 K30_74 [(5, .string s), (4, .bool false)] w (by kernel_rfl) ?_
   exact X2 s false w (by first | exact (dig_minus (by omega) (by omega)).1 | exact (dig_plain (by omega)).1) (by first | omega | (rw [size_extract s (Nat.le_refl _)]; omega)) ((by first | (intro h_; cases h_; done) | (intro h_; rfl))) ((by first | (intro h_; cases h_; done) | (intro h_; rw [size_extract s (Nat.le_refl _)]; omega))) ((by first | exact (dig_minus (by omega) (by omega)).2.symm | exact (dig_plain (by omega)).2.symm)) S0

end Go.Proofs.YthfpejhonhaggaaDoor
