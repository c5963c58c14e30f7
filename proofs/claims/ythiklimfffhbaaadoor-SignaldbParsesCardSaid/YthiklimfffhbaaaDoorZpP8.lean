/- Walks of functions of this seat, printed by a program over the engine. Conditions: as each theorem says. -/
import Derived.Test.YthiklimfffhbaaaDoorZpS7
import Derived.Test.YthiklimfffhbaaaDoorZpEng12
import Derived.Test.YthiklimfffhbaaaDoorZpShelf
namespace Go.Proofs.YthiklimfffhbaaaDoor
noncomputable section
open Go.Eng Go.RowKit
set_option linter.unusedSimpArgs false
set_option linter.unusedVariables false
abbrev TabW (w : World) : Prop := Lib.TabIs Tryd.prog w "internal/strconv.uint64pow10" .u64 Lib.pow10Tab ∧ ErrW w 4 ∧ ErrW w 5 ∧ IntW w 0 .i64
theorem tabW_sep {w w' : World} {L : List Go.Eng.Claim} (h : TabW w) (S : Sep w L w') : TabW w' := ⟨S.tab (g := 3) (by kernel_rfl) h.1, (h.2.1).sep S, (h.2.2.1).sep S, (h.2.2.2).sep S⟩
abbrev iv (n : Int) : Value := Value.int IntKind.i64 n
def parE (s : ByteArray) : Int := if 24 < s.size then 5 else if formL (ls s) then (if fitL (valL (ls s)) then 0 else 9) else 3
def parX (s : ByteArray) : Int := if parE s = 0 then valL (ls s) else 0
theorem par_bounds (s : ByteArray) : -9223372036854775808 ≤ parX s ∧ parX s ≤ 9223372036854775807 := by
  unfold parX
  split
  · rename_i h
    unfold parE at h
    split at h; · omega
    split at h
    · split at h
      · rename_i h1; simp only [fitL, Bool.and_eq_true, decide_eq_true_eq] at h1; exact h1
      · omega
    · omega
  · omega
theorem par_five {s : ByteArray} (h : 24 < s.size) : parX s = 0 ∧ parE s = 5 := by
  have e : parE s = 5 := by unfold parE; rw [if_pos h]
  exact ⟨by unfold parX; rw [if_neg (by omega)], e⟩
theorem par_three {s : ByteArray} (h : s.size ≤ 24) (hf : formL (ls s) = false) : parX s = 0 ∧ parE s = 3 := by
  have e : parE s = 3 := by unfold parE; rw [if_neg (by omega), if_neg (by rw [hf]; decide)]
  exact ⟨by unfold parX; rw [if_neg (by omega)], e⟩
theorem par_nine {s : ByteArray} (h : s.size ≤ 24) (hf : formL (ls s) = true) (hg : fitL (valL (ls s)) = false) : parX s = 0 ∧ parE s = 9 := by
  have e : parE s = 9 := by unfold parE; rw [if_neg (by omega), if_pos hf, if_neg (by rw [hg]; decide)]
  exact ⟨by unfold parX; rw [if_neg (by omega)], e⟩
theorem par_zero {s : ByteArray} (h : s.size ≤ 24) (hf : formL (ls s) = true) (hg : fitL (valL (ls s)) = true) : parX s = valL (ls s) ∧ parE s = 0 := by
  have e : parE s = 0 := by unfold parE; rw [if_neg (by omega), if_pos hf, if_pos hg]
  exact ⟨by unfold parX; rw [if_pos e], e⟩
/-! the bytes of a text that may have a sign -/
theorem dig_minus {s : ByteArray} (h : s.size ≠ 0) (h2 : byteAt s 0 = 45) : ls (s.extract 1 s.size) = digL (ls s) ∧ negL (ls s) = true := by
  have hl := ls_length s
  rw [ls_extract, ← hl, List.take_length]
  cases hs : ls s with
  | nil => rw [hs] at hl; simp at hl; omega
  | cons c l =>
    rw [byteAt_ls, hs] at h2
    have hc : c = 45 := UInt8.toNat_inj.1 (by have h3 : ((c.toNat : Nat) : Int) = 45 := h2; have : (45 : UInt8).toNat = 45 := rfl; omega)
    subst hc
    exact ⟨rfl, rfl⟩
theorem dig_plain {s : ByteArray} (h : s.size = 0 ∨ byteAt s 0 ≠ 45) : ls s = digL (ls s) ∧ negL (ls s) = false := by
  have hl := ls_length s
  have hn : negL (ls s) = false := by
    cases hs : ls s with
    | nil => rfl
    | cons c l =>
      rcases h with h | h
      · rw [hs] at hl; simp at hl; omega
      · rw [byteAt_ls, hs] at h
        unfold negL
        rw [List.head?_cons, beq_eq_false_iff_ne]
        intro e
        have := Option.some.inj e; subst this
        exact h rfl
  exact ⟨(digL_pos hn).symm, hn⟩
theorem head_byte {d : ByteArray} {l : List UInt8} (hd : ls d = l) (h : d.size ≠ 0) (k : Nat) (hk : k < 256) : (l.head? == some (UInt8.ofNat k)) = decide (byteAt d 0 = k) := by
  have hl := ls_length d
  rw [byteAt_ls, hd]
  rw [hd] at hl
  cases l with
  | nil => simp at hl; omega
  | cons c l =>
    rw [List.head?_cons, Bool.eq_iff_iff, beq_iff_eq, decide_eq_true_eq]
    constructor
    · intro e
      have := Option.some.inj e; subst this
      show (((UInt8.ofNat k).toNat : Nat) : Int) = k
      rw [UInt8.toNat_ofNat']; omega
    · intro e
      have e2 : ((c.toNat : Nat) : Int) = k := e
      congr 1
      apply UInt8.toNat_inj.1
      rw [UInt8.toNat_ofNat']; omega
theorem head48 {d : ByteArray} {l : List UInt8} (hd : ls d = l) (h : d.size ≠ 0) : (l.head? == some 48) = decide (byteAt d 0 = 48) := head_byte hd h 48 (by omega)
theorem form_bad1 {s d : ByteArray} (hd : ls d = digL (ls s)) (h : d.size = 0 ∨ (byteAt d 0 = 48 ∧ 1 < s.size)) : formL (ls s) = false := by
  have hl := ls_length d
  have hsl := ls_length s
  unfold formL
  by_cases h0 : d.size = 0
  · rw [← hd, show ls d = [] from List.eq_nil_of_length_eq_zero (by omega)]; rfl
  · rcases h with h | ⟨h1, h2⟩
    · exact absurd h h0
    · rw [head48 hd h0, decide_eq_true h1, decide_eq_true (by omega)]; simp
theorem getD_dig {d : ByteArray} {i : Nat} (hi : i < d.size) : isDig ((ls d).getD i 0) = (decide (48 ≤ byteAt d i) && decide (byteAt d i ≤ 57)) := by
  rw [byteAt_ls]; unfold isDig
  rw [Bool.eq_iff_iff, Bool.and_eq_true, Bool.and_eq_true, decide_eq_true_eq, decide_eq_true_eq, decide_eq_true_eq, decide_eq_true_eq]; omega
theorem form_bad2 {s d : ByteArray} (hd : ls d = digL (ls s)) {i : Nat} (hi : i < d.size) (h : byteAt d i < 48 ∨ 57 < byteAt d i) : formL (ls s) = false := by
  have hl := ls_length d
  have hdig := getD_dig hi
  have hf : isDig ((ls d).getD i 0) = false := by
    rw [hdig, Bool.and_eq_false_iff, decide_eq_false_iff_not, decide_eq_false_iff_not]; omega
  have hall : (digL (ls s)).all isDig = false := by
    rw [← hd, List.all_eq_false]
    exact ⟨(ls d).getD i 0, by rw [List.getD_eq_getElem?_getD, List.getElem?_eq_getElem (by omega)]; exact List.getElem_mem _, by rw [hf]; simp⟩
  unfold formL; rw [hall, Bool.and_false, Bool.false_and]
theorem form_good {s d : ByteArray} (hd : ls d = digL (ls s)) (h : ¬ (d.size = 0) ∧ (¬ byteAt d 0 = 48 ∨ ¬ 1 < s.size)) (hq : ∀ j, j < d.size → 48 ≤ byteAt d j ∧ byteAt d j ≤ 57) : formL (ls s) = true := by
  have hl := ls_length d
  have hsl := ls_length s
  have hall : (digL (ls s)).all isDig = true := by
    rw [← hd, List.all_eq_true]
    intro c hc
    obtain ⟨j, hj, rfl⟩ := List.mem_iff_getElem.1 hc
    have h1 := getD_dig (d := d) (i := j) (by omega)
    rw [List.getD_eq_getElem?_getD, List.getElem?_eq_getElem hj, Option.getD_some] at h1
    rw [h1]; have := hq j (by omega)
    rw [decide_eq_true this.1, decide_eq_true this.2]; rfl
  have hne : (digL (ls s)).isEmpty = false := by
    rw [← hd, List.isEmpty_eq_false_iff]; intro e; rw [e] at hl; simp at hl; omega
  unfold formL
  rw [hall, hne]
  rw [head48 hd h.1]
  rcases h.2 with h2 | h2
  · rw [decide_eq_false (by simpa using h2)]; rfl
  · rw [decide_eq_false (show ¬ 1 < (ls s).length by omega), Bool.and_false]; rfl
theorem wrapU (n : Int) : IntKind.wrap .u64 n = n % 18446744073709551616 := by simp [IntKind.wrap, IntKind.bits, IntKind.signed]
theorem wrap_i64_neg {m : Int} (h : 0 < m ∧ m ≤ 9223372036854775808) : IntKind.wrap .i64 (18446744073709551616 - m) = -m := by
  have e : (18446744073709551616 - m) % 2 ^ 64 = 18446744073709551616 - m := by
    rw [show (2 : Int) ^ 64 = 18446744073709551616 by decide]; exact Int.emod_eq_of_lt (by omega) (by omega)
  simp only [IntKind.wrap, IntKind.bits, IntKind.signed, e, Bool.true_and]
  rw [show (2 : Int) ^ (64 - 1) = 9223372036854775808 by decide, show (2 : Int) ^ 64 = 18446744073709551616 by decide, if_pos (decide_eq_true (by omega))]
  omega
/-- a numeral of more than 19 digits is too great -/
theorem fit_long {s d : ByteArray} (hd : ls d = digL (ls s)) (hf : formL (ls s) = true) (h : 19 < d.size) : fitL (valL (ls s)) = false := by
  have hl := ls_length d
  obtain ⟨f1, f2, f3⟩ := canonL_facts (form_canon hf)
  have hbig : 10000000000000000000 ≤ decV (digL (ls s)) := by
    rw [← hd] at f1 f2 f3 ⊢
    cases hc : ls d with
    | nil => exact absurd hc f1
    | cons c l =>
      rw [hc] at f2 f3 hl
      have hne : c.toNat ≠ 48 := fun e => by
        have e2 : c = 48 := UInt8.toNat_inj.1 (by rw [e]; rfl)
        have := f3 (by rw [e2]; rfl)
        simp only [List.length_cons] at this hl; omega
      have := decV_pos (l := l) (c := c) f2 hne
      simp only [List.length_cons] at hl
      have h10 : 10 ^ 19 ≤ 10 ^ l.length := Nat.pow_le_pow_right (by decide) (by omega)
      have : (10 : Nat) ^ 19 = 10000000000000000000 := by decide
      omega
  unfold fitL valL
  split
  · rw [decide_eq_false (by omega)]; rfl
  · rw [decide_eq_false (show ¬ ((decV (digL (ls s)) : Int) ≤ 9223372036854775807) by omega), Bool.and_false]
theorem dg_step {q : Nat → Prop} {i : Int} (h0 : 0 ≤ i) (hq : ∀ k, k < i.toNat → q k) (h : q i.toNat) : ∀ k, k < (i + 1).toNat → q k := by
  intro k hk
  by_cases e : k = i.toNat
  · subst e; exact h
  · exact hq k (by omega)
theorem decV_take {d : ByteArray} {i : Int} (h0 : 0 ≤ i) (hi : i < (d.size : Int)) : (decV ((ls d).take (i + 1).toNat) : Int) = decV ((ls d).take i.toNat) * 10 + (((((ls d).getD i.toNat 0).toNat - 48 : Nat)) : Int) := by
  have hl := ls_length d
  rw [show (i + 1).toNat = i.toNat + 1 by omega, List.take_succ_eq_append_getElem (by omega)]
  rw [show decV ((ls d).take i.toNat ++ [(ls d)[i.toNat]]) = decV ((ls d).take i.toNat) * 10 + _ from foldV_snoc _ _ _]
  rw [List.getD_eq_getElem?_getD, List.getElem?_eq_getElem (by omega), Option.getD_some]
  omega
theorem take_bound {d : ByteArray} {n : Nat} (hq : ∀ j, j < d.size → 48 ≤ byteAt d j ∧ byteAt d j ≤ 57) (hn : n ≤ 19) : (decV ((ls d).take n) : Int) < 10000000000000000000 := by
  have hl := ls_length d
  have h1 := decV_lt (l := (ls d).take n) fun c hc => by
    obtain ⟨j, hj, rfl⟩ := List.mem_iff_getElem.1 (List.mem_of_mem_take hc)
    have h1 := getD_dig (d := d) (i := j) (by omega)
    rw [List.getD_eq_getElem?_getD, List.getElem?_eq_getElem hj, Option.getD_some] at h1
    rw [h1]; have := hq j (by omega)
    rw [decide_eq_true this.1, decide_eq_true this.2]; rfl
  have h2 : ((ls d).take n).length ≤ 19 := by rw [List.length_take]; omega
  have h3 : (10 : Nat) ^ ((ls d).take n).length ≤ 10 ^ 19 := Nat.pow_le_pow_right (by decide) h2
  have : (10 : Nat) ^ 19 = 10000000000000000000 := by decide
  omega
theorem take_all {d : ByteArray} {l : List UInt8} (hd : ls d = l) {i : Int} (h : (d.size : Int) ≤ i) : (decV ((ls d).take i.toNat) : Int) = decV l := by
  have hl := ls_length d
  rw [List.take_of_length_le (by omega), hd]
theorem fit_neg {l : List UInt8} {m : Int} (hn : negL l = true) (hm : m = decV (digL l)) : fitL (valL l) = decide (m ≤ 9223372036854775808) ∧ valL l = -m := by
  unfold valL; rw [if_pos hn, ← hm]
  refine ⟨?_, rfl⟩
  unfold fitL
  rw [Bool.eq_iff_iff, Bool.and_eq_true, decide_eq_true_eq, decide_eq_true_eq, decide_eq_true_eq]; omega
theorem fit_pos {l : List UInt8} {m : Int} (hn : negL l = false) (hm : m = decV (digL l)) : fitL (valL l) = decide (m < 9223372036854775808) ∧ valL l = m := by
  unfold valL; rw [hn, if_neg (by decide), ← hm]
  refine ⟨?_, rfl⟩
  unfold fitL
  rw [Bool.eq_iff_iff, Bool.and_eq_true, decide_eq_true_eq, decide_eq_true_eq, decide_eq_true_eq]; omega
/-! the text of a number, digit by digit -/
theorem hb83 : HasBody Tryd.prog 83 := fun _ _ => by kernel_rfl
theorem atoi_ok (s : ByteArray) (w : World) (hs : s.size ≤ 281474976710656) (h : formL (ls s) = true) (hf : fitL (valL (ls s)) = true) : Ret Tryd.prog 83 #[.string s] w (fun v w' => v = .tuple #[.int .i64 (valL (ls s)), .nilIface] ∧ Sep w [] w') :=
  Ret.of_calls (Tryd.strconv_Atoi_ok s (by omega) (valL (ls s)) (by rw [atoi_form h, if_pos hf]) w) fun w' hw => ⟨rfl, by rcases hw with rfl | ⟨t, rfl⟩; exact .refl _; exact .of_below (Lib.bytesWorld_below _ _ _)⟩
theorem atoi_big (s : ByteArray) (w : World) (hs : s.size ≤ 281474976710656) (h : formL (ls s) = true) (hf : fitL (valL (ls s)) = false) (hW : TabW w) : Ret Tryd.prog 83 #[.string s] w (fun v w' => ∃ N, v = .tuple #[.int .i64 (Lib.atoiSat (ls s)), .iface 148 (.pointer (some ⟨N, 0, none⟩))] ∧ Sep w [] w') := by
  obtain ⟨ev, hv, hev⟩ := hW.2.2.1
  exact Calls.mono (Tryd.strconv_Atoi_range s hs (by rw [atoi_form h, if_neg (by rw [hf]; decide)]) ev w hv hev) fun e w' ⟨N, he, _, _, hb⟩ => ⟨_, he, N, rfl, .of_below hb⟩
theorem hb61 : HasBody Tryd.prog 61 := fun _ _ => by kernel_rfl
def K61_0 := adv 12 [] (bodyOf Tryd.f61)
def K61_1 := adv 6 [true] K61_0
def K61_2 := adv 12 [false] K61_0
def K61_3 := adv 1 [] K61_2
def K61_4 := adv 5 [] K61_3
def K61_5 := List.drop 1 K61_4
def K61_6 := adv 5 [] K61_5
def K61_7 := adv 1 [] K61_6
def K61_8 := adv 16 [true] K61_7
def K61_9 := adv 1 [] K61_7
def K61_10 := adv 2 [] (popK K61_9)
def K61_11 := adv 6 [] K61_10
def K61_12 := adv 6 [true] K61_11
def K61_13 := adv 11 [false] K61_11
def K61_14 := adv 5 [] K61_13
def K61_15 := adv 13 [true] K61_14
def K61_16 := adv 2 [] (popK K61_15)
def K61_17 := adv 12 [true] K61_16
def K61_18 := adv 2 [] K61_16
def K61_19 := adv 3 [] (popK K61_18)
def K61_20 := adv 6 [true] K61_19
def K61_21 := adv 5 [false] K61_19
def K61_22 := adv 5 [false] K61_14
def K61_23 := adv 20 [false] (popK K61_22)
def K61_24 := adv 18 [true] (popK K61_22)
def K61_25 := adv 17 [false] K61_10
def K61_26 := adv 5 [] K61_25
def K61_27 := adv 13 [true] K61_26
def K61_28 := adv 2 [] (popK K61_27)
def K61_29 := adv 12 [true] K61_28
def K61_30 := adv 2 [] K61_28
def K61_31 := adv 3 [] (popK K61_30)
def K61_32 := adv 6 [true] K61_31
def K61_33 := adv 5 [false] K61_31
def K61_34 := adv 5 [false] K61_26
def K61_35 := adv 20 [false] (popK K61_34)
def K61_36 := adv 18 [true] (popK K61_34)
def K61_37 := adv 1 [] K61_3
def K61_38 := adv 3 [] (popK K61_37)
def K61_39 := List.drop 1 K61_38
def K61_40 := adv 5 [] K61_39
def K61_41 := adv 1 [] K61_40
def K61_42 := adv 16 [true] K61_41
def K61_43 := adv 1 [] K61_41
def K61_44 := adv 2 [] (popK K61_43)
def K61_45 := adv 6 [] K61_44
def K61_46 := adv 6 [true] K61_45
def K61_47 := adv 11 [false] K61_45
def K61_48 := adv 5 [] K61_47
def K61_49 := adv 13 [true] K61_48
def K61_50 := adv 2 [] (popK K61_49)
def K61_51 := adv 12 [true] K61_50
def K61_52 := adv 2 [] K61_50
def K61_53 := adv 3 [] (popK K61_52)
def K61_54 := adv 6 [true] K61_53
def K61_55 := adv 5 [false] K61_53
def K61_56 := adv 5 [false] K61_48
def K61_57 := adv 20 [false] (popK K61_56)
def K61_58 := adv 18 [true] (popK K61_56)
def K61_59 := adv 17 [false] K61_44
def K61_60 := adv 5 [] K61_59
def K61_61 := adv 13 [true] K61_60
def K61_62 := adv 2 [] (popK K61_61)
def K61_63 := adv 12 [true] K61_62
def K61_64 := adv 2 [] K61_62
def K61_65 := adv 3 [] (popK K61_64)
def K61_66 := adv 6 [true] K61_65
def K61_67 := adv 5 [false] K61_65
def K61_68 := adv 5 [false] K61_60
def K61_69 := adv 20 [false] (popK K61_68)
def K61_70 := adv 18 [true] (popK K61_68)
def K61_71 := adv 3 [true] K61_38
set_option maxRecDepth 20000 in
set_option maxHeartbeats 20000000 in
theorem aparse_any (s : ByteArray) (w : World) (hs : s.size ≤ 281474976710656) (hW : TabW w) : Ret Tryd.prog 61 #[.string s] w (fun v w' => v = .tuple #[.int .i64 (parX s), .int .i64 (parE s)] ∧ Sep w [] w') := by
 have S0 := Sep.refl w
 refine Ret.named fun R hR => ?_
 refine Ret.of_J (N := 57) [(0, .string s)] Tryd.func61 rfl rfl (Nat.le_of_ble_eq_true (by kernel_rfl)) (by kernel_rfl) ?_
 refine J.run 12 K61_0 [(10, .bool (decide ((s.size : Int) > 24))), (0, .string s)] w (by kernel_rfl) ?_
 by_cases fk1 : (s.size : Int) > 24
 ·skip
  refine J.head (.bool true) (congrArg Value.bool (decide_eq_true fk1)) ?_
  refine J.run 6 K61_1 [(3, .int .i64 5), (2, .int .i64 0)] w (by kernel_rfl) ?_
  refine J.ret Tryd.f61 [.int .i64 0, .int .i64 5] Tryd.func61 ⟨by kernel_rfl, by kernel_rfl, trivial⟩ ?_
  refine hR _ _ ?_
  obtain ⟨e1, e2⟩ := par_five (s := s) (by omega)
  exact ⟨by rw [tup_two, e1, e2], S0.nil⟩
 refine J.head (.bool false) (congrArg Value.bool (decide_eq_false fk1)) ?_
 refine J.run 12 K61_2 [(13, .bool (!(s.toList == (⟨#[]⟩ : ByteArray).toList))), (4, .string s), (0, .string s)] w (by kernel_rfl) ?_
 refine J.head (.bool ((s.size : Int) != 0)) (congrArg Value.bool (beq_nil_neq _)) ?_
 refine J.run 1 K61_3 [(14, .bool ((s.size : Int) != 0)), (4, .string s), (0, .string s)] w (by kernel_rfl) ?_
 by_cases fk2 : (s.size : Int) = 0
 ·skip
  refine J.head (.bool false) (congrArg Value.bool (bne_eq_false_iff_eq.2 fk2)) ?_
  refine J.run 5 K61_4 [(18, .bool false), (4, .string s), (0, .string s)] w (by kernel_rfl) ?_
  have X1 : ∀ (d : ByteArray) (w1 : World), (ls d = digL (ls s)) → ((d).size ≤ s.size) → Sep w [] w1 → J Tryd.prog 61 57 R K61_5 [(0, .string s), (4, .string d)] w1 := by
   intro d w1 hd hds S1
   refine J.run 5 K61_6 [(22, .bool (d.toList == (⟨#[]⟩ : ByteArray).toList)), (0, .string s), (4, .string d)] w1 (by kernel_rfl) ?_
   refine J.head (.bool ((d.size : Int) == 0)) (congrArg Value.bool (beq_nil_eql _)) ?_
   refine J.run 1 K61_7 [(23, .bool ((d.size : Int) == 0)), (0, .string s), (4, .string d)] w1 (by kernel_rfl) ?_
   by_cases fk3 : (d.size : Int) = 0
   ·skip
    refine J.head (.bool true) (congrArg Value.bool (beq_iff_eq.2 fk3)) ?_
    refine J.run 16 K61_8 [(3, .int .i64 3), (2, .int .i64 0)] w1 (by kernel_rfl) ?_
    refine J.ret Tryd.f61 [.int .i64 0, .int .i64 3] Tryd.func61 ⟨by kernel_rfl, by kernel_rfl, trivial⟩ ?_
    refine hR _ _ ?_
    obtain ⟨e1, e2⟩ := par_three (s := s) (by omega) (by first | exact form_bad1 hd (by omega) | exact form_bad2 hd (i := i.toNat) (by omega) (by omega))
    exact ⟨by rw [tup_two, e1, e2], S1.nil⟩
   refine J.head (.bool false) (congrArg Value.bool (beq_eq_false_iff_ne.2 fk3)) ?_
   refine J.run 1 K61_9 [(24, .string d), (23, .bool false), (0, .string s), (4, .string d)] w1 (by kernel_rfl) ?_
   have := byteAt_bounds d 0
   refine J.ok (OK.byte 25 9 d (0 : Int) (byteAt d 0) (by kernel_rfl) (by kernel_rfl) (by omega) (by omega) (rfl)) ?_
   refine J.run 2 K61_10 [(27, .bool ((byteAt d 0) == 48)), (23, .bool false), (0, .string s), (4, .string d)] w1 (by kernel_rfl) ?_
   by_cases fk4 : (byteAt d 0) = 48
   rotate_left
   ·skip
    refine J.head (.bool false) (congrArg Value.bool (beq_eq_false_iff_ne.2 fk4)) ?_
    refine J.run 17 K61_25 [(35, .int .i64 0), (34, .int .i64 (d.size : Int)), (0, .string s), (4, .string d)] w1 (by kernel_rfl) ?_
    have L61_2 : ∀ (mm_ : Nat) (i : Int) (w5 : World), (0 ≤ i) → (i ≤ (d.size : Int)) → (∀ j, j < (i).toNat → 48 ≤ byteAt d j ∧ byteAt d j ≤ 57) → Sep w [] w5 → ((d.size : Int) - i).toNat = mm_ → J Tryd.prog 61 57 R K61_25 [(35, .int .i64 i), (34, .int .i64 (d.size : Int)), (0, .string s), (4, .string d)] w5 := by
     intro mm2
     induction mm2 using Nat.strongRecOn with
     | _ mm2 ih2 =>
     intro i w5 h0 h1 hq S5 hm2
     refine J.run 5 K61_26 [(36, .bool (decide (i < (d.size : Int)))), (35, .int .i64 i), (34, .int .i64 (d.size : Int)), (0, .string s), (4, .string d)] w5 (by kernel_rfl) ?_
     by_cases fk10 : i < (d.size : Int)
     rotate_left
     ·skip
      refine J.head (.bool false) (congrArg Value.bool (decide_eq_false fk10)) ?_
      have hqd : ∀ j, j < d.size → 48 ≤ byteAt d j ∧ byteAt d j ≤ 57 := fun j hj => hq j (by omega)
      have hf := form_good hd ⟨by omega, by omega⟩ hqd
      refine J.run 5 K61_34 [(50, .string s)] w5 (by kernel_rfl) ?_
      rcases Bool.eq_false_or_eq_true (fitL (valL (ls s))) with fk13 | fk13
      rotate_left
      ·skip
       refine J.callF 51 83 #[.string s] hb83 (by kernel_rfl) (atoi_big s _ (by omega) hf fk13 (tabW_sep hW S5)) ?_
       rintro _ w7 ⟨en2, rfl, T4⟩
       have S7 : Sep w [] w7 := S5.trans T4
       clear T4 S5
       refine J.run 18 K61_36 [(3, .int .i64 9), (2, .int .i64 0)] w7 (by kernel_rfl) ?_
       refine J.ret Tryd.f61 [.int .i64 0, .int .i64 9] Tryd.func61 ⟨by kernel_rfl, by kernel_rfl, trivial⟩ ?_
       refine hR _ _ ?_
       obtain ⟨e1, e2⟩ := par_nine (s := s) (by omega) hf fk13
       exact ⟨by rw [tup_two, e1, e2], S7.nil⟩
      refine J.callF 51 83 #[.string s] hb83 (by kernel_rfl) (atoi_ok s _ (by omega) hf fk13) ?_
      rintro _ w6 ⟨rfl, T3⟩
      have S6 : Sep w [] w6 := S5.trans T3
      clear T3 S5
      refine J.run 20 K61_35 [(3, .int .i64 0), (2, .int .i64 (valL (ls s)))] w6 (by kernel_rfl) ?_
      refine J.ret Tryd.f61 [.int .i64 (valL (ls s)), .int .i64 0] Tryd.func61 ⟨by kernel_rfl, by kernel_rfl, trivial⟩ ?_
      refine hR _ _ ?_
      obtain ⟨e1, e2⟩ := par_zero (s := s) (by omega) hf fk13
      exact ⟨by rw [tup_two, e1, e2], S6.nil⟩
     refine J.head (.bool true) (congrArg Value.bool (decide_eq_true fk10)) ?_
     refine J.run 13 K61_27 [(39, .int .i64 i), (38, .string d), (5, .int .i64 i), (35, .int .i64 i), (34, .int .i64 (d.size : Int)), (0, .string s), (4, .string d)] w5 (by kernel_rfl) ?_
     have := byteAt_bounds d (i).toNat
     refine J.ok (OK.byte 40 9 d i (byteAt d (i).toNat) (by kernel_rfl) (by kernel_rfl) (by omega) (by omega) (rfl)) ?_
     refine J.run 2 K61_28 [(42, .bool (decide ((byteAt d (i).toNat) < 48))), (5, .int .i64 i), (35, .int .i64 i), (34, .int .i64 (d.size : Int)), (0, .string s), (4, .string d)] w5 (by kernel_rfl) ?_
     by_cases fk11 : (byteAt d (i).toNat) < 48
     ·skip
      refine J.head (.bool true) (congrArg Value.bool (decide_eq_true fk11)) ?_
      refine J.run 12 K61_29 [(3, .int .i64 3), (2, .int .i64 0)] w5 (by kernel_rfl) ?_
      refine J.ret Tryd.f61 [.int .i64 0, .int .i64 3] Tryd.func61 ⟨by kernel_rfl, by kernel_rfl, trivial⟩ ?_
      refine hR _ _ ?_
      obtain ⟨e1, e2⟩ := par_three (s := s) (by omega) (by first | exact form_bad1 hd (by omega) | exact form_bad2 hd (i := i.toNat) (by omega) (by omega))
      exact ⟨by rw [tup_two, e1, e2], S5.nil⟩
     refine J.head (.bool false) (congrArg Value.bool (decide_eq_false fk11)) ?_
     refine J.run 2 K61_30 [(44, .int .i64 i), (43, .string d), (42, .bool false), (35, .int .i64 i), (34, .int .i64 (d.size : Int)), (0, .string s), (4, .string d)] w5 (by kernel_rfl) ?_
     have := byteAt_bounds d (i).toNat
     refine J.ok (OK.byte 45 9 d i (byteAt d (i).toNat) (by kernel_rfl) (by kernel_rfl) (by omega) (by omega) (rfl)) ?_
     refine J.run 3 K61_31 [(47, .bool (decide ((byteAt d (i).toNat) > 57))), (35, .int .i64 i), (34, .int .i64 (d.size : Int)), (0, .string s), (4, .string d)] w5 (by kernel_rfl) ?_
     by_cases fk12 : (byteAt d (i).toNat) > 57
     ·skip
      refine J.head (.bool true) (congrArg Value.bool (decide_eq_true fk12)) ?_
      refine J.run 6 K61_32 [(3, .int .i64 3), (2, .int .i64 0)] w5 (by kernel_rfl) ?_
      refine J.ret Tryd.f61 [.int .i64 0, .int .i64 3] Tryd.func61 ⟨by kernel_rfl, by kernel_rfl, trivial⟩ ?_
      refine hR _ _ ?_
      obtain ⟨e1, e2⟩ := par_three (s := s) (by omega) (by first | exact form_bad1 hd (by omega) | exact form_bad2 hd (i := i.toNat) (by omega) (by omega))
      exact ⟨by rw [tup_two, e1, e2], S5.nil⟩
     refine J.head (.bool false) (congrArg Value.bool (decide_eq_false fk12)) ?_
     refine J.run 5 K61_33 [(48, .int .i64 (IntKind.wrap .i64 (i + 1))), (34, .int .i64 (d.size : Int)), (0, .string s), (4, .string d)] w5 (by kernel_rfl) ?_
     refine J.head (.int .i64 (i + 1)) (congrArg (Value.int .i64) (IntWalk.i64_in _ (by omega))) ?_
     refine J.run 3 K61_25 [(35, .int .i64 (i + 1)), (34, .int .i64 (d.size : Int)), (0, .string s), (4, .string d)] w5 (by kernel_rfl) ?_
     refine J.run 0 K61_25 [(35, .int .i64 (i + 1)), (34, .int .i64 (d.size : Int)), (0, .string s), (4, .string d)] w5 (by kernel_rfl) ?_
     exact ih2 _ (show ((d.size : Int) - (i + 1)).toNat < mm2 from by omega) (i + 1) w5 (by omega) (by omega) (dg_step (q := fun j => 48 ≤ byteAt d j ∧ byteAt d j ≤ 57) h0 hq (by omega)) S5 rfl
    exact L61_2 _ 0 w1 (by omega) (by omega) (by intro j hj; simp at hj) S1 rfl
   refine J.head (.bool true) (congrArg Value.bool (beq_iff_eq.2 fk4)) ?_
   refine J.run 6 K61_11 [(32, .bool (decide ((s.size : Int) > 1))), (0, .string s), (4, .string d)] w1 (by kernel_rfl) ?_
   by_cases fk5 : (s.size : Int) > 1
   ·skip
    refine J.head (.bool true) (congrArg Value.bool (decide_eq_true fk5)) ?_
    refine J.run 6 K61_12 [(3, .int .i64 3), (2, .int .i64 0)] w1 (by kernel_rfl) ?_
    refine J.ret Tryd.f61 [.int .i64 0, .int .i64 3] Tryd.func61 ⟨by kernel_rfl, by kernel_rfl, trivial⟩ ?_
    refine hR _ _ ?_
    obtain ⟨e1, e2⟩ := par_three (s := s) (by omega) (by first | exact form_bad1 hd (by omega) | exact form_bad2 hd (i := i.toNat) (by omega) (by omega))
    exact ⟨by rw [tup_two, e1, e2], S1.nil⟩
   refine J.head (.bool false) (congrArg Value.bool (decide_eq_false fk5)) ?_
   refine J.run 11 K61_13 [(35, .int .i64 0), (34, .int .i64 (d.size : Int)), (0, .string s), (4, .string d)] w1 (by kernel_rfl) ?_
   have L61_1 : ∀ (mm_ : Nat) (i : Int) (w2 : World), (0 ≤ i) → (i ≤ (d.size : Int)) → (∀ j, j < (i).toNat → 48 ≤ byteAt d j ∧ byteAt d j ≤ 57) → Sep w [] w2 → ((d.size : Int) - i).toNat = mm_ → J Tryd.prog 61 57 R K61_13 [(35, .int .i64 i), (34, .int .i64 (d.size : Int)), (0, .string s), (4, .string d)] w2 := by
    intro mm1
    induction mm1 using Nat.strongRecOn with
    | _ mm1 ih1 =>
    intro i w2 h0 h1 hq S2 hm1
    refine J.run 5 K61_14 [(36, .bool (decide (i < (d.size : Int)))), (35, .int .i64 i), (34, .int .i64 (d.size : Int)), (0, .string s), (4, .string d)] w2 (by kernel_rfl) ?_
    by_cases fk6 : i < (d.size : Int)
    rotate_left
    ·skip
     refine J.head (.bool false) (congrArg Value.bool (decide_eq_false fk6)) ?_
     have hqd : ∀ j, j < d.size → 48 ≤ byteAt d j ∧ byteAt d j ≤ 57 := fun j hj => hq j (by omega)
     have hf := form_good hd ⟨by omega, by omega⟩ hqd
     refine J.run 5 K61_22 [(50, .string s)] w2 (by kernel_rfl) ?_
     rcases Bool.eq_false_or_eq_true (fitL (valL (ls s))) with fk9 | fk9
     rotate_left
     ·skip
      refine J.callF 51 83 #[.string s] hb83 (by kernel_rfl) (atoi_big s _ (by omega) hf fk9 (tabW_sep hW S2)) ?_
      rintro _ w4 ⟨en1, rfl, T2⟩
      have S4 : Sep w [] w4 := S2.trans T2
      clear T2 S2
      refine J.run 18 K61_24 [(3, .int .i64 9), (2, .int .i64 0)] w4 (by kernel_rfl) ?_
      refine J.ret Tryd.f61 [.int .i64 0, .int .i64 9] Tryd.func61 ⟨by kernel_rfl, by kernel_rfl, trivial⟩ ?_
      refine hR _ _ ?_
      obtain ⟨e1, e2⟩ := par_nine (s := s) (by omega) hf fk9
      exact ⟨by rw [tup_two, e1, e2], S4.nil⟩
     refine J.callF 51 83 #[.string s] hb83 (by kernel_rfl) (atoi_ok s _ (by omega) hf fk9) ?_
     rintro _ w3 ⟨rfl, T1⟩
     have S3 : Sep w [] w3 := S2.trans T1
     clear T1 S2
     refine J.run 20 K61_23 [(3, .int .i64 0), (2, .int .i64 (valL (ls s)))] w3 (by kernel_rfl) ?_
     refine J.ret Tryd.f61 [.int .i64 (valL (ls s)), .int .i64 0] Tryd.func61 ⟨by kernel_rfl, by kernel_rfl, trivial⟩ ?_
     refine hR _ _ ?_
     obtain ⟨e1, e2⟩ := par_zero (s := s) (by omega) hf fk9
     exact ⟨by rw [tup_two, e1, e2], S3.nil⟩
    refine J.head (.bool true) (congrArg Value.bool (decide_eq_true fk6)) ?_
    refine J.run 13 K61_15 [(39, .int .i64 i), (38, .string d), (5, .int .i64 i), (35, .int .i64 i), (34, .int .i64 (d.size : Int)), (0, .string s), (4, .string d)] w2 (by kernel_rfl) ?_
    have := byteAt_bounds d (i).toNat
    refine J.ok (OK.byte 40 9 d i (byteAt d (i).toNat) (by kernel_rfl) (by kernel_rfl) (by omega) (by omega) (rfl)) ?_
    refine J.run 2 K61_16 [(42, .bool (decide ((byteAt d (i).toNat) < 48))), (5, .int .i64 i), (35, .int .i64 i), (34, .int .i64 (d.size : Int)), (0, .string s), (4, .string d)] w2 (by kernel_rfl) ?_
    by_cases fk7 : (byteAt d (i).toNat) < 48
    ·skip
     refine J.head (.bool true) (congrArg Value.bool (decide_eq_true fk7)) ?_
     refine J.run 12 K61_17 [(3, .int .i64 3), (2, .int .i64 0)] w2 (by kernel_rfl) ?_
     refine J.ret Tryd.f61 [.int .i64 0, .int .i64 3] Tryd.func61 ⟨by kernel_rfl, by kernel_rfl, trivial⟩ ?_
     refine hR _ _ ?_
     obtain ⟨e1, e2⟩ := par_three (s := s) (by omega) (by first | exact form_bad1 hd (by omega) | exact form_bad2 hd (i := i.toNat) (by omega) (by omega))
     exact ⟨by rw [tup_two, e1, e2], S2.nil⟩
    refine J.head (.bool false) (congrArg Value.bool (decide_eq_false fk7)) ?_
    refine J.run 2 K61_18 [(44, .int .i64 i), (43, .string d), (42, .bool false), (35, .int .i64 i), (34, .int .i64 (d.size : Int)), (0, .string s), (4, .string d)] w2 (by kernel_rfl) ?_
    have := byteAt_bounds d (i).toNat
    refine J.ok (OK.byte 45 9 d i (byteAt d (i).toNat) (by kernel_rfl) (by kernel_rfl) (by omega) (by omega) (rfl)) ?_
    refine J.run 3 K61_19 [(47, .bool (decide ((byteAt d (i).toNat) > 57))), (35, .int .i64 i), (34, .int .i64 (d.size : Int)), (0, .string s), (4, .string d)] w2 (by kernel_rfl) ?_
    by_cases fk8 : (byteAt d (i).toNat) > 57
    ·skip
     refine J.head (.bool true) (congrArg Value.bool (decide_eq_true fk8)) ?_
     refine J.run 6 K61_20 [(3, .int .i64 3), (2, .int .i64 0)] w2 (by kernel_rfl) ?_
     refine J.ret Tryd.f61 [.int .i64 0, .int .i64 3] Tryd.func61 ⟨by kernel_rfl, by kernel_rfl, trivial⟩ ?_
     refine hR _ _ ?_
     obtain ⟨e1, e2⟩ := par_three (s := s) (by omega) (by first | exact form_bad1 hd (by omega) | exact form_bad2 hd (i := i.toNat) (by omega) (by omega))
     exact ⟨by rw [tup_two, e1, e2], S2.nil⟩
    refine J.head (.bool false) (congrArg Value.bool (decide_eq_false fk8)) ?_
    refine J.run 5 K61_21 [(48, .int .i64 (IntKind.wrap .i64 (i + 1))), (34, .int .i64 (d.size : Int)), (0, .string s), (4, .string d)] w2 (by kernel_rfl) ?_
    refine J.head (.int .i64 (i + 1)) (congrArg (Value.int .i64) (IntWalk.i64_in _ (by omega))) ?_
    refine J.run 3 K61_13 [(35, .int .i64 (i + 1)), (34, .int .i64 (d.size : Int)), (0, .string s), (4, .string d)] w2 (by kernel_rfl) ?_
    refine J.run 0 K61_13 [(35, .int .i64 (i + 1)), (34, .int .i64 (d.size : Int)), (0, .string s), (4, .string d)] w2 (by kernel_rfl) ?_
    exact ih1 _ (show ((d.size : Int) - (i + 1)).toNat < mm1 from by omega) (i + 1) w2 (by omega) (by omega) (dg_step (q := fun j => 48 ≤ byteAt d j ∧ byteAt d j ≤ 57) h0 hq (by omega)) S2 rfl
   exact L61_1 _ 0 w1 (by omega) (by omega) (by intro j hj; simp at hj) S1 rfl
  refine J.run 2 K61_5 [(0, .string s), (4, .string s)] w (by kernel_rfl) ?_
  exact X1 s w (by first | exact (dig_minus (by omega) (by omega)).1 | exact (dig_plain (by omega)).1) (by first | omega | (rw [size_extract s (Nat.le_refl _)]; omega)) S0
 refine J.head (.bool true) (congrArg Value.bool (bne_iff_ne.2 fk2)) ?_
 refine J.run 1 K61_37 [(15, .string s), (14, .bool true), (4, .string s), (0, .string s)] w (by kernel_rfl) ?_
 have := byteAt_bounds s 0
 refine J.ok (OK.byte 16 9 s (0 : Int) (byteAt s 0) (by kernel_rfl) (by kernel_rfl) (by omega) (by omega) (rfl)) ?_
 refine J.run 3 K61_38 [(18, .bool ((byteAt s 0) == 45)), (4, .string s), (0, .string s)] w (by kernel_rfl) ?_
 have X2 : ∀ (d : ByteArray) (w8 : World), (ls d = digL (ls s)) → ((d).size ≤ s.size) → Sep w [] w8 → J Tryd.prog 61 57 R K61_39 [(0, .string s), (4, .string d)] w8 := by
  intro d w8 hd hds S8
  refine J.run 5 K61_40 [(22, .bool (d.toList == (⟨#[]⟩ : ByteArray).toList)), (0, .string s), (4, .string d)] w8 (by kernel_rfl) ?_
  refine J.head (.bool ((d.size : Int) == 0)) (congrArg Value.bool (beq_nil_eql _)) ?_
  refine J.run 1 K61_41 [(23, .bool ((d.size : Int) == 0)), (0, .string s), (4, .string d)] w8 (by kernel_rfl) ?_
  by_cases fk14 : (d.size : Int) = 0
  ·skip
   refine J.head (.bool true) (congrArg Value.bool (beq_iff_eq.2 fk14)) ?_
   refine J.run 16 K61_42 [(3, .int .i64 3), (2, .int .i64 0)] w8 (by kernel_rfl) ?_
   refine J.ret Tryd.f61 [.int .i64 0, .int .i64 3] Tryd.func61 ⟨by kernel_rfl, by kernel_rfl, trivial⟩ ?_
   refine hR _ _ ?_
   obtain ⟨e1, e2⟩ := par_three (s := s) (by omega) (by first | exact form_bad1 hd (by omega) | exact form_bad2 hd (i := i.toNat) (by omega) (by omega))
   exact ⟨by rw [tup_two, e1, e2], S8.nil⟩
  refine J.head (.bool false) (congrArg Value.bool (beq_eq_false_iff_ne.2 fk14)) ?_
  refine J.run 1 K61_43 [(24, .string d), (23, .bool false), (0, .string s), (4, .string d)] w8 (by kernel_rfl) ?_
  have := byteAt_bounds d 0
  refine J.ok (OK.byte 25 9 d (0 : Int) (byteAt d 0) (by kernel_rfl) (by kernel_rfl) (by omega) (by omega) (rfl)) ?_
  refine J.run 2 K61_44 [(27, .bool ((byteAt d 0) == 48)), (23, .bool false), (0, .string s), (4, .string d)] w8 (by kernel_rfl) ?_
  by_cases fk15 : (byteAt d 0) = 48
  rotate_left
  ·skip
   refine J.head (.bool false) (congrArg Value.bool (beq_eq_false_iff_ne.2 fk15)) ?_
   refine J.run 17 K61_59 [(35, .int .i64 0), (34, .int .i64 (d.size : Int)), (0, .string s), (4, .string d)] w8 (by kernel_rfl) ?_
   have L61_4 : ∀ (mm_ : Nat) (i : Int) (w12 : World), (0 ≤ i) → (i ≤ (d.size : Int)) → (∀ j, j < (i).toNat → 48 ≤ byteAt d j ∧ byteAt d j ≤ 57) → Sep w [] w12 → ((d.size : Int) - i).toNat = mm_ → J Tryd.prog 61 57 R K61_59 [(35, .int .i64 i), (34, .int .i64 (d.size : Int)), (0, .string s), (4, .string d)] w12 := by
    intro mm4
    induction mm4 using Nat.strongRecOn with
    | _ mm4 ih4 =>
    intro i w12 h0 h1 hq S12 hm4
    refine J.run 5 K61_60 [(36, .bool (decide (i < (d.size : Int)))), (35, .int .i64 i), (34, .int .i64 (d.size : Int)), (0, .string s), (4, .string d)] w12 (by kernel_rfl) ?_
    by_cases fk21 : i < (d.size : Int)
    rotate_left
    ·skip
     refine J.head (.bool false) (congrArg Value.bool (decide_eq_false fk21)) ?_
     have hqd : ∀ j, j < d.size → 48 ≤ byteAt d j ∧ byteAt d j ≤ 57 := fun j hj => hq j (by omega)
     have hf := form_good hd ⟨by omega, by omega⟩ hqd
     refine J.run 5 K61_68 [(50, .string s)] w12 (by kernel_rfl) ?_
     rcases Bool.eq_false_or_eq_true (fitL (valL (ls s))) with fk24 | fk24
     ·skip
      refine J.callF 51 83 #[.string s] hb83 (by kernel_rfl) (atoi_ok s _ (by omega) hf fk24) ?_
      rintro _ w13 ⟨rfl, T7⟩
      have S13 : Sep w [] w13 := S12.trans T7
      clear T7 S12
      refine J.run 20 K61_69 [(3, .int .i64 0), (2, .int .i64 (valL (ls s)))] w13 (by kernel_rfl) ?_
      refine J.ret Tryd.f61 [.int .i64 (valL (ls s)), .int .i64 0] Tryd.func61 ⟨by kernel_rfl, by kernel_rfl, trivial⟩ ?_
      refine hR _ _ ?_
      obtain ⟨e1, e2⟩ := par_zero (s := s) (by omega) hf fk24
      exact ⟨by rw [tup_two, e1, e2], S13.nil⟩
     refine J.callF 51 83 #[.string s] hb83 (by kernel_rfl) (atoi_big s _ (by omega) hf fk24 (tabW_sep hW S12)) ?_
     rintro _ w14 ⟨en4, rfl, T8⟩
     have S14 : Sep w [] w14 := S12.trans T8
     clear T8 S12
     refine J.run 18 K61_70 [(3, .int .i64 9), (2, .int .i64 0)] w14 (by kernel_rfl) ?_
     refine J.ret Tryd.f61 [.int .i64 0, .int .i64 9] Tryd.func61 ⟨by kernel_rfl, by kernel_rfl, trivial⟩ ?_
     refine hR _ _ ?_
     obtain ⟨e1, e2⟩ := par_nine (s := s) (by omega) hf fk24
     exact ⟨by rw [tup_two, e1, e2], S14.nil⟩
    refine J.head (.bool true) (congrArg Value.bool (decide_eq_true fk21)) ?_
    refine J.run 13 K61_61 [(39, .int .i64 i), (38, .string d), (5, .int .i64 i), (35, .int .i64 i), (34, .int .i64 (d.size : Int)), (0, .string s), (4, .string d)] w12 (by kernel_rfl) ?_
    have := byteAt_bounds d (i).toNat
    refine J.ok (OK.byte 40 9 d i (byteAt d (i).toNat) (by kernel_rfl) (by kernel_rfl) (by omega) (by omega) (rfl)) ?_
    refine J.run 2 K61_62 [(42, .bool (decide ((byteAt d (i).toNat) < 48))), (5, .int .i64 i), (35, .int .i64 i), (34, .int .i64 (d.size : Int)), (0, .string s), (4, .string d)] w12 (by kernel_rfl) ?_
    by_cases fk22 : (byteAt d (i).toNat) < 48
    ·skip
     refine J.head (.bool true) (congrArg Value.bool (decide_eq_true fk22)) ?_
     refine J.run 12 K61_63 [(3, .int .i64 3), (2, .int .i64 0)] w12 (by kernel_rfl) ?_
     refine J.ret Tryd.f61 [.int .i64 0, .int .i64 3] Tryd.func61 ⟨by kernel_rfl, by kernel_rfl, trivial⟩ ?_
     refine hR _ _ ?_
     obtain ⟨e1, e2⟩ := par_three (s := s) (by omega) (by first | exact form_bad1 hd (by omega) | exact form_bad2 hd (i := i.toNat) (by omega) (by omega))
     exact ⟨by rw [tup_two, e1, e2], S12.nil⟩
    refine J.head (.bool false) (congrArg Value.bool (decide_eq_false fk22)) ?_
    refine J.run 2 K61_64 [(44, .int .i64 i), (43, .string d), (42, .bool false), (35, .int .i64 i), (34, .int .i64 (d.size : Int)), (0, .string s), (4, .string d)] w12 (by kernel_rfl) ?_
    have := byteAt_bounds d (i).toNat
    refine J.ok (OK.byte 45 9 d i (byteAt d (i).toNat) (by kernel_rfl) (by kernel_rfl) (by omega) (by omega) (rfl)) ?_
    refine J.run 3 K61_65 [(47, .bool (decide ((byteAt d (i).toNat) > 57))), (35, .int .i64 i), (34, .int .i64 (d.size : Int)), (0, .string s), (4, .string d)] w12 (by kernel_rfl) ?_
    by_cases fk23 : (byteAt d (i).toNat) > 57
    ·skip
     refine J.head (.bool true) (congrArg Value.bool (decide_eq_true fk23)) ?_
     refine J.run 6 K61_66 [(3, .int .i64 3), (2, .int .i64 0)] w12 (by kernel_rfl) ?_
     refine J.ret Tryd.f61 [.int .i64 0, .int .i64 3] Tryd.func61 ⟨by kernel_rfl, by kernel_rfl, trivial⟩ ?_
     refine hR _ _ ?_
     obtain ⟨e1, e2⟩ := par_three (s := s) (by omega) (by first | exact form_bad1 hd (by omega) | exact form_bad2 hd (i := i.toNat) (by omega) (by omega))
     exact ⟨by rw [tup_two, e1, e2], S12.nil⟩
    refine J.head (.bool false) (congrArg Value.bool (decide_eq_false fk23)) ?_
    refine J.run 5 K61_67 [(48, .int .i64 (IntKind.wrap .i64 (i + 1))), (34, .int .i64 (d.size : Int)), (0, .string s), (4, .string d)] w12 (by kernel_rfl) ?_
    refine J.head (.int .i64 (i + 1)) (congrArg (Value.int .i64) (IntWalk.i64_in _ (by omega))) ?_
    refine J.run 3 K61_59 [(35, .int .i64 (i + 1)), (34, .int .i64 (d.size : Int)), (0, .string s), (4, .string d)] w12 (by kernel_rfl) ?_
    refine J.run 0 K61_59 [(35, .int .i64 (i + 1)), (34, .int .i64 (d.size : Int)), (0, .string s), (4, .string d)] w12 (by kernel_rfl) ?_
    exact ih4 _ (show ((d.size : Int) - (i + 1)).toNat < mm4 from by omega) (i + 1) w12 (by omega) (by omega) (dg_step (q := fun j => 48 ≤ byteAt d j ∧ byteAt d j ≤ 57) h0 hq (by omega)) S12 rfl
   exact L61_4 _ 0 w8 (by omega) (by omega) (by intro j hj; simp at hj) S8 rfl
  refine J.head (.bool true) (congrArg Value.bool (beq_iff_eq.2 fk15)) ?_
  refine J.run 6 K61_45 [(32, .bool (decide ((s.size : Int) > 1))), (0, .string s), (4, .string d)] w8 (by kernel_rfl) ?_
  by_cases fk16 : (s.size : Int) > 1
  ·skip
   refine J.head (.bool true) (congrArg Value.bool (decide_eq_true fk16)) ?_
   refine J.run 6 K61_46 [(3, .int .i64 3), (2, .int .i64 0)] w8 (by kernel_rfl) ?_
   refine J.ret Tryd.f61 [.int .i64 0, .int .i64 3] Tryd.func61 ⟨by kernel_rfl, by kernel_rfl, trivial⟩ ?_
   refine hR _ _ ?_
   obtain ⟨e1, e2⟩ := par_three (s := s) (by omega) (by first | exact form_bad1 hd (by omega) | exact form_bad2 hd (i := i.toNat) (by omega) (by omega))
   exact ⟨by rw [tup_two, e1, e2], S8.nil⟩
  refine J.head (.bool false) (congrArg Value.bool (decide_eq_false fk16)) ?_
  refine J.run 11 K61_47 [(35, .int .i64 0), (34, .int .i64 (d.size : Int)), (0, .string s), (4, .string d)] w8 (by kernel_rfl) ?_
  have L61_3 : ∀ (mm_ : Nat) (i : Int) (w9 : World), (0 ≤ i) → (i ≤ (d.size : Int)) → (∀ j, j < (i).toNat → 48 ≤ byteAt d j ∧ byteAt d j ≤ 57) → Sep w [] w9 → ((d.size : Int) - i).toNat = mm_ → J Tryd.prog 61 57 R K61_47 [(35, .int .i64 i), (34, .int .i64 (d.size : Int)), (0, .string s), (4, .string d)] w9 := by
   intro mm3
   induction mm3 using Nat.strongRecOn with
   | _ mm3 ih3 =>
   intro i w9 h0 h1 hq S9 hm3
   refine J.run 5 K61_48 [(36, .bool (decide (i < (d.size : Int)))), (35, .int .i64 i), (34, .int .i64 (d.size : Int)), (0, .string s), (4, .string d)] w9 (by kernel_rfl) ?_
   by_cases fk17 : i < (d.size : Int)
   rotate_left
   ·skip
    refine J.head (.bool false) (congrArg Value.bool (decide_eq_false fk17)) ?_
    have hqd : ∀ j, j < d.size → 48 ≤ byteAt d j ∧ byteAt d j ≤ 57 := fun j hj => hq j (by omega)
    have hf := form_good hd ⟨by omega, by omega⟩ hqd
    refine J.run 5 K61_56 [(50, .string s)] w9 (by kernel_rfl) ?_
    rcases Bool.eq_false_or_eq_true (fitL (valL (ls s))) with fk20 | fk20
    rotate_left
    ·skip
     refine J.callF 51 83 #[.string s] hb83 (by kernel_rfl) (atoi_big s _ (by omega) hf fk20 (tabW_sep hW S9)) ?_
     rintro _ w11 ⟨en3, rfl, T6⟩
     have S11 : Sep w [] w11 := S9.trans T6
     clear T6 S9
     refine J.run 18 K61_58 [(3, .int .i64 9), (2, .int .i64 0)] w11 (by kernel_rfl) ?_
     refine J.ret Tryd.f61 [.int .i64 0, .int .i64 9] Tryd.func61 ⟨by kernel_rfl, by kernel_rfl, trivial⟩ ?_
     refine hR _ _ ?_
     obtain ⟨e1, e2⟩ := par_nine (s := s) (by omega) hf fk20
     exact ⟨by rw [tup_two, e1, e2], S11.nil⟩
    refine J.callF 51 83 #[.string s] hb83 (by kernel_rfl) (atoi_ok s _ (by omega) hf fk20) ?_
    rintro _ w10 ⟨rfl, T5⟩
    have S10 : Sep w [] w10 := S9.trans T5
    clear T5 S9
    refine J.run 20 K61_57 [(3, .int .i64 0), (2, .int .i64 (valL (ls s)))] w10 (by kernel_rfl) ?_
    refine J.ret Tryd.f61 [.int .i64 (valL (ls s)), .int .i64 0] Tryd.func61 ⟨by kernel_rfl, by kernel_rfl, trivial⟩ ?_
    refine hR _ _ ?_
    obtain ⟨e1, e2⟩ := par_zero (s := s) (by omega) hf fk20
    exact ⟨by rw [tup_two, e1, e2], S10.nil⟩
   refine J.head (.bool true) (congrArg Value.bool (decide_eq_true fk17)) ?_
   refine J.run 13 K61_49 [(39, .int .i64 i), (38, .string d), (5, .int .i64 i), (35, .int .i64 i), (34, .int .i64 (d.size : Int)), (0, .string s), (4, .string d)] w9 (by kernel_rfl) ?_
   have := byteAt_bounds d (i).toNat
   refine J.ok (OK.byte 40 9 d i (byteAt d (i).toNat) (by kernel_rfl) (by kernel_rfl) (by omega) (by omega) (rfl)) ?_
   refine J.run 2 K61_50 [(42, .bool (decide ((byteAt d (i).toNat) < 48))), (5, .int .i64 i), (35, .int .i64 i), (34, .int .i64 (d.size : Int)), (0, .string s), (4, .string d)] w9 (by kernel_rfl) ?_
   by_cases fk18 : (byteAt d (i).toNat) < 48
   ·skip
    refine J.head (.bool true) (congrArg Value.bool (decide_eq_true fk18)) ?_
    refine J.run 12 K61_51 [(3, .int .i64 3), (2, .int .i64 0)] w9 (by kernel_rfl) ?_
    refine J.ret Tryd.f61 [.int .i64 0, .int .i64 3] Tryd.func61 ⟨by kernel_rfl, by kernel_rfl, trivial⟩ ?_
    refine hR _ _ ?_
    obtain ⟨e1, e2⟩ := par_three (s := s) (by omega) (by first | exact form_bad1 hd (by omega) | exact form_bad2 hd (i := i.toNat) (by omega) (by omega))
    exact ⟨by rw [tup_two, e1, e2], S9.nil⟩
   refine J.head (.bool false) (congrArg Value.bool (decide_eq_false fk18)) ?_
   refine J.run 2 K61_52 [(44, .int .i64 i), (43, .string d), (42, .bool false), (35, .int .i64 i), (34, .int .i64 (d.size : Int)), (0, .string s), (4, .string d)] w9 (by kernel_rfl) ?_
   have := byteAt_bounds d (i).toNat
   refine J.ok (OK.byte 45 9 d i (byteAt d (i).toNat) (by kernel_rfl) (by kernel_rfl) (by omega) (by omega) (rfl)) ?_
   refine J.run 3 K61_53 [(47, .bool (decide ((byteAt d (i).toNat) > 57))), (35, .int .i64 i), (34, .int .i64 (d.size : Int)), (0, .string s), (4, .string d)] w9 (by kernel_rfl) ?_
   by_cases fk19 : (byteAt d (i).toNat) > 57
   ·skip
    refine J.head (.bool true) (congrArg Value.bool (decide_eq_true fk19)) ?_
    refine J.run 6 K61_54 [(3, .int .i64 3), (2, .int .i64 0)] w9 (by kernel_rfl) ?_
    refine J.ret Tryd.f61 [.int .i64 0, .int .i64 3] Tryd.func61 ⟨by kernel_rfl, by kernel_rfl, trivial⟩ ?_
    refine hR _ _ ?_
    obtain ⟨e1, e2⟩ := par_three (s := s) (by omega) (by first | exact form_bad1 hd (by omega) | exact form_bad2 hd (i := i.toNat) (by omega) (by omega))
    exact ⟨by rw [tup_two, e1, e2], S9.nil⟩
   refine J.head (.bool false) (congrArg Value.bool (decide_eq_false fk19)) ?_
   refine J.run 5 K61_55 [(48, .int .i64 (IntKind.wrap .i64 (i + 1))), (34, .int .i64 (d.size : Int)), (0, .string s), (4, .string d)] w9 (by kernel_rfl) ?_
   refine J.head (.int .i64 (i + 1)) (congrArg (Value.int .i64) (IntWalk.i64_in _ (by omega))) ?_
   refine J.run 3 K61_47 [(35, .int .i64 (i + 1)), (34, .int .i64 (d.size : Int)), (0, .string s), (4, .string d)] w9 (by kernel_rfl) ?_
   refine J.run 0 K61_47 [(35, .int .i64 (i + 1)), (34, .int .i64 (d.size : Int)), (0, .string s), (4, .string d)] w9 (by kernel_rfl) ?_
   exact ih3 _ (show ((d.size : Int) - (i + 1)).toNat < mm3 from by omega) (i + 1) w9 (by omega) (by omega) (dg_step (q := fun j => 48 ≤ byteAt d j ∧ byteAt d j ≤ 57) h0 hq (by omega)) S9 rfl
  exact L61_3 _ 0 w8 (by omega) (by omega) (by intro j hj; simp at hj) S8 rfl
 by_cases fk25 : (byteAt s 0) = 45
 rotate_left
 ·skip
  refine J.head (.bool false) (congrArg Value.bool (beq_eq_false_iff_ne.2 fk25)) ?_
  refine J.run 2 K61_39 [(0, .string s), (4, .string s)] w (by kernel_rfl) ?_
  exact X2 s w (by first | exact (dig_minus (by omega) (by omega)).1 | exact (dig_plain (by omega)).1) (by first | omega | (rw [size_extract s (Nat.le_refl _)]; omega)) S0
 refine J.head (.bool true) (congrArg Value.bool (beq_iff_eq.2 fk25)) ?_
 refine J.run 3 K61_71 [(19, .string s), (0, .string s)] w (by kernel_rfl) ?_
 refine J.ok (OK.sliceT 20 9 s (some (.int .i64 1)) none 1 s.size (by kernel_rfl) (by kernel_rfl) (.inr ⟨_, _, rfl, rfl⟩) (.inl ⟨rfl, rfl⟩) (by first | omega | (simp; omega)) (by first | omega | (simp; omega))) ?_
 have := size_extract s (i := 1) (j := s.size) (by first | omega | (simp; omega))
 refine J.run 2 K61_39 [(0, .string s), (4, .string (s.extract 1 s.size))] w (by kernel_rfl) ?_
 exact X2 (s.extract 1 s.size) w (by first | exact (dig_minus (by omega) (by omega)).1 | exact (dig_plain (by omega)).1) (by first | omega | (rw [size_extract s (Nat.le_refl _)]; omega)) S0

theorem hb86 : HasBody Tryd.prog 86 := fun _ _ => by kernel_rfl
def K86_0 := adv 12 [] (bodyOf Tryd.f86)
def K86_1 := adv 6 [true] K86_0
def K86_2 := adv 8 [false] K86_0
def K86_3 := adv 1 [] K86_2
def K86_4 := adv 14 [] (popK K86_3)
def K86_5 := List.drop 1 K86_4
def K86_6 := adv 7 [] K86_5
def K86_7 := adv 19 [true] K86_6
def K86_8 := adv 1 [] K86_6
def K86_9 := adv 2 [] (popK K86_8)
def K86_10 := adv 2 [] K86_9
def K86_11 := adv 13 [true] K86_10
def K86_12 := adv 7 [] K86_10
def K86_13 := adv 6 [true] K86_12
def K86_14 := adv 9 [false] K86_12
def K86_15 := adv 8 [] K86_14
def K86_16 := adv 8 [true] K86_15
def K86_17 := adv 2 [] (popK K86_16)
def K86_18 := adv 12 [true] K86_17
def K86_19 := adv 2 [] K86_17
def K86_20 := adv 3 [] (popK K86_19)
def K86_21 := adv 6 [true] K86_20
def K86_22 := adv 6 [false] K86_20
def K86_23 := adv 9 [false] K86_15
def K86_24 := adv 6 [true] K86_23
def K86_25 := adv 13 [false] K86_23
def K86_26 := adv 8 [] K86_25
def K86_27 := adv 7 [true] K86_26
def K86_28 := adv 2 [] K86_27
def K86_29 := adv 1 [] (popK K86_28)
def K86_30 := adv 1 [] K86_29
def K86_31 := adv 1 [] K86_30
def K86_32 := adv 6 [] K86_31
def K86_33 := adv 7 [false] K86_26
def K86_34 := adv 12 [false] K86_33
def K86_35 := adv 4 [] K86_34
def K86_36 := adv 5 [true] K86_35
def K86_37 := adv 3 [] K86_36
def K86_38 := adv 7 [false] K86_35
def K86_39 := adv 18 [false] K86_9
def K86_40 := adv 8 [] K86_39
def K86_41 := adv 8 [true] K86_40
def K86_42 := adv 2 [] (popK K86_41)
def K86_43 := adv 12 [true] K86_42
def K86_44 := adv 2 [] K86_42
def K86_45 := adv 3 [] (popK K86_44)
def K86_46 := adv 6 [true] K86_45
def K86_47 := adv 6 [false] K86_45
def K86_48 := adv 9 [false] K86_40
def K86_49 := adv 6 [true] K86_48
def K86_50 := adv 13 [false] K86_48
def K86_51 := adv 8 [] K86_50
def K86_52 := adv 7 [true] K86_51
def K86_53 := adv 2 [] K86_52
def K86_54 := adv 1 [] (popK K86_53)
def K86_55 := adv 1 [] K86_54
def K86_56 := adv 1 [] K86_55
def K86_57 := adv 6 [] K86_56
def K86_58 := adv 7 [false] K86_51
def K86_59 := adv 4 [] K86_58
def K86_60 := adv 5 [true] K86_59
def K86_61 := adv 1 [] K86_60
def K86_62 := adv 3 [] K86_61
def K86_63 := adv 8 [false] K86_59
def K86_64 := adv 11 [false] K86_63
def K86_65 := adv 12 [false] K86_58
def K86_66 := adv 4 [] K86_65
def K86_67 := adv 5 [true] K86_66
def K86_68 := adv 3 [] K86_67
def K86_69 := adv 7 [false] K86_66
def K86_70 := adv 3 [true] K86_4
def K86_71 := adv 2 [] (popK K86_70)
def K86_72 := adv 2 [false] K86_4
def K86_73 := adv 16 [] K86_2
def K86_74 := List.drop 1 K86_73
def K86_75 := adv 7 [] K86_74
def K86_76 := adv 19 [true] K86_75
def K86_77 := adv 1 [] K86_75
def K86_78 := adv 2 [] (popK K86_77)
def K86_79 := adv 2 [] K86_78
def K86_80 := adv 13 [true] K86_79
def K86_81 := adv 7 [] K86_79
def K86_82 := adv 6 [true] K86_81
def K86_83 := adv 9 [false] K86_81
def K86_84 := adv 8 [] K86_83
def K86_85 := adv 8 [true] K86_84
def K86_86 := adv 2 [] (popK K86_85)
def K86_87 := adv 12 [true] K86_86
def K86_88 := adv 2 [] K86_86
def K86_89 := adv 3 [] (popK K86_88)
def K86_90 := adv 6 [true] K86_89
def K86_91 := adv 6 [false] K86_89
def K86_92 := adv 9 [false] K86_84
def K86_93 := adv 6 [true] K86_92
def K86_94 := adv 13 [false] K86_92
def K86_95 := adv 8 [] K86_94
def K86_96 := adv 7 [true] K86_95
def K86_97 := adv 2 [] K86_96
def K86_98 := adv 1 [] (popK K86_97)
def K86_99 := adv 1 [] K86_98
def K86_100 := adv 1 [] K86_99
def K86_101 := adv 6 [] K86_100
def K86_102 := adv 7 [false] K86_95
def K86_103 := adv 12 [false] K86_102
def K86_104 := adv 4 [] K86_103
def K86_105 := adv 5 [true] K86_104
def K86_106 := adv 3 [] K86_105
def K86_107 := adv 7 [false] K86_104
def K86_108 := adv 18 [false] K86_78
def K86_109 := adv 8 [] K86_108
def K86_110 := adv 8 [true] K86_109
def K86_111 := adv 2 [] (popK K86_110)
def K86_112 := adv 12 [true] K86_111
def K86_113 := adv 2 [] K86_111
def K86_114 := adv 3 [] (popK K86_113)
def K86_115 := adv 6 [true] K86_114
def K86_116 := adv 6 [false] K86_114
def K86_117 := adv 9 [false] K86_109
def K86_118 := adv 6 [true] K86_117
def K86_119 := adv 13 [false] K86_117
def K86_120 := adv 8 [] K86_119
def K86_121 := adv 7 [true] K86_120
def K86_122 := adv 2 [] K86_121
def K86_123 := adv 1 [] (popK K86_122)
def K86_124 := adv 1 [] K86_123
def K86_125 := adv 1 [] K86_124
def K86_126 := adv 6 [] K86_125
def K86_127 := adv 7 [false] K86_120
def K86_128 := adv 4 [] K86_127
def K86_129 := adv 5 [true] K86_128
def K86_130 := adv 1 [] K86_129
def K86_131 := adv 3 [] K86_130
def K86_132 := adv 8 [false] K86_128
def K86_133 := adv 11 [false] K86_132
def K86_134 := adv 12 [false] K86_127
def K86_135 := adv 4 [] K86_134
def K86_136 := adv 5 [true] K86_135
def K86_137 := adv 3 [] K86_136
def K86_138 := adv 7 [false] K86_135
set_option maxRecDepth 20000 in
set_option maxHeartbeats 20000000 in
theorem rparse_any (s : ByteArray) (w : World) (hs : s.size ≤ 281474976710656) : Ret Tryd.prog 86 #[.string s] w (fun v w' => v = .tuple #[.int .i64 (parX s), .int .i64 (parE s)] ∧ Sep w [] w') := by
 have S0 := Sep.refl w
 refine Ret.named fun R hR => ?_
 refine Ret.of_J (N := 89) [(0, .string s)] Tryd.func86 rfl rfl (Nat.le_of_ble_eq_true (by kernel_rfl)) (by kernel_rfl) ?_
 refine J.run 12 K86_0 [(11, .bool (decide ((s.size : Int) > 24))), (0, .string s)] w (by kernel_rfl) ?_
 by_cases fk1 : (s.size : Int) > 24
 ·skip
  refine J.head (.bool true) (congrArg Value.bool (decide_eq_true fk1)) ?_
  refine J.run 6 K86_1 [(3, .int .i64 5), (2, .int .i64 0)] w (by kernel_rfl) ?_
  refine J.ret Tryd.f86 [.int .i64 0, .int .i64 5] Tryd.func86 ⟨by kernel_rfl, by kernel_rfl, trivial⟩ ?_
  refine hR _ _ ?_
  obtain ⟨e1, e2⟩ := par_five (s := s) (by omega)
  exact ⟨by rw [tup_two, e1, e2], S0.nil⟩
 refine J.head (.bool false) (congrArg Value.bool (decide_eq_false fk1)) ?_
 refine J.run 8 K86_2 [(15, .bool (decide ((s.size : Int) > 0))), (0, .string s)] w (by kernel_rfl) ?_
 by_cases fk2 : (s.size : Int) > 0
 rotate_left
 ·skip
  refine J.head (.bool false) (congrArg Value.bool (decide_eq_false fk2)) ?_
  refine J.run 16 K86_73 [(21, .bool false), (5, .string s), (4, .bool false), (0, .string s)] w (by kernel_rfl) ?_
  have X2 : ∀ (d : ByteArray) (mn : Bool) (w6 : World), (ls d = digL (ls s)) → ((d).size ≤ s.size) → (mn = false → s.size = (d).size) → (mn = true → s.size = (d).size + 1) → (mn = negL (ls s)) → Sep w [] w6 → J Tryd.prog 86 89 R K86_74 [(5, .string d), (4, .bool mn)] w6 := by
   intro d mn w6 hd hds hmf hms hmn S6
   refine J.run 7 K86_75 [(27, .bool ((d.size : Int) == 0)), (5, .string d), (4, .bool mn)] w6 (by kernel_rfl) ?_
   by_cases fk26 : (d.size : Int) = 0
   ·skip
    refine J.head (.bool true) (congrArg Value.bool (beq_iff_eq.2 fk26)) ?_
    refine J.run 19 K86_76 [(3, .int .i64 3), (2, .int .i64 0)] w6 (by kernel_rfl) ?_
    refine J.ret Tryd.f86 [.int .i64 0, .int .i64 3] Tryd.func86 ⟨by kernel_rfl, by kernel_rfl, trivial⟩ ?_
    refine hR _ _ ?_
    obtain ⟨e1, e2⟩ := par_three (s := s) (by omega) (by first | exact form_bad1 hd (by omega) | exact form_bad2 hd (i := i.toNat) (by omega) (by omega))
    exact ⟨by rw [tup_two, e1, e2], S6.nil⟩
   refine J.head (.bool false) (congrArg Value.bool (beq_eq_false_iff_ne.2 fk26)) ?_
   refine J.run 1 K86_77 [(28, .string d), (27, .bool false), (5, .string d), (4, .bool mn)] w6 (by kernel_rfl) ?_
   have := byteAt_bounds d 0
   refine J.ok (OK.byte 29 9 d (0 : Int) (byteAt d 0) (by kernel_rfl) (by kernel_rfl) (by omega) (by omega) (rfl)) ?_
   refine J.run 2 K86_78 [(31, .bool ((byteAt d 0) == 48)), (27, .bool false), (5, .string d), (4, .bool mn)] w6 (by kernel_rfl) ?_
   by_cases fk27 : (byteAt d 0) = 48
   ·skip
    refine J.head (.bool true) (congrArg Value.bool (beq_iff_eq.2 fk27)) ?_
    refine J.run 2 K86_79 [(33, .bool mn), (31, .bool true), (27, .bool false), (5, .string d), (4, .bool mn)] w6 (by kernel_rfl) ?_
    rcases Bool.eq_false_or_eq_true mn with fk28 | fk28
    ·skip
     refine J.head (.bool true) (congrArg Value.bool fk28) ?_
     have hms2 := hms fk28
     refine J.run 13 K86_80 [(3, .int .i64 3), (2, .int .i64 0)] w6 (by kernel_rfl) ?_
     refine J.ret Tryd.f86 [.int .i64 0, .int .i64 3] Tryd.func86 ⟨by kernel_rfl, by kernel_rfl, trivial⟩ ?_
     refine hR _ _ ?_
     obtain ⟨e1, e2⟩ := par_three (s := s) (by omega) (by first | exact form_bad1 hd (by omega) | exact form_bad2 hd (i := i.toNat) (by omega) (by omega))
     exact ⟨by rw [tup_two, e1, e2], S6.nil⟩
    refine J.head (.bool false) (congrArg Value.bool fk28) ?_
    have hmf2 := hmf fk28
    refine J.run 7 K86_81 [(39, .bool (decide ((d.size : Int) > 1))), (5, .string d), (4, .bool mn)] w6 (by kernel_rfl) ?_
    by_cases fk29 : (d.size : Int) > 1
    ·skip
     refine J.head (.bool true) (congrArg Value.bool (decide_eq_true fk29)) ?_
     refine J.run 6 K86_82 [(3, .int .i64 3), (2, .int .i64 0)] w6 (by kernel_rfl) ?_
     refine J.ret Tryd.f86 [.int .i64 0, .int .i64 3] Tryd.func86 ⟨by kernel_rfl, by kernel_rfl, trivial⟩ ?_
     refine hR _ _ ?_
     obtain ⟨e1, e2⟩ := par_three (s := s) (by omega) (by first | exact form_bad1 hd (by omega) | exact form_bad2 hd (i := i.toNat) (by omega) (by omega))
     exact ⟨by rw [tup_two, e1, e2], S6.nil⟩
    refine J.head (.bool false) (congrArg Value.bool (decide_eq_false fk29)) ?_
    refine J.run 9 K86_83 [(6, .int .i64 0), (5, .string d), (4, .bool mn)] w6 (by kernel_rfl) ?_
    have L86_5 : ∀ (mm_ : Nat) (i : Int) (w7 : World), (0 ≤ i) → (i ≤ (d.size : Int)) → (∀ j, j < (i).toNat → 48 ≤ byteAt d j ∧ byteAt d j ≤ 57) → Sep w [] w7 → ((d.size : Int) - i).toNat = mm_ → J Tryd.prog 86 89 R K86_83 [(6, .int .i64 i), (5, .string d), (4, .bool mn)] w7 := by
     intro mm5
     induction mm5 using Nat.strongRecOn with
     | _ mm5 ih5 =>
     intro i w7 h0 h1 hq S7 hm5
     refine J.run 8 K86_84 [(43, .bool (decide (i < (d.size : Int)))), (6, .int .i64 i), (5, .string d), (4, .bool mn)] w7 (by kernel_rfl) ?_
     by_cases fk30 : i < (d.size : Int)
     ·skip
      refine J.head (.bool true) (congrArg Value.bool (decide_eq_true fk30)) ?_
      refine J.run 8 K86_85 [(47, .int .i64 i), (46, .string d), (6, .int .i64 i), (5, .string d), (4, .bool mn)] w7 (by kernel_rfl) ?_
      have := byteAt_bounds d (i).toNat
      refine J.ok (OK.byte 48 9 d i (byteAt d (i).toNat) (by kernel_rfl) (by kernel_rfl) (by omega) (by omega) (rfl)) ?_
      refine J.run 2 K86_86 [(50, .bool (decide ((byteAt d (i).toNat) < 48))), (6, .int .i64 i), (5, .string d), (4, .bool mn)] w7 (by kernel_rfl) ?_
      by_cases fk31 : (byteAt d (i).toNat) < 48
      ·skip
       refine J.head (.bool true) (congrArg Value.bool (decide_eq_true fk31)) ?_
       refine J.run 12 K86_87 [(3, .int .i64 3), (2, .int .i64 0)] w7 (by kernel_rfl) ?_
       refine J.ret Tryd.f86 [.int .i64 0, .int .i64 3] Tryd.func86 ⟨by kernel_rfl, by kernel_rfl, trivial⟩ ?_
       refine hR _ _ ?_
       obtain ⟨e1, e2⟩ := par_three (s := s) (by omega) (by first | exact form_bad1 hd (by omega) | exact form_bad2 hd (i := i.toNat) (by omega) (by omega))
       exact ⟨by rw [tup_two, e1, e2], S7.nil⟩
      refine J.head (.bool false) (congrArg Value.bool (decide_eq_false fk31)) ?_
      refine J.run 2 K86_88 [(52, .int .i64 i), (51, .string d), (50, .bool false), (6, .int .i64 i), (5, .string d), (4, .bool mn)] w7 (by kernel_rfl) ?_
      have := byteAt_bounds d (i).toNat
      refine J.ok (OK.byte 53 9 d i (byteAt d (i).toNat) (by kernel_rfl) (by kernel_rfl) (by omega) (by omega) (rfl)) ?_
      refine J.run 3 K86_89 [(55, .bool (decide ((byteAt d (i).toNat) > 57))), (6, .int .i64 i), (5, .string d), (4, .bool mn)] w7 (by kernel_rfl) ?_
      by_cases fk32 : (byteAt d (i).toNat) > 57
      ·skip
       refine J.head (.bool true) (congrArg Value.bool (decide_eq_true fk32)) ?_
       refine J.run 6 K86_90 [(3, .int .i64 3), (2, .int .i64 0)] w7 (by kernel_rfl) ?_
       refine J.ret Tryd.f86 [.int .i64 0, .int .i64 3] Tryd.func86 ⟨by kernel_rfl, by kernel_rfl, trivial⟩ ?_
       refine hR _ _ ?_
       obtain ⟨e1, e2⟩ := par_three (s := s) (by omega) (by first | exact form_bad1 hd (by omega) | exact form_bad2 hd (i := i.toNat) (by omega) (by omega))
       exact ⟨by rw [tup_two, e1, e2], S7.nil⟩
      refine J.head (.bool false) (congrArg Value.bool (decide_eq_false fk32)) ?_
      refine J.run 6 K86_91 [(45, .int .i64 (IntKind.wrap .i64 (i + 1))), (5, .string d), (4, .bool mn)] w7 (by kernel_rfl) ?_
      refine J.head (.int .i64 (i + 1)) (congrArg (Value.int .i64) (IntWalk.i64_in _ (by omega))) ?_
      refine J.run 3 K86_83 [(6, .int .i64 (i + 1)), (5, .string d), (4, .bool mn)] w7 (by kernel_rfl) ?_
      refine J.run 0 K86_83 [(6, .int .i64 (i + 1)), (5, .string d), (4, .bool mn)] w7 (by kernel_rfl) ?_
      exact ih5 _ (show ((d.size : Int) - (i + 1)).toNat < mm5 from by omega) (i + 1) w7 (by omega) (by omega) (dg_step (q := fun j => 48 ≤ byteAt d j ∧ byteAt d j ≤ 57) h0 hq (by omega)) S7 rfl
     refine J.head (.bool false) (congrArg Value.bool (decide_eq_false fk30)) ?_
     have hqd : ∀ j, j < d.size → 48 ≤ byteAt d j ∧ byteAt d j ≤ 57 := fun j hj => hq j (by omega)
     have hf := form_good hd ⟨by omega, by omega⟩ hqd
     refine J.run 9 K86_92 [(58, .bool (decide ((d.size : Int) > 19))), (5, .string d), (4, .bool mn)] w7 (by kernel_rfl) ?_
     by_cases fk33 : (d.size : Int) > 19
     ·skip
      refine J.head (.bool true) (congrArg Value.bool (decide_eq_true fk33)) ?_
      refine J.run 6 K86_93 [(3, .int .i64 9), (2, .int .i64 0)] w7 (by kernel_rfl) ?_
      refine J.ret Tryd.f86 [.int .i64 0, .int .i64 9] Tryd.func86 ⟨by kernel_rfl, by kernel_rfl, trivial⟩ ?_
      refine hR _ _ ?_
      obtain ⟨e1, e2⟩ := par_nine (s := s) (by omega) hf (by first | exact fit_long hd hf (by omega) | (rw [(fit_neg (m := m) (hmn.symm.trans fk28) (hmd (by omega))).1]; exact decide_eq_false (by omega)) | (rw [(fit_pos (m := m) (hmn.symm.trans fk28) (hmd (by omega))).1]; exact decide_eq_false (by omega)))
      exact ⟨by rw [tup_two, e1, e2], S7.nil⟩
     refine J.head (.bool false) (congrArg Value.bool (decide_eq_false fk33)) ?_
     refine J.run 13 K86_94 [(8, .int .i64 0), (7, .int .u64 0), (5, .string d), (4, .bool mn)] w7 (by kernel_rfl) ?_
     have L86_6 : ∀ (mm_ : Nat) (m : Int) (k : Int) (w8 : World), (0 ≤ k) → (k ≤ (d.size : Int)) → (m = (decV ((ls d).take (k).toNat) : Int)) → Sep w [] w8 → ((d.size : Int) - k).toNat = mm_ → J Tryd.prog 86 89 R K86_94 [(8, .int .i64 k), (7, .int .u64 m), (5, .string d), (4, .bool mn)] w8 := by
      intro mm6
      induction mm6 using Nat.strongRecOn with
      | _ mm6 ih6 =>
      intro m k w8 k0 k1 hm S8 hm6
      have hb0 := take_bound (d := d) (n := k.toNat) hqd (by omega)
      have hmd : (d.size : Int) ≤ k → m = (decV (digL (ls s)) : Int) := fun h_ => hm.trans (take_all hd h_)
      refine J.run 8 K86_95 [(62, .bool (decide (k < (d.size : Int)))), (8, .int .i64 k), (7, .int .u64 m), (5, .string d), (4, .bool mn)] w8 (by kernel_rfl) ?_
      by_cases fk34 : k < (d.size : Int)
      rotate_left
      ·skip
       refine J.head (.bool false) (congrArg Value.bool (decide_eq_false fk34)) ?_
       refine J.run 7 K86_102 [(74, .bool mn), (7, .int .u64 m), (4, .bool mn)] w8 (by kernel_rfl) ?_
       refine J.head (.bool false) (congrArg Value.bool fk28) ?_
       refine J.run 12 K86_103 [(83, .bool (!mn)), (7, .int .u64 m)] w8 (by kernel_rfl) ?_
       refine J.head (.bool true) (congrArg Value.bool (by rw [fk28]; rfl)) ?_
       refine J.run 4 K86_104 [(86, .bool (decide (m < 9223372036854775808))), (7, .int .u64 m)] w8 (by kernel_rfl) ?_
       by_cases fk37 : m < 9223372036854775808
       rotate_left
       ·skip
        refine J.head (.bool false) (congrArg Value.bool (decide_eq_false fk37)) ?_
        refine J.run 7 K86_107 [(3, .int .i64 9), (2, .int .i64 0)] w8 (by kernel_rfl) ?_
        refine J.ret Tryd.f86 [.int .i64 0, .int .i64 9] Tryd.func86 ⟨by kernel_rfl, by kernel_rfl, trivial⟩ ?_
        refine hR _ _ ?_
        obtain ⟨e1, e2⟩ := par_nine (s := s) (by omega) hf (by first | exact fit_long hd hf (by omega) | (rw [(fit_neg (m := m) (hmn.symm.trans fk28) (hmd (by omega))).1]; exact decide_eq_false (by omega)) | (rw [(fit_pos (m := m) (hmn.symm.trans fk28) (hmd (by omega))).1]; exact decide_eq_false (by omega)))
        exact ⟨by rw [tup_two, e1, e2], S8.nil⟩
       refine J.head (.bool true) (congrArg Value.bool (decide_eq_true fk37)) ?_
       refine J.run 5 K86_105 [(88, .int .i64 (IntKind.wrap .i64 m))] w8 (by kernel_rfl) ?_
       refine J.head (.int .i64 m) (congrArg (Value.int .i64) (IntWalk.i64_in _ (by omega))) ?_
       refine J.run 3 K86_106 [(3, .int .i64 0), (2, .int .i64 m)] w8 (by kernel_rfl) ?_
       refine J.ret Tryd.f86 [.int .i64 m, .int .i64 0] Tryd.func86 ⟨by kernel_rfl, by kernel_rfl, trivial⟩ ?_
       refine hR _ _ ?_
       obtain ⟨e1, e2⟩ := par_zero (s := s) (by omega) hf (by first | (rw [(fit_neg (m := m) (hmn.symm.trans fk28) (hmd (by omega))).1]; exact decide_eq_true (by omega)) | (rw [(fit_pos (m := m) (hmn.symm.trans fk28) (hmd (by omega))).1]; exact decide_eq_true (by omega)))
       exact ⟨by rw [tup_two, e1, e2]; first | rw [(fit_neg (m := m) (hmn.symm.trans fk28) (hmd (by omega))).2] | rw [(fit_pos (m := m) (hmn.symm.trans fk28) (hmd (by omega))).2], S8.nil⟩
      refine J.head (.bool true) (congrArg Value.bool (decide_eq_true fk34)) ?_
      have hb1 := decV_take (d := d) k0 (by omega)
      have hb2 := take_bound (d := d) (n := (k + 1).toNat) hqd (by omega)
      have hb3 := hqd k.toNat (by omega)
      have hb4 := byteAt_ls d k.toNat
      refine J.run 7 K86_96 [(66, .int .u64 (IntKind.wrap .u64 (10 * m))), (8, .int .i64 k), (5, .string d), (4, .bool mn)] w8 (by kernel_rfl) ?_
      refine J.head (.int .u64 (10 * m)) (congrArg (Value.int .u64) (IntWalk.u64_in _ (by omega))) ?_
      refine J.run 2 K86_97 [(68, .int .i64 k), (67, .string d), (66, .int .u64 (10 * m)), (8, .int .i64 k), (5, .string d), (4, .bool mn)] w8 (by kernel_rfl) ?_
      have := byteAt_bounds d (k).toNat
      refine J.ok (OK.byte 69 9 d k (byteAt d (k).toNat) (by kernel_rfl) (by kernel_rfl) (by omega) (by omega) (rfl)) ?_
      refine J.run 1 K86_98 [(70, .int .u8 (IntKind.wrap .u8 ((byteAt d (k).toNat) - 48))), (66, .int .u64 (10 * m)), (8, .int .i64 k), (5, .string d), (4, .bool mn)] w8 (by kernel_rfl) ?_
      refine J.head (.int .u8 ((byteAt d (k).toNat) - 48)) (congrArg (Value.int .u8) (IntWalk.u8_in _ (by omega))) ?_
      refine J.run 1 K86_99 [(71, .int .u64 (IntKind.wrap .u64 ((byteAt d (k).toNat) - 48))), (66, .int .u64 (10 * m)), (8, .int .i64 k), (5, .string d), (4, .bool mn)] w8 (by kernel_rfl) ?_
      refine J.head (.int .u64 ((byteAt d (k).toNat) - 48)) (congrArg (Value.int .u64) (IntWalk.u64_in _ (by omega))) ?_
      refine J.run 1 K86_100 [(72, .int .u64 (IntKind.wrap .u64 ((10 * m) + ((byteAt d (k).toNat) - 48)))), (8, .int .i64 k), (5, .string d), (4, .bool mn)] w8 (by kernel_rfl) ?_
      refine J.head (.int .u64 ((10 * m) + ((byteAt d (k).toNat) - 48))) (congrArg (Value.int .u64) (IntWalk.u64_in _ (by omega))) ?_
      refine J.run 6 K86_101 [(64, .int .i64 (IntKind.wrap .i64 (k + 1))), (7, .int .u64 ((10 * m) + ((byteAt d (k).toNat) - 48))), (5, .string d), (4, .bool mn)] w8 (by kernel_rfl) ?_
      refine J.head (.int .i64 (k + 1)) (congrArg (Value.int .i64) (IntWalk.i64_in _ (by omega))) ?_
      refine J.run 3 K86_94 [(8, .int .i64 (k + 1)), (7, .int .u64 ((10 * m) + ((byteAt d (k).toNat) - 48))), (5, .string d), (4, .bool mn)] w8 (by kernel_rfl) ?_
      refine J.run 0 K86_94 [(8, .int .i64 (k + 1)), (7, .int .u64 ((10 * m) + ((byteAt d (k).toNat) - 48))), (5, .string d), (4, .bool mn)] w8 (by kernel_rfl) ?_
      exact ih6 _ (show ((d.size : Int) - (k + 1)).toNat < mm6 from by omega) ((10 * m) + ((byteAt d (k).toNat) - 48)) (k + 1) w8 (by omega) (by omega) (by omega) S8 rfl
     exact L86_6 _ 0 0 w7 (by omega) (by omega) (rfl) S7 rfl
    exact L86_5 _ 0 w6 (by omega) (by omega) (by intro j hj; simp at hj) S6 rfl
   refine J.head (.bool false) (congrArg Value.bool (beq_eq_false_iff_ne.2 fk27)) ?_
   refine J.run 18 K86_108 [(6, .int .i64 0), (5, .string d), (4, .bool mn)] w6 (by kernel_rfl) ?_
   have L86_7 : ∀ (mm_ : Nat) (i : Int) (w9 : World), (0 ≤ i) → (i ≤ (d.size : Int)) → (∀ j, j < (i).toNat → 48 ≤ byteAt d j ∧ byteAt d j ≤ 57) → Sep w [] w9 → ((d.size : Int) - i).toNat = mm_ → J Tryd.prog 86 89 R K86_108 [(6, .int .i64 i), (5, .string d), (4, .bool mn)] w9 := by
    intro mm7
    induction mm7 using Nat.strongRecOn with
    | _ mm7 ih7 =>
    intro i w9 h0 h1 hq S9 hm7
    refine J.run 8 K86_109 [(43, .bool (decide (i < (d.size : Int)))), (6, .int .i64 i), (5, .string d), (4, .bool mn)] w9 (by kernel_rfl) ?_
    by_cases fk38 : i < (d.size : Int)
    ·skip
     refine J.head (.bool true) (congrArg Value.bool (decide_eq_true fk38)) ?_
     refine J.run 8 K86_110 [(47, .int .i64 i), (46, .string d), (6, .int .i64 i), (5, .string d), (4, .bool mn)] w9 (by kernel_rfl) ?_
     have := byteAt_bounds d (i).toNat
     refine J.ok (OK.byte 48 9 d i (byteAt d (i).toNat) (by kernel_rfl) (by kernel_rfl) (by omega) (by omega) (rfl)) ?_
     refine J.run 2 K86_111 [(50, .bool (decide ((byteAt d (i).toNat) < 48))), (6, .int .i64 i), (5, .string d), (4, .bool mn)] w9 (by kernel_rfl) ?_
     by_cases fk39 : (byteAt d (i).toNat) < 48
     ·skip
      refine J.head (.bool true) (congrArg Value.bool (decide_eq_true fk39)) ?_
      refine J.run 12 K86_112 [(3, .int .i64 3), (2, .int .i64 0)] w9 (by kernel_rfl) ?_
      refine J.ret Tryd.f86 [.int .i64 0, .int .i64 3] Tryd.func86 ⟨by kernel_rfl, by kernel_rfl, trivial⟩ ?_
      refine hR _ _ ?_
      obtain ⟨e1, e2⟩ := par_three (s := s) (by omega) (by first | exact form_bad1 hd (by omega) | exact form_bad2 hd (i := i.toNat) (by omega) (by omega))
      exact ⟨by rw [tup_two, e1, e2], S9.nil⟩
     refine J.head (.bool false) (congrArg Value.bool (decide_eq_false fk39)) ?_
     refine J.run 2 K86_113 [(52, .int .i64 i), (51, .string d), (50, .bool false), (6, .int .i64 i), (5, .string d), (4, .bool mn)] w9 (by kernel_rfl) ?_
     have := byteAt_bounds d (i).toNat
     refine J.ok (OK.byte 53 9 d i (byteAt d (i).toNat) (by kernel_rfl) (by kernel_rfl) (by omega) (by omega) (rfl)) ?_
     refine J.run 3 K86_114 [(55, .bool (decide ((byteAt d (i).toNat) > 57))), (6, .int .i64 i), (5, .string d), (4, .bool mn)] w9 (by kernel_rfl) ?_
     by_cases fk40 : (byteAt d (i).toNat) > 57
     ·skip
      refine J.head (.bool true) (congrArg Value.bool (decide_eq_true fk40)) ?_
      refine J.run 6 K86_115 [(3, .int .i64 3), (2, .int .i64 0)] w9 (by kernel_rfl) ?_
      refine J.ret Tryd.f86 [.int .i64 0, .int .i64 3] Tryd.func86 ⟨by kernel_rfl, by kernel_rfl, trivial⟩ ?_
      refine hR _ _ ?_
      obtain ⟨e1, e2⟩ := par_three (s := s) (by omega) (by first | exact form_bad1 hd (by omega) | exact form_bad2 hd (i := i.toNat) (by omega) (by omega))
      exact ⟨by rw [tup_two, e1, e2], S9.nil⟩
     refine J.head (.bool false) (congrArg Value.bool (decide_eq_false fk40)) ?_
     refine J.run 6 K86_116 [(45, .int .i64 (IntKind.wrap .i64 (i + 1))), (5, .string d), (4, .bool mn)] w9 (by kernel_rfl) ?_
     refine J.head (.int .i64 (i + 1)) (congrArg (Value.int .i64) (IntWalk.i64_in _ (by omega))) ?_
     refine J.run 3 K86_108 [(6, .int .i64 (i + 1)), (5, .string d), (4, .bool mn)] w9 (by kernel_rfl) ?_
     refine J.run 0 K86_108 [(6, .int .i64 (i + 1)), (5, .string d), (4, .bool mn)] w9 (by kernel_rfl) ?_
     exact ih7 _ (show ((d.size : Int) - (i + 1)).toNat < mm7 from by omega) (i + 1) w9 (by omega) (by omega) (dg_step (q := fun j => 48 ≤ byteAt d j ∧ byteAt d j ≤ 57) h0 hq (by omega)) S9 rfl
    refine J.head (.bool false) (congrArg Value.bool (decide_eq_false fk38)) ?_
    have hqd : ∀ j, j < d.size → 48 ≤ byteAt d j ∧ byteAt d j ≤ 57 := fun j hj => hq j (by omega)
    have hf := form_good hd ⟨by omega, by omega⟩ hqd
    refine J.run 9 K86_117 [(58, .bool (decide ((d.size : Int) > 19))), (5, .string d), (4, .bool mn)] w9 (by kernel_rfl) ?_
    by_cases fk41 : (d.size : Int) > 19
    ·skip
     refine J.head (.bool true) (congrArg Value.bool (decide_eq_true fk41)) ?_
     refine J.run 6 K86_118 [(3, .int .i64 9), (2, .int .i64 0)] w9 (by kernel_rfl) ?_
     refine J.ret Tryd.f86 [.int .i64 0, .int .i64 9] Tryd.func86 ⟨by kernel_rfl, by kernel_rfl, trivial⟩ ?_
     refine hR _ _ ?_
     obtain ⟨e1, e2⟩ := par_nine (s := s) (by omega) hf (by first | exact fit_long hd hf (by omega) | (rw [(fit_neg (m := m) (hmn.symm.trans rfl) (hmd (by omega))).1]; exact decide_eq_false (by omega)) | (rw [(fit_pos (m := m) (hmn.symm.trans rfl) (hmd (by omega))).1]; exact decide_eq_false (by omega)))
     exact ⟨by rw [tup_two, e1, e2], S9.nil⟩
    refine J.head (.bool false) (congrArg Value.bool (decide_eq_false fk41)) ?_
    refine J.run 13 K86_119 [(8, .int .i64 0), (7, .int .u64 0), (5, .string d), (4, .bool mn)] w9 (by kernel_rfl) ?_
    have L86_8 : ∀ (mm_ : Nat) (m : Int) (k : Int) (w10 : World), (0 ≤ k) → (k ≤ (d.size : Int)) → (m = (decV ((ls d).take (k).toNat) : Int)) → Sep w [] w10 → ((d.size : Int) - k).toNat = mm_ → J Tryd.prog 86 89 R K86_119 [(8, .int .i64 k), (7, .int .u64 m), (5, .string d), (4, .bool mn)] w10 := by
     intro mm8
     induction mm8 using Nat.strongRecOn with
     | _ mm8 ih8 =>
     intro m k w10 k0 k1 hm S10 hm8
     have hb0 := take_bound (d := d) (n := k.toNat) hqd (by omega)
     have hmd : (d.size : Int) ≤ k → m = (decV (digL (ls s)) : Int) := fun h_ => hm.trans (take_all hd h_)
     refine J.run 8 K86_120 [(62, .bool (decide (k < (d.size : Int)))), (8, .int .i64 k), (7, .int .u64 m), (5, .string d), (4, .bool mn)] w10 (by kernel_rfl) ?_
     by_cases fk42 : k < (d.size : Int)
     ·skip
      refine J.head (.bool true) (congrArg Value.bool (decide_eq_true fk42)) ?_
      have hb1 := decV_take (d := d) k0 (by omega)
      have hb2 := take_bound (d := d) (n := (k + 1).toNat) hqd (by omega)
      have hb3 := hqd k.toNat (by omega)
      have hb4 := byteAt_ls d k.toNat
      refine J.run 7 K86_121 [(66, .int .u64 (IntKind.wrap .u64 (10 * m))), (8, .int .i64 k), (5, .string d), (4, .bool mn)] w10 (by kernel_rfl) ?_
      refine J.head (.int .u64 (10 * m)) (congrArg (Value.int .u64) (IntWalk.u64_in _ (by omega))) ?_
      refine J.run 2 K86_122 [(68, .int .i64 k), (67, .string d), (66, .int .u64 (10 * m)), (8, .int .i64 k), (5, .string d), (4, .bool mn)] w10 (by kernel_rfl) ?_
      have := byteAt_bounds d (k).toNat
      refine J.ok (OK.byte 69 9 d k (byteAt d (k).toNat) (by kernel_rfl) (by kernel_rfl) (by omega) (by omega) (rfl)) ?_
      refine J.run 1 K86_123 [(70, .int .u8 (IntKind.wrap .u8 ((byteAt d (k).toNat) - 48))), (66, .int .u64 (10 * m)), (8, .int .i64 k), (5, .string d), (4, .bool mn)] w10 (by kernel_rfl) ?_
      refine J.head (.int .u8 ((byteAt d (k).toNat) - 48)) (congrArg (Value.int .u8) (IntWalk.u8_in _ (by omega))) ?_
      refine J.run 1 K86_124 [(71, .int .u64 (IntKind.wrap .u64 ((byteAt d (k).toNat) - 48))), (66, .int .u64 (10 * m)), (8, .int .i64 k), (5, .string d), (4, .bool mn)] w10 (by kernel_rfl) ?_
      refine J.head (.int .u64 ((byteAt d (k).toNat) - 48)) (congrArg (Value.int .u64) (IntWalk.u64_in _ (by omega))) ?_
      refine J.run 1 K86_125 [(72, .int .u64 (IntKind.wrap .u64 ((10 * m) + ((byteAt d (k).toNat) - 48)))), (8, .int .i64 k), (5, .string d), (4, .bool mn)] w10 (by kernel_rfl) ?_
      refine J.head (.int .u64 ((10 * m) + ((byteAt d (k).toNat) - 48))) (congrArg (Value.int .u64) (IntWalk.u64_in _ (by omega))) ?_
      refine J.run 6 K86_126 [(64, .int .i64 (IntKind.wrap .i64 (k + 1))), (7, .int .u64 ((10 * m) + ((byteAt d (k).toNat) - 48))), (5, .string d), (4, .bool mn)] w10 (by kernel_rfl) ?_
      refine J.head (.int .i64 (k + 1)) (congrArg (Value.int .i64) (IntWalk.i64_in _ (by omega))) ?_
      refine J.run 3 K86_119 [(8, .int .i64 (k + 1)), (7, .int .u64 ((10 * m) + ((byteAt d (k).toNat) - 48))), (5, .string d), (4, .bool mn)] w10 (by kernel_rfl) ?_
      refine J.run 0 K86_119 [(8, .int .i64 (k + 1)), (7, .int .u64 ((10 * m) + ((byteAt d (k).toNat) - 48))), (5, .string d), (4, .bool mn)] w10 (by kernel_rfl) ?_
      exact ih8 _ (show ((d.size : Int) - (k + 1)).toNat < mm8 from by omega) ((10 * m) + ((byteAt d (k).toNat) - 48)) (k + 1) w10 (by omega) (by omega) (by omega) S10 rfl
     refine J.head (.bool false) (congrArg Value.bool (decide_eq_false fk42)) ?_
     refine J.run 7 K86_127 [(74, .bool mn), (7, .int .u64 m), (4, .bool mn)] w10 (by kernel_rfl) ?_
     rcases Bool.eq_false_or_eq_true mn with fk43 | fk43
     rotate_left
     ·skip
      refine J.head (.bool false) (congrArg Value.bool fk43) ?_
      have hmf2 := hmf fk43
      refine J.run 12 K86_134 [(83, .bool (!mn)), (7, .int .u64 m)] w10 (by kernel_rfl) ?_
      refine J.head (.bool true) (congrArg Value.bool (by rw [fk43]; rfl)) ?_
      refine J.run 4 K86_135 [(86, .bool (decide (m < 9223372036854775808))), (7, .int .u64 m)] w10 (by kernel_rfl) ?_
      by_cases fk47 : m < 9223372036854775808
      rotate_left
      ·skip
       refine J.head (.bool false) (congrArg Value.bool (decide_eq_false fk47)) ?_
       refine J.run 7 K86_138 [(3, .int .i64 9), (2, .int .i64 0)] w10 (by kernel_rfl) ?_
       refine J.ret Tryd.f86 [.int .i64 0, .int .i64 9] Tryd.func86 ⟨by kernel_rfl, by kernel_rfl, trivial⟩ ?_
       refine hR _ _ ?_
       obtain ⟨e1, e2⟩ := par_nine (s := s) (by omega) hf (by first | exact fit_long hd hf (by omega) | (rw [(fit_neg (m := m) (hmn.symm.trans fk43) (hmd (by omega))).1]; exact decide_eq_false (by omega)) | (rw [(fit_pos (m := m) (hmn.symm.trans fk43) (hmd (by omega))).1]; exact decide_eq_false (by omega)))
       exact ⟨by rw [tup_two, e1, e2], S10.nil⟩
      refine J.head (.bool true) (congrArg Value.bool (decide_eq_true fk47)) ?_
      refine J.run 5 K86_136 [(88, .int .i64 (IntKind.wrap .i64 m))] w10 (by kernel_rfl) ?_
      refine J.head (.int .i64 m) (congrArg (Value.int .i64) (IntWalk.i64_in _ (by omega))) ?_
      refine J.run 3 K86_137 [(3, .int .i64 0), (2, .int .i64 m)] w10 (by kernel_rfl) ?_
      refine J.ret Tryd.f86 [.int .i64 m, .int .i64 0] Tryd.func86 ⟨by kernel_rfl, by kernel_rfl, trivial⟩ ?_
      refine hR _ _ ?_
      obtain ⟨e1, e2⟩ := par_zero (s := s) (by omega) hf (by first | (rw [(fit_neg (m := m) (hmn.symm.trans fk43) (hmd (by omega))).1]; exact decide_eq_true (by omega)) | (rw [(fit_pos (m := m) (hmn.symm.trans fk43) (hmd (by omega))).1]; exact decide_eq_true (by omega)))
      exact ⟨by rw [tup_two, e1, e2]; first | rw [(fit_neg (m := m) (hmn.symm.trans fk43) (hmd (by omega))).2] | rw [(fit_pos (m := m) (hmn.symm.trans fk43) (hmd (by omega))).2], S10.nil⟩
     refine J.head (.bool true) (congrArg Value.bool fk43) ?_
     have hms2 := hms fk43
     refine J.run 4 K86_128 [(77, .bool (decide (m ≤ 9223372036854775808))), (7, .int .u64 m), (4, .bool mn)] w10 (by kernel_rfl) ?_
     by_cases fk44 : m ≤ 9223372036854775808
     rotate_left
     ·skip
      refine J.head (.bool false) (congrArg Value.bool (decide_eq_false fk44)) ?_
      refine J.run 8 K86_132 [(83, .bool (!mn)), (7, .int .u64 m)] w10 (by kernel_rfl) ?_
      refine J.head (.bool false) (congrArg Value.bool (by rw [fk43]; rfl)) ?_
      refine J.run 11 K86_133 [(3, .int .i64 9), (2, .int .i64 0)] w10 (by kernel_rfl) ?_
      refine J.ret Tryd.f86 [.int .i64 0, .int .i64 9] Tryd.func86 ⟨by kernel_rfl, by kernel_rfl, trivial⟩ ?_
      refine hR _ _ ?_
      obtain ⟨e1, e2⟩ := par_nine (s := s) (by omega) hf (by first | exact fit_long hd hf (by omega) | (rw [(fit_neg (m := m) (hmn.symm.trans fk43) (hmd (by omega))).1]; exact decide_eq_false (by omega)) | (rw [(fit_pos (m := m) (hmn.symm.trans fk43) (hmd (by omega))).1]; exact decide_eq_false (by omega)))
      exact ⟨by rw [tup_two, e1, e2], S10.nil⟩
     refine J.head (.bool true) (congrArg Value.bool (decide_eq_true fk44)) ?_
     have hm0 := form_neg hf (hmn.symm.trans fk43)
     have hm1 := hmd (by omega)
     refine J.run 5 K86_129 [(79, .int .u64 (IntKind.wrap .u64 (0 - m)))] w10 (by kernel_rfl) ?_
     refine J.head (.int .u64 (18446744073709551616 - m)) (congrArg (Value.int .u64) (by rw [wrapU]; omega)) ?_
     refine J.run 1 K86_130 [(80, .int .i64 (IntKind.wrap .i64 (18446744073709551616 - m)))] w10 (by kernel_rfl) ?_
     refine J.head (.int .i64 (-m)) (congrArg (Value.int .i64) (wrap_i64_neg (by omega))) ?_
     refine J.run 3 K86_131 [(3, .int .i64 0), (2, .int .i64 (-m))] w10 (by kernel_rfl) ?_
     refine J.ret Tryd.f86 [.int .i64 (-m), .int .i64 0] Tryd.func86 ⟨by kernel_rfl, by kernel_rfl, trivial⟩ ?_
     refine hR _ _ ?_
     obtain ⟨e1, e2⟩ := par_zero (s := s) (by omega) hf (by first | (rw [(fit_neg (m := m) (hmn.symm.trans fk43) (hmd (by omega))).1]; exact decide_eq_true (by omega)) | (rw [(fit_pos (m := m) (hmn.symm.trans fk43) (hmd (by omega))).1]; exact decide_eq_true (by omega)))
     exact ⟨by rw [tup_two, e1, e2]; first | rw [(fit_neg (m := m) (hmn.symm.trans fk43) (hmd (by omega))).2] | rw [(fit_pos (m := m) (hmn.symm.trans fk43) (hmd (by omega))).2], S10.nil⟩
    exact L86_8 _ 0 0 w9 (by omega) (by omega) (rfl) S9 rfl
   exact L86_7 _ 0 w6 (by omega) (by omega) (by intro j hj; simp at hj) S6 rfl
  refine J.run 2 K86_74 [(5, .string s), (4, .bool false)] w (by kernel_rfl) ?_
  exact X2 s false w (by first | exact (dig_minus (by omega) (by omega)).1 | exact (dig_plain (by omega)).1) (by first | omega | (rw [size_extract s (Nat.le_refl _)]; omega)) ((by first | (intro h_; cases h_; done) | (intro h_; rfl))) ((by first | (intro h_; cases h_; done) | (intro h_; rw [size_extract s (Nat.le_refl _)]; omega))) ((by first | exact (dig_minus (by omega) (by omega)).2.symm | exact (dig_plain (by omega)).2.symm)) S0
 refine J.head (.bool true) (congrArg Value.bool (decide_eq_true fk2)) ?_
 refine J.run 1 K86_3 [(16, .string s), (15, .bool true), (0, .string s)] w (by kernel_rfl) ?_
 have := byteAt_bounds s 0
 refine J.ok (OK.byte 17 9 s (0 : Int) (byteAt s 0) (by kernel_rfl) (by kernel_rfl) (by omega) (by omega) (rfl)) ?_
 refine J.run 14 K86_4 [(21, .bool ((byteAt s 0) == 45)), (5, .string s), (4, .bool ((byteAt s 0) == 45)), (0, .string s)] w (by kernel_rfl) ?_
 have X1 : ∀ (d : ByteArray) (mn : Bool) (w1 : World), (ls d = digL (ls s)) → ((d).size ≤ s.size) → (mn = false → s.size = (d).size) → (mn = true → s.size = (d).size + 1) → (mn = negL (ls s)) → Sep w [] w1 → J Tryd.prog 86 89 R K86_5 [(5, .string d), (4, .bool mn)] w1 := by
  intro d mn w1 hd hds hmf hms hmn S1
  refine J.run 7 K86_6 [(27, .bool ((d.size : Int) == 0)), (5, .string d), (4, .bool mn)] w1 (by kernel_rfl) ?_
  by_cases fk3 : (d.size : Int) = 0
  ·skip
   refine J.head (.bool true) (congrArg Value.bool (beq_iff_eq.2 fk3)) ?_
   refine J.run 19 K86_7 [(3, .int .i64 3), (2, .int .i64 0)] w1 (by kernel_rfl) ?_
   refine J.ret Tryd.f86 [.int .i64 0, .int .i64 3] Tryd.func86 ⟨by kernel_rfl, by kernel_rfl, trivial⟩ ?_
   refine hR _ _ ?_
   obtain ⟨e1, e2⟩ := par_three (s := s) (by omega) (by first | exact form_bad1 hd (by omega) | exact form_bad2 hd (i := i.toNat) (by omega) (by omega))
   exact ⟨by rw [tup_two, e1, e2], S1.nil⟩
  refine J.head (.bool false) (congrArg Value.bool (beq_eq_false_iff_ne.2 fk3)) ?_
  refine J.run 1 K86_8 [(28, .string d), (27, .bool false), (5, .string d), (4, .bool mn)] w1 (by kernel_rfl) ?_
  have := byteAt_bounds d 0
  refine J.ok (OK.byte 29 9 d (0 : Int) (byteAt d 0) (by kernel_rfl) (by kernel_rfl) (by omega) (by omega) (rfl)) ?_
  refine J.run 2 K86_9 [(31, .bool ((byteAt d 0) == 48)), (27, .bool false), (5, .string d), (4, .bool mn)] w1 (by kernel_rfl) ?_
  by_cases fk4 : (byteAt d 0) = 48
  ·skip
   refine J.head (.bool true) (congrArg Value.bool (beq_iff_eq.2 fk4)) ?_
   refine J.run 2 K86_10 [(33, .bool mn), (31, .bool true), (27, .bool false), (5, .string d), (4, .bool mn)] w1 (by kernel_rfl) ?_
   rcases Bool.eq_false_or_eq_true mn with fk5 | fk5
   ·skip
    refine J.head (.bool true) (congrArg Value.bool fk5) ?_
    have hms2 := hms fk5
    refine J.run 13 K86_11 [(3, .int .i64 3), (2, .int .i64 0)] w1 (by kernel_rfl) ?_
    refine J.ret Tryd.f86 [.int .i64 0, .int .i64 3] Tryd.func86 ⟨by kernel_rfl, by kernel_rfl, trivial⟩ ?_
    refine hR _ _ ?_
    obtain ⟨e1, e2⟩ := par_three (s := s) (by omega) (by first | exact form_bad1 hd (by omega) | exact form_bad2 hd (i := i.toNat) (by omega) (by omega))
    exact ⟨by rw [tup_two, e1, e2], S1.nil⟩
   refine J.head (.bool false) (congrArg Value.bool fk5) ?_
   have hmf2 := hmf fk5
   refine J.run 7 K86_12 [(39, .bool (decide ((d.size : Int) > 1))), (5, .string d), (4, .bool mn)] w1 (by kernel_rfl) ?_
   by_cases fk6 : (d.size : Int) > 1
   ·skip
    refine J.head (.bool true) (congrArg Value.bool (decide_eq_true fk6)) ?_
    refine J.run 6 K86_13 [(3, .int .i64 3), (2, .int .i64 0)] w1 (by kernel_rfl) ?_
    refine J.ret Tryd.f86 [.int .i64 0, .int .i64 3] Tryd.func86 ⟨by kernel_rfl, by kernel_rfl, trivial⟩ ?_
    refine hR _ _ ?_
    obtain ⟨e1, e2⟩ := par_three (s := s) (by omega) (by first | exact form_bad1 hd (by omega) | exact form_bad2 hd (i := i.toNat) (by omega) (by omega))
    exact ⟨by rw [tup_two, e1, e2], S1.nil⟩
   refine J.head (.bool false) (congrArg Value.bool (decide_eq_false fk6)) ?_
   refine J.run 9 K86_14 [(6, .int .i64 0), (5, .string d), (4, .bool mn)] w1 (by kernel_rfl) ?_
   have L86_1 : ∀ (mm_ : Nat) (i : Int) (w2 : World), (0 ≤ i) → (i ≤ (d.size : Int)) → (∀ j, j < (i).toNat → 48 ≤ byteAt d j ∧ byteAt d j ≤ 57) → Sep w [] w2 → ((d.size : Int) - i).toNat = mm_ → J Tryd.prog 86 89 R K86_14 [(6, .int .i64 i), (5, .string d), (4, .bool mn)] w2 := by
    intro mm1
    induction mm1 using Nat.strongRecOn with
    | _ mm1 ih1 =>
    intro i w2 h0 h1 hq S2 hm1
    refine J.run 8 K86_15 [(43, .bool (decide (i < (d.size : Int)))), (6, .int .i64 i), (5, .string d), (4, .bool mn)] w2 (by kernel_rfl) ?_
    by_cases fk7 : i < (d.size : Int)
    ·skip
     refine J.head (.bool true) (congrArg Value.bool (decide_eq_true fk7)) ?_
     refine J.run 8 K86_16 [(47, .int .i64 i), (46, .string d), (6, .int .i64 i), (5, .string d), (4, .bool mn)] w2 (by kernel_rfl) ?_
     have := byteAt_bounds d (i).toNat
     refine J.ok (OK.byte 48 9 d i (byteAt d (i).toNat) (by kernel_rfl) (by kernel_rfl) (by omega) (by omega) (rfl)) ?_
     refine J.run 2 K86_17 [(50, .bool (decide ((byteAt d (i).toNat) < 48))), (6, .int .i64 i), (5, .string d), (4, .bool mn)] w2 (by kernel_rfl) ?_
     by_cases fk8 : (byteAt d (i).toNat) < 48
     ·skip
      refine J.head (.bool true) (congrArg Value.bool (decide_eq_true fk8)) ?_
      refine J.run 12 K86_18 [(3, .int .i64 3), (2, .int .i64 0)] w2 (by kernel_rfl) ?_
      refine J.ret Tryd.f86 [.int .i64 0, .int .i64 3] Tryd.func86 ⟨by kernel_rfl, by kernel_rfl, trivial⟩ ?_
      refine hR _ _ ?_
      obtain ⟨e1, e2⟩ := par_three (s := s) (by omega) (by first | exact form_bad1 hd (by omega) | exact form_bad2 hd (i := i.toNat) (by omega) (by omega))
      exact ⟨by rw [tup_two, e1, e2], S2.nil⟩
     refine J.head (.bool false) (congrArg Value.bool (decide_eq_false fk8)) ?_
     refine J.run 2 K86_19 [(52, .int .i64 i), (51, .string d), (50, .bool false), (6, .int .i64 i), (5, .string d), (4, .bool mn)] w2 (by kernel_rfl) ?_
     have := byteAt_bounds d (i).toNat
     refine J.ok (OK.byte 53 9 d i (byteAt d (i).toNat) (by kernel_rfl) (by kernel_rfl) (by omega) (by omega) (rfl)) ?_
     refine J.run 3 K86_20 [(55, .bool (decide ((byteAt d (i).toNat) > 57))), (6, .int .i64 i), (5, .string d), (4, .bool mn)] w2 (by kernel_rfl) ?_
     by_cases fk9 : (byteAt d (i).toNat) > 57
     ·skip
      refine J.head (.bool true) (congrArg Value.bool (decide_eq_true fk9)) ?_
      refine J.run 6 K86_21 [(3, .int .i64 3), (2, .int .i64 0)] w2 (by kernel_rfl) ?_
      refine J.ret Tryd.f86 [.int .i64 0, .int .i64 3] Tryd.func86 ⟨by kernel_rfl, by kernel_rfl, trivial⟩ ?_
      refine hR _ _ ?_
      obtain ⟨e1, e2⟩ := par_three (s := s) (by omega) (by first | exact form_bad1 hd (by omega) | exact form_bad2 hd (i := i.toNat) (by omega) (by omega))
      exact ⟨by rw [tup_two, e1, e2], S2.nil⟩
     refine J.head (.bool false) (congrArg Value.bool (decide_eq_false fk9)) ?_
     refine J.run 6 K86_22 [(45, .int .i64 (IntKind.wrap .i64 (i + 1))), (5, .string d), (4, .bool mn)] w2 (by kernel_rfl) ?_
     refine J.head (.int .i64 (i + 1)) (congrArg (Value.int .i64) (IntWalk.i64_in _ (by omega))) ?_
     refine J.run 3 K86_14 [(6, .int .i64 (i + 1)), (5, .string d), (4, .bool mn)] w2 (by kernel_rfl) ?_
     refine J.run 0 K86_14 [(6, .int .i64 (i + 1)), (5, .string d), (4, .bool mn)] w2 (by kernel_rfl) ?_
     exact ih1 _ (show ((d.size : Int) - (i + 1)).toNat < mm1 from by omega) (i + 1) w2 (by omega) (by omega) (dg_step (q := fun j => 48 ≤ byteAt d j ∧ byteAt d j ≤ 57) h0 hq (by omega)) S2 rfl
    refine J.head (.bool false) (congrArg Value.bool (decide_eq_false fk7)) ?_
    have hqd : ∀ j, j < d.size → 48 ≤ byteAt d j ∧ byteAt d j ≤ 57 := fun j hj => hq j (by omega)
    have hf := form_good hd ⟨by omega, by omega⟩ hqd
    refine J.run 9 K86_23 [(58, .bool (decide ((d.size : Int) > 19))), (5, .string d), (4, .bool mn)] w2 (by kernel_rfl) ?_
    by_cases fk10 : (d.size : Int) > 19
    ·skip
     refine J.head (.bool true) (congrArg Value.bool (decide_eq_true fk10)) ?_
     refine J.run 6 K86_24 [(3, .int .i64 9), (2, .int .i64 0)] w2 (by kernel_rfl) ?_
     refine J.ret Tryd.f86 [.int .i64 0, .int .i64 9] Tryd.func86 ⟨by kernel_rfl, by kernel_rfl, trivial⟩ ?_
     refine hR _ _ ?_
     obtain ⟨e1, e2⟩ := par_nine (s := s) (by omega) hf (by first | exact fit_long hd hf (by omega) | (rw [(fit_neg (m := m) (hmn.symm.trans fk5) (hmd (by omega))).1]; exact decide_eq_false (by omega)) | (rw [(fit_pos (m := m) (hmn.symm.trans fk5) (hmd (by omega))).1]; exact decide_eq_false (by omega)))
     exact ⟨by rw [tup_two, e1, e2], S2.nil⟩
    refine J.head (.bool false) (congrArg Value.bool (decide_eq_false fk10)) ?_
    refine J.run 13 K86_25 [(8, .int .i64 0), (7, .int .u64 0), (5, .string d), (4, .bool mn)] w2 (by kernel_rfl) ?_
    have L86_2 : ∀ (mm_ : Nat) (m : Int) (k : Int) (w3 : World), (0 ≤ k) → (k ≤ (d.size : Int)) → (m = (decV ((ls d).take (k).toNat) : Int)) → Sep w [] w3 → ((d.size : Int) - k).toNat = mm_ → J Tryd.prog 86 89 R K86_25 [(8, .int .i64 k), (7, .int .u64 m), (5, .string d), (4, .bool mn)] w3 := by
     intro mm2
     induction mm2 using Nat.strongRecOn with
     | _ mm2 ih2 =>
     intro m k w3 k0 k1 hm S3 hm2
     have hb0 := take_bound (d := d) (n := k.toNat) hqd (by omega)
     have hmd : (d.size : Int) ≤ k → m = (decV (digL (ls s)) : Int) := fun h_ => hm.trans (take_all hd h_)
     refine J.run 8 K86_26 [(62, .bool (decide (k < (d.size : Int)))), (8, .int .i64 k), (7, .int .u64 m), (5, .string d), (4, .bool mn)] w3 (by kernel_rfl) ?_
     by_cases fk11 : k < (d.size : Int)
     rotate_left
     ·skip
      refine J.head (.bool false) (congrArg Value.bool (decide_eq_false fk11)) ?_
      refine J.run 7 K86_33 [(74, .bool mn), (7, .int .u64 m), (4, .bool mn)] w3 (by kernel_rfl) ?_
      refine J.head (.bool false) (congrArg Value.bool fk5) ?_
      refine J.run 12 K86_34 [(83, .bool (!mn)), (7, .int .u64 m)] w3 (by kernel_rfl) ?_
      refine J.head (.bool true) (congrArg Value.bool (by rw [fk5]; rfl)) ?_
      refine J.run 4 K86_35 [(86, .bool (decide (m < 9223372036854775808))), (7, .int .u64 m)] w3 (by kernel_rfl) ?_
      by_cases fk14 : m < 9223372036854775808
      rotate_left
      ·skip
       refine J.head (.bool false) (congrArg Value.bool (decide_eq_false fk14)) ?_
       refine J.run 7 K86_38 [(3, .int .i64 9), (2, .int .i64 0)] w3 (by kernel_rfl) ?_
       refine J.ret Tryd.f86 [.int .i64 0, .int .i64 9] Tryd.func86 ⟨by kernel_rfl, by kernel_rfl, trivial⟩ ?_
       refine hR _ _ ?_
       obtain ⟨e1, e2⟩ := par_nine (s := s) (by omega) hf (by first | exact fit_long hd hf (by omega) | (rw [(fit_neg (m := m) (hmn.symm.trans fk5) (hmd (by omega))).1]; exact decide_eq_false (by omega)) | (rw [(fit_pos (m := m) (hmn.symm.trans fk5) (hmd (by omega))).1]; exact decide_eq_false (by omega)))
       exact ⟨by rw [tup_two, e1, e2], S3.nil⟩
      refine J.head (.bool true) (congrArg Value.bool (decide_eq_true fk14)) ?_
      refine J.run 5 K86_36 [(88, .int .i64 (IntKind.wrap .i64 m))] w3 (by kernel_rfl) ?_
      refine J.head (.int .i64 m) (congrArg (Value.int .i64) (IntWalk.i64_in _ (by omega))) ?_
      refine J.run 3 K86_37 [(3, .int .i64 0), (2, .int .i64 m)] w3 (by kernel_rfl) ?_
      refine J.ret Tryd.f86 [.int .i64 m, .int .i64 0] Tryd.func86 ⟨by kernel_rfl, by kernel_rfl, trivial⟩ ?_
      refine hR _ _ ?_
      obtain ⟨e1, e2⟩ := par_zero (s := s) (by omega) hf (by first | (rw [(fit_neg (m := m) (hmn.symm.trans fk5) (hmd (by omega))).1]; exact decide_eq_true (by omega)) | (rw [(fit_pos (m := m) (hmn.symm.trans fk5) (hmd (by omega))).1]; exact decide_eq_true (by omega)))
      exact ⟨by rw [tup_two, e1, e2]; first | rw [(fit_neg (m := m) (hmn.symm.trans fk5) (hmd (by omega))).2] | rw [(fit_pos (m := m) (hmn.symm.trans fk5) (hmd (by omega))).2], S3.nil⟩
     refine J.head (.bool true) (congrArg Value.bool (decide_eq_true fk11)) ?_
     have hb1 := decV_take (d := d) k0 (by omega)
     have hb2 := take_bound (d := d) (n := (k + 1).toNat) hqd (by omega)
     have hb3 := hqd k.toNat (by omega)
     have hb4 := byteAt_ls d k.toNat
     refine J.run 7 K86_27 [(66, .int .u64 (IntKind.wrap .u64 (10 * m))), (8, .int .i64 k), (5, .string d), (4, .bool mn)] w3 (by kernel_rfl) ?_
     refine J.head (.int .u64 (10 * m)) (congrArg (Value.int .u64) (IntWalk.u64_in _ (by omega))) ?_
     refine J.run 2 K86_28 [(68, .int .i64 k), (67, .string d), (66, .int .u64 (10 * m)), (8, .int .i64 k), (5, .string d), (4, .bool mn)] w3 (by kernel_rfl) ?_
     have := byteAt_bounds d (k).toNat
     refine J.ok (OK.byte 69 9 d k (byteAt d (k).toNat) (by kernel_rfl) (by kernel_rfl) (by omega) (by omega) (rfl)) ?_
     refine J.run 1 K86_29 [(70, .int .u8 (IntKind.wrap .u8 ((byteAt d (k).toNat) - 48))), (66, .int .u64 (10 * m)), (8, .int .i64 k), (5, .string d), (4, .bool mn)] w3 (by kernel_rfl) ?_
     refine J.head (.int .u8 ((byteAt d (k).toNat) - 48)) (congrArg (Value.int .u8) (IntWalk.u8_in _ (by omega))) ?_
     refine J.run 1 K86_30 [(71, .int .u64 (IntKind.wrap .u64 ((byteAt d (k).toNat) - 48))), (66, .int .u64 (10 * m)), (8, .int .i64 k), (5, .string d), (4, .bool mn)] w3 (by kernel_rfl) ?_
     refine J.head (.int .u64 ((byteAt d (k).toNat) - 48)) (congrArg (Value.int .u64) (IntWalk.u64_in _ (by omega))) ?_
     refine J.run 1 K86_31 [(72, .int .u64 (IntKind.wrap .u64 ((10 * m) + ((byteAt d (k).toNat) - 48)))), (8, .int .i64 k), (5, .string d), (4, .bool mn)] w3 (by kernel_rfl) ?_
     refine J.head (.int .u64 ((10 * m) + ((byteAt d (k).toNat) - 48))) (congrArg (Value.int .u64) (IntWalk.u64_in _ (by omega))) ?_
     refine J.run 6 K86_32 [(64, .int .i64 (IntKind.wrap .i64 (k + 1))), (7, .int .u64 ((10 * m) + ((byteAt d (k).toNat) - 48))), (5, .string d), (4, .bool mn)] w3 (by kernel_rfl) ?_
     refine J.head (.int .i64 (k + 1)) (congrArg (Value.int .i64) (IntWalk.i64_in _ (by omega))) ?_
     refine J.run 3 K86_25 [(8, .int .i64 (k + 1)), (7, .int .u64 ((10 * m) + ((byteAt d (k).toNat) - 48))), (5, .string d), (4, .bool mn)] w3 (by kernel_rfl) ?_
     refine J.run 0 K86_25 [(8, .int .i64 (k + 1)), (7, .int .u64 ((10 * m) + ((byteAt d (k).toNat) - 48))), (5, .string d), (4, .bool mn)] w3 (by kernel_rfl) ?_
     exact ih2 _ (show ((d.size : Int) - (k + 1)).toNat < mm2 from by omega) ((10 * m) + ((byteAt d (k).toNat) - 48)) (k + 1) w3 (by omega) (by omega) (by omega) S3 rfl
    exact L86_2 _ 0 0 w2 (by omega) (by omega) (rfl) S2 rfl
   exact L86_1 _ 0 w1 (by omega) (by omega) (by intro j hj; simp at hj) S1 rfl
  refine J.head (.bool false) (congrArg Value.bool (beq_eq_false_iff_ne.2 fk4)) ?_
  refine J.run 18 K86_39 [(6, .int .i64 0), (5, .string d), (4, .bool mn)] w1 (by kernel_rfl) ?_
  have L86_3 : ∀ (mm_ : Nat) (i : Int) (w4 : World), (0 ≤ i) → (i ≤ (d.size : Int)) → (∀ j, j < (i).toNat → 48 ≤ byteAt d j ∧ byteAt d j ≤ 57) → Sep w [] w4 → ((d.size : Int) - i).toNat = mm_ → J Tryd.prog 86 89 R K86_39 [(6, .int .i64 i), (5, .string d), (4, .bool mn)] w4 := by
   intro mm3
   induction mm3 using Nat.strongRecOn with
   | _ mm3 ih3 =>
   intro i w4 h0 h1 hq S4 hm3
   refine J.run 8 K86_40 [(43, .bool (decide (i < (d.size : Int)))), (6, .int .i64 i), (5, .string d), (4, .bool mn)] w4 (by kernel_rfl) ?_
   by_cases fk15 : i < (d.size : Int)
   ·skip
    refine J.head (.bool true) (congrArg Value.bool (decide_eq_true fk15)) ?_
    refine J.run 8 K86_41 [(47, .int .i64 i), (46, .string d), (6, .int .i64 i), (5, .string d), (4, .bool mn)] w4 (by kernel_rfl) ?_
    have := byteAt_bounds d (i).toNat
    refine J.ok (OK.byte 48 9 d i (byteAt d (i).toNat) (by kernel_rfl) (by kernel_rfl) (by omega) (by omega) (rfl)) ?_
    refine J.run 2 K86_42 [(50, .bool (decide ((byteAt d (i).toNat) < 48))), (6, .int .i64 i), (5, .string d), (4, .bool mn)] w4 (by kernel_rfl) ?_
    by_cases fk16 : (byteAt d (i).toNat) < 48
    ·skip
     refine J.head (.bool true) (congrArg Value.bool (decide_eq_true fk16)) ?_
     refine J.run 12 K86_43 [(3, .int .i64 3), (2, .int .i64 0)] w4 (by kernel_rfl) ?_
     refine J.ret Tryd.f86 [.int .i64 0, .int .i64 3] Tryd.func86 ⟨by kernel_rfl, by kernel_rfl, trivial⟩ ?_
     refine hR _ _ ?_
     obtain ⟨e1, e2⟩ := par_three (s := s) (by omega) (by first | exact form_bad1 hd (by omega) | exact form_bad2 hd (i := i.toNat) (by omega) (by omega))
     exact ⟨by rw [tup_two, e1, e2], S4.nil⟩
    refine J.head (.bool false) (congrArg Value.bool (decide_eq_false fk16)) ?_
    refine J.run 2 K86_44 [(52, .int .i64 i), (51, .string d), (50, .bool false), (6, .int .i64 i), (5, .string d), (4, .bool mn)] w4 (by kernel_rfl) ?_
    have := byteAt_bounds d (i).toNat
    refine J.ok (OK.byte 53 9 d i (byteAt d (i).toNat) (by kernel_rfl) (by kernel_rfl) (by omega) (by omega) (rfl)) ?_
    refine J.run 3 K86_45 [(55, .bool (decide ((byteAt d (i).toNat) > 57))), (6, .int .i64 i), (5, .string d), (4, .bool mn)] w4 (by kernel_rfl) ?_
    by_cases fk17 : (byteAt d (i).toNat) > 57
    ·skip
     refine J.head (.bool true) (congrArg Value.bool (decide_eq_true fk17)) ?_
     refine J.run 6 K86_46 [(3, .int .i64 3), (2, .int .i64 0)] w4 (by kernel_rfl) ?_
     refine J.ret Tryd.f86 [.int .i64 0, .int .i64 3] Tryd.func86 ⟨by kernel_rfl, by kernel_rfl, trivial⟩ ?_
     refine hR _ _ ?_
     obtain ⟨e1, e2⟩ := par_three (s := s) (by omega) (by first | exact form_bad1 hd (by omega) | exact form_bad2 hd (i := i.toNat) (by omega) (by omega))
     exact ⟨by rw [tup_two, e1, e2], S4.nil⟩
    refine J.head (.bool false) (congrArg Value.bool (decide_eq_false fk17)) ?_
    refine J.run 6 K86_47 [(45, .int .i64 (IntKind.wrap .i64 (i + 1))), (5, .string d), (4, .bool mn)] w4 (by kernel_rfl) ?_
    refine J.head (.int .i64 (i + 1)) (congrArg (Value.int .i64) (IntWalk.i64_in _ (by omega))) ?_
    refine J.run 3 K86_39 [(6, .int .i64 (i + 1)), (5, .string d), (4, .bool mn)] w4 (by kernel_rfl) ?_
    refine J.run 0 K86_39 [(6, .int .i64 (i + 1)), (5, .string d), (4, .bool mn)] w4 (by kernel_rfl) ?_
    exact ih3 _ (show ((d.size : Int) - (i + 1)).toNat < mm3 from by omega) (i + 1) w4 (by omega) (by omega) (dg_step (q := fun j => 48 ≤ byteAt d j ∧ byteAt d j ≤ 57) h0 hq (by omega)) S4 rfl
   refine J.head (.bool false) (congrArg Value.bool (decide_eq_false fk15)) ?_
   have hqd : ∀ j, j < d.size → 48 ≤ byteAt d j ∧ byteAt d j ≤ 57 := fun j hj => hq j (by omega)
   have hf := form_good hd ⟨by omega, by omega⟩ hqd
   refine J.run 9 K86_48 [(58, .bool (decide ((d.size : Int) > 19))), (5, .string d), (4, .bool mn)] w4 (by kernel_rfl) ?_
   by_cases fk18 : (d.size : Int) > 19
   ·skip
    refine J.head (.bool true) (congrArg Value.bool (decide_eq_true fk18)) ?_
    refine J.run 6 K86_49 [(3, .int .i64 9), (2, .int .i64 0)] w4 (by kernel_rfl) ?_
    refine J.ret Tryd.f86 [.int .i64 0, .int .i64 9] Tryd.func86 ⟨by kernel_rfl, by kernel_rfl, trivial⟩ ?_
    refine hR _ _ ?_
    obtain ⟨e1, e2⟩ := par_nine (s := s) (by omega) hf (by first | exact fit_long hd hf (by omega) | (rw [(fit_neg (m := m) (hmn.symm.trans rfl) (hmd (by omega))).1]; exact decide_eq_false (by omega)) | (rw [(fit_pos (m := m) (hmn.symm.trans rfl) (hmd (by omega))).1]; exact decide_eq_false (by omega)))
    exact ⟨by rw [tup_two, e1, e2], S4.nil⟩
   refine J.head (.bool false) (congrArg Value.bool (decide_eq_false fk18)) ?_
   refine J.run 13 K86_50 [(8, .int .i64 0), (7, .int .u64 0), (5, .string d), (4, .bool mn)] w4 (by kernel_rfl) ?_
   have L86_4 : ∀ (mm_ : Nat) (m : Int) (k : Int) (w5 : World), (0 ≤ k) → (k ≤ (d.size : Int)) → (m = (decV ((ls d).take (k).toNat) : Int)) → Sep w [] w5 → ((d.size : Int) - k).toNat = mm_ → J Tryd.prog 86 89 R K86_50 [(8, .int .i64 k), (7, .int .u64 m), (5, .string d), (4, .bool mn)] w5 := by
    intro mm4
    induction mm4 using Nat.strongRecOn with
    | _ mm4 ih4 =>
    intro m k w5 k0 k1 hm S5 hm4
    have hb0 := take_bound (d := d) (n := k.toNat) hqd (by omega)
    have hmd : (d.size : Int) ≤ k → m = (decV (digL (ls s)) : Int) := fun h_ => hm.trans (take_all hd h_)
    refine J.run 8 K86_51 [(62, .bool (decide (k < (d.size : Int)))), (8, .int .i64 k), (7, .int .u64 m), (5, .string d), (4, .bool mn)] w5 (by kernel_rfl) ?_
    by_cases fk19 : k < (d.size : Int)
    ·skip
     refine J.head (.bool true) (congrArg Value.bool (decide_eq_true fk19)) ?_
     have hb1 := decV_take (d := d) k0 (by omega)
     have hb2 := take_bound (d := d) (n := (k + 1).toNat) hqd (by omega)
     have hb3 := hqd k.toNat (by omega)
     have hb4 := byteAt_ls d k.toNat
     refine J.run 7 K86_52 [(66, .int .u64 (IntKind.wrap .u64 (10 * m))), (8, .int .i64 k), (5, .string d), (4, .bool mn)] w5 (by kernel_rfl) ?_
     refine J.head (.int .u64 (10 * m)) (congrArg (Value.int .u64) (IntWalk.u64_in _ (by omega))) ?_
     refine J.run 2 K86_53 [(68, .int .i64 k), (67, .string d), (66, .int .u64 (10 * m)), (8, .int .i64 k), (5, .string d), (4, .bool mn)] w5 (by kernel_rfl) ?_
     have := byteAt_bounds d (k).toNat
     refine J.ok (OK.byte 69 9 d k (byteAt d (k).toNat) (by kernel_rfl) (by kernel_rfl) (by omega) (by omega) (rfl)) ?_
     refine J.run 1 K86_54 [(70, .int .u8 (IntKind.wrap .u8 ((byteAt d (k).toNat) - 48))), (66, .int .u64 (10 * m)), (8, .int .i64 k), (5, .string d), (4, .bool mn)] w5 (by kernel_rfl) ?_
     refine J.head (.int .u8 ((byteAt d (k).toNat) - 48)) (congrArg (Value.int .u8) (IntWalk.u8_in _ (by omega))) ?_
     refine J.run 1 K86_55 [(71, .int .u64 (IntKind.wrap .u64 ((byteAt d (k).toNat) - 48))), (66, .int .u64 (10 * m)), (8, .int .i64 k), (5, .string d), (4, .bool mn)] w5 (by kernel_rfl) ?_
     refine J.head (.int .u64 ((byteAt d (k).toNat) - 48)) (congrArg (Value.int .u64) (IntWalk.u64_in _ (by omega))) ?_
     refine J.run 1 K86_56 [(72, .int .u64 (IntKind.wrap .u64 ((10 * m) + ((byteAt d (k).toNat) - 48)))), (8, .int .i64 k), (5, .string d), (4, .bool mn)] w5 (by kernel_rfl) ?_
     refine J.head (.int .u64 ((10 * m) + ((byteAt d (k).toNat) - 48))) (congrArg (Value.int .u64) (IntWalk.u64_in _ (by omega))) ?_
     refine J.run 6 K86_57 [(64, .int .i64 (IntKind.wrap .i64 (k + 1))), (7, .int .u64 ((10 * m) + ((byteAt d (k).toNat) - 48))), (5, .string d), (4, .bool mn)] w5 (by kernel_rfl) ?_
     refine J.head (.int .i64 (k + 1)) (congrArg (Value.int .i64) (IntWalk.i64_in _ (by omega))) ?_
     refine J.run 3 K86_50 [(8, .int .i64 (k + 1)), (7, .int .u64 ((10 * m) + ((byteAt d (k).toNat) - 48))), (5, .string d), (4, .bool mn)] w5 (by kernel_rfl) ?_
     refine J.run 0 K86_50 [(8, .int .i64 (k + 1)), (7, .int .u64 ((10 * m) + ((byteAt d (k).toNat) - 48))), (5, .string d), (4, .bool mn)] w5 (by kernel_rfl) ?_
     exact ih4 _ (show ((d.size : Int) - (k + 1)).toNat < mm4 from by omega) ((10 * m) + ((byteAt d (k).toNat) - 48)) (k + 1) w5 (by omega) (by omega) (by omega) S5 rfl
    refine J.head (.bool false) (congrArg Value.bool (decide_eq_false fk19)) ?_
    refine J.run 7 K86_58 [(74, .bool mn), (7, .int .u64 m), (4, .bool mn)] w5 (by kernel_rfl) ?_
    rcases Bool.eq_false_or_eq_true mn with fk20 | fk20
    rotate_left
    ·skip
     refine J.head (.bool false) (congrArg Value.bool fk20) ?_
     have hmf2 := hmf fk20
     refine J.run 12 K86_65 [(83, .bool (!mn)), (7, .int .u64 m)] w5 (by kernel_rfl) ?_
     refine J.head (.bool true) (congrArg Value.bool (by rw [fk20]; rfl)) ?_
     refine J.run 4 K86_66 [(86, .bool (decide (m < 9223372036854775808))), (7, .int .u64 m)] w5 (by kernel_rfl) ?_
     by_cases fk24 : m < 9223372036854775808
     rotate_left
     ·skip
      refine J.head (.bool false) (congrArg Value.bool (decide_eq_false fk24)) ?_
      refine J.run 7 K86_69 [(3, .int .i64 9), (2, .int .i64 0)] w5 (by kernel_rfl) ?_
      refine J.ret Tryd.f86 [.int .i64 0, .int .i64 9] Tryd.func86 ⟨by kernel_rfl, by kernel_rfl, trivial⟩ ?_
      refine hR _ _ ?_
      obtain ⟨e1, e2⟩ := par_nine (s := s) (by omega) hf (by first | exact fit_long hd hf (by omega) | (rw [(fit_neg (m := m) (hmn.symm.trans fk20) (hmd (by omega))).1]; exact decide_eq_false (by omega)) | (rw [(fit_pos (m := m) (hmn.symm.trans fk20) (hmd (by omega))).1]; exact decide_eq_false (by omega)))
      exact ⟨by rw [tup_two, e1, e2], S5.nil⟩
     refine J.head (.bool true) (congrArg Value.bool (decide_eq_true fk24)) ?_
     refine J.run 5 K86_67 [(88, .int .i64 (IntKind.wrap .i64 m))] w5 (by kernel_rfl) ?_
     refine J.head (.int .i64 m) (congrArg (Value.int .i64) (IntWalk.i64_in _ (by omega))) ?_
     refine J.run 3 K86_68 [(3, .int .i64 0), (2, .int .i64 m)] w5 (by kernel_rfl) ?_
     refine J.ret Tryd.f86 [.int .i64 m, .int .i64 0] Tryd.func86 ⟨by kernel_rfl, by kernel_rfl, trivial⟩ ?_
     refine hR _ _ ?_
     obtain ⟨e1, e2⟩ := par_zero (s := s) (by omega) hf (by first | (rw [(fit_neg (m := m) (hmn.symm.trans fk20) (hmd (by omega))).1]; exact decide_eq_true (by omega)) | (rw [(fit_pos (m := m) (hmn.symm.trans fk20) (hmd (by omega))).1]; exact decide_eq_true (by omega)))
     exact ⟨by rw [tup_two, e1, e2]; first | rw [(fit_neg (m := m) (hmn.symm.trans fk20) (hmd (by omega))).2] | rw [(fit_pos (m := m) (hmn.symm.trans fk20) (hmd (by omega))).2], S5.nil⟩
    refine J.head (.bool true) (congrArg Value.bool fk20) ?_
    have hms2 := hms fk20
    refine J.run 4 K86_59 [(77, .bool (decide (m ≤ 9223372036854775808))), (7, .int .u64 m), (4, .bool mn)] w5 (by kernel_rfl) ?_
    by_cases fk21 : m ≤ 9223372036854775808
    rotate_left
    ·skip
     refine J.head (.bool false) (congrArg Value.bool (decide_eq_false fk21)) ?_
     refine J.run 8 K86_63 [(83, .bool (!mn)), (7, .int .u64 m)] w5 (by kernel_rfl) ?_
     refine J.head (.bool false) (congrArg Value.bool (by rw [fk20]; rfl)) ?_
     refine J.run 11 K86_64 [(3, .int .i64 9), (2, .int .i64 0)] w5 (by kernel_rfl) ?_
     refine J.ret Tryd.f86 [.int .i64 0, .int .i64 9] Tryd.func86 ⟨by kernel_rfl, by kernel_rfl, trivial⟩ ?_
     refine hR _ _ ?_
     obtain ⟨e1, e2⟩ := par_nine (s := s) (by omega) hf (by first | exact fit_long hd hf (by omega) | (rw [(fit_neg (m := m) (hmn.symm.trans fk20) (hmd (by omega))).1]; exact decide_eq_false (by omega)) | (rw [(fit_pos (m := m) (hmn.symm.trans fk20) (hmd (by omega))).1]; exact decide_eq_false (by omega)))
     exact ⟨by rw [tup_two, e1, e2], S5.nil⟩
    refine J.head (.bool true) (congrArg Value.bool (decide_eq_true fk21)) ?_
    have hm0 := form_neg hf (hmn.symm.trans fk20)
    have hm1 := hmd (by omega)
    refine J.run 5 K86_60 [(79, .int .u64 (IntKind.wrap .u64 (0 - m)))] w5 (by kernel_rfl) ?_
    refine J.head (.int .u64 (18446744073709551616 - m)) (congrArg (Value.int .u64) (by rw [wrapU]; omega)) ?_
    refine J.run 1 K86_61 [(80, .int .i64 (IntKind.wrap .i64 (18446744073709551616 - m)))] w5 (by kernel_rfl) ?_
    refine J.head (.int .i64 (-m)) (congrArg (Value.int .i64) (wrap_i64_neg (by omega))) ?_
    refine J.run 3 K86_62 [(3, .int .i64 0), (2, .int .i64 (-m))] w5 (by kernel_rfl) ?_
    refine J.ret Tryd.f86 [.int .i64 (-m), .int .i64 0] Tryd.func86 ⟨by kernel_rfl, by kernel_rfl, trivial⟩ ?_
    refine hR _ _ ?_
    obtain ⟨e1, e2⟩ := par_zero (s := s) (by omega) hf (by first | (rw [(fit_neg (m := m) (hmn.symm.trans fk20) (hmd (by omega))).1]; exact decide_eq_true (by omega)) | (rw [(fit_pos (m := m) (hmn.symm.trans fk20) (hmd (by omega))).1]; exact decide_eq_true (by omega)))
    exact ⟨by rw [tup_two, e1, e2]; first | rw [(fit_neg (m := m) (hmn.symm.trans fk20) (hmd (by omega))).2] | rw [(fit_pos (m := m) (hmn.symm.trans fk20) (hmd (by omega))).2], S5.nil⟩
   exact L86_4 _ 0 0 w4 (by omega) (by omega) (rfl) S4 rfl
  exact L86_3 _ 0 w1 (by omega) (by omega) (by intro j hj; simp at hj) S1 rfl
 by_cases fk25 : (byteAt s 0) = 45
 rotate_left
 ·skip
  refine J.head (.bool false) (congrArg Value.bool (beq_eq_false_iff_ne.2 fk25)) ?_
  refine J.run 2 K86_72 [(4, .bool ((byteAt s 0) == 45)), (5, .string s)] w (by kernel_rfl) ?_
  refine J.head (.bool false) (congrArg Value.bool (beq_eq_false_iff_ne.2 fk25)) ?_
  refine J.run 0 K86_5 [(5, .string s), (4, .bool false)] w (by kernel_rfl) ?_
  exact X1 s false w (by first | exact (dig_minus (by omega) (by omega)).1 | exact (dig_plain (by omega)).1) (by first | omega | (rw [size_extract s (Nat.le_refl _)]; omega)) ((by first | (intro h_; cases h_; done) | (intro h_; rfl))) ((by first | (intro h_; cases h_; done) | (intro h_; rw [size_extract s (Nat.le_refl _)]; omega))) ((by first | exact (dig_minus (by omega) (by omega)).2.symm | exact (dig_plain (by omega)).2.symm)) S0
 refine J.head (.bool true) (congrArg Value.bool (beq_iff_eq.2 fk25)) ?_
 refine J.run 3 K86_70 [(22, .string s), (4, .bool ((byteAt s 0) == 45))] w (by kernel_rfl) ?_
 refine J.ok (OK.sliceT 23 9 s (some (.int .i64 1)) none 1 s.size (by kernel_rfl) (by kernel_rfl) (.inr ⟨_, _, rfl, rfl⟩) (.inl ⟨rfl, rfl⟩) (by first | omega | (simp; omega)) (by first | omega | (simp; omega))) ?_
 have := size_extract s (i := 1) (j := s.size) (by first | omega | (simp; omega))
 refine J.run 2 K86_71 [(4, .bool ((byteAt s 0) == 45)), (5, .string (s.extract 1 s.size))] w (by kernel_rfl) ?_
 refine J.head (.bool true) (congrArg Value.bool (beq_iff_eq.2 fk25)) ?_
 refine J.run 0 K86_5 [(5, .string (s.extract 1 s.size)), (4, .bool true)] w (by kernel_rfl) ?_
 exact X1 (s.extract 1 s.size) true w (by first | exact (dig_minus (by omega) (by omega)).1 | exact (dig_plain (by omega)).1) (by first | omega | (rw [size_extract s (Nat.le_refl _)]; omega)) ((by first | (intro h_; cases h_; done) | (intro h_; rfl))) ((by first | (intro h_; cases h_; done) | (intro h_; rw [size_extract s (Nat.le_refl _)]; omega))) ((by first | exact (dig_minus (by omega) (by omega)).2.symm | exact (dig_plain (by omega)).2.symm)) S0

end
end Go.Proofs.YthiklimfffhbaaaDoor

