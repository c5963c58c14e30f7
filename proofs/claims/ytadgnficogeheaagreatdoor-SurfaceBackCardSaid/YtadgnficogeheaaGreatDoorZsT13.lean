/- Walks of functions of this seat, printed by a program over the engine. Conditions: as each theorem says. -/
import Derived.Test.YtadgnficogeheaaGreatDoorZsF12
import Derived.Test.YtadgnficogeheaaGreatDoorZsEng12
import Derived.Test.YtadgnficogeheaaGreatDoorZsShelf
namespace Go.Proofs.YtadgnficogeheaaGreatDoor
noncomputable section
open Go.Eng Go.RowKit
set_option linter.unusedSimpArgs false
set_option linter.unusedVariables false
abbrev TabW (w : World) : Prop := Lib.TabIs Tryz.prog w "internal/strconv.uint64pow10" .u64 Lib.pow10Tab ∧ ErrW w 3 ∧ ErrW w 4 ∧ IntW w 0 .i64
theorem tabW_sep {w w' : World} {L : List Go.Eng.Claim} (h : TabW w) (S : Sep w L w') : TabW w' := ⟨S.tab (g := 5) (by kernel_rfl) h.1, (h.2.1).sep S, (h.2.2.1).sep S, (h.2.2.2).sep S⟩
abbrev iv (n : Int) : Value := Value.int IntKind.i64 n
def parE (s : ByteArray) : Int := if 24 < s.size then 5 else if formL (ls s) then (if fitL (valL (ls s)) then 0 else 9) else 3
def parX (s : ByteArray) : Int := if parE s = 0 then valL (ls s) else 0
theorem par_bounds (s : ByteArray) : -9223372036854775808 ≤ parX s ∧ parX s ≤ 9223372036854775807 := by
  unfold parX
  split
  · rename_i h
    unfold parE at h
    split at h; · omega
    split at h
    · split at h
      · rename_i h1; simp only [fitL, Bool.and_eq_true, decide_eq_true_eq] at h1; exact h1
      · omega
    · omega
  · omega
theorem par_five {s : ByteArray} (h : 24 < s.size) : parX s = 0 ∧ parE s = 5 := by
  have e : parE s = 5 := by unfold parE; rw [if_pos h]
  exact ⟨by unfold parX; rw [if_neg (by omega)], e⟩
theorem par_three {s : ByteArray} (h : s.size ≤ 24) (hf : formL (ls s) = false) : parX s = 0 ∧ parE s = 3 := by
  have e : parE s = 3 := by unfold parE; rw [if_neg (by omega), if_neg (by rw [hf]; decide)]
  exact ⟨by unfold parX; rw [if_neg (by omega)], e⟩
theorem par_nine {s : ByteArray} (h : s.size ≤ 24) (hf : formL (ls s) = true) (hg : fitL (valL (ls s)) = false) : parX s = 0 ∧ parE s = 9 := by
  have e : parE s = 9 := by unfold parE; rw [if_neg (by omega), if_pos hf, if_neg (by rw [hg]; decide)]
  exact ⟨by unfold parX; rw [if_neg (by omega)], e⟩
theorem par_zero {s : ByteArray} (h : s.size ≤ 24) (hf : formL (ls s) = true) (hg : fitL (valL (ls s)) = true) : parX s = valL (ls s) ∧ parE s = 0 := by
  have e : parE s = 0 := by unfold parE; rw [if_neg (by omega), if_pos hf, if_pos hg]
  exact ⟨by unfold parX; rw [if_pos e], e⟩
/-! the bytes of a text that may have a sign -/
theorem dig_minus {s : ByteArray} (h : s.size ≠ 0) (h2 : byteAt s 0 = 45) : ls (s.extract 1 s.size) = digL (ls s) ∧ negL (ls s) = true := by
  have hl := ls_length s
  rw [ls_extract, ← hl, List.take_length]
  cases hs : ls s with
  | nil => rw [hs] at hl; simp at hl; omega
  | cons c l =>
    rw [byteAt_ls, hs] at h2
    have hc : c = 45 := UInt8.toNat_inj.1 (by have h3 : ((c.toNat : Nat) : Int) = 45 := h2; have : (45 : UInt8).toNat = 45 := rfl; omega)
    subst hc
    exact ⟨rfl, rfl⟩
theorem dig_plain {s : ByteArray} (h : s.size = 0 ∨ byteAt s 0 ≠ 45) : ls s = digL (ls s) ∧ negL (ls s) = false := by
  have hl := ls_length s
  have hn : negL (ls s) = false := by
    cases hs : ls s with
    | nil => rfl
    | cons c l =>
      rcases h with h | h
      · rw [hs] at hl; simp at hl; omega
      · rw [byteAt_ls, hs] at h
        unfold negL
        rw [List.head?_cons, beq_eq_false_iff_ne]
        intro e
        have := Option.some.inj e; subst this
        exact h rfl
  exact ⟨(digL_pos hn).symm, hn⟩
theorem head_byte {d : ByteArray} {l : List UInt8} (hd : ls d = l) (h : d.size ≠ 0) (k : Nat) (hk : k < 256) : (l.head? == some (UInt8.ofNat k)) = decide (byteAt d 0 = k) := by
  have hl := ls_length d
  rw [byteAt_ls, hd]
  rw [hd] at hl
  cases l with
  | nil => simp at hl; omega
  | cons c l =>
    rw [List.head?_cons, Bool.eq_iff_iff, beq_iff_eq, decide_eq_true_eq]
    constructor
    · intro e
      have := Option.some.inj e; subst this
      show (((UInt8.ofNat k).toNat : Nat) : Int) = k
      rw [UInt8.toNat_ofNat']; omega
    · intro e
      have e2 : ((c.toNat : Nat) : Int) = k := e
      congr 1
      apply UInt8.toNat_inj.1
      rw [UInt8.toNat_ofNat']; omega
theorem head48 {d : ByteArray} {l : List UInt8} (hd : ls d = l) (h : d.size ≠ 0) : (l.head? == some 48) = decide (byteAt d 0 = 48) := head_byte hd h 48 (by omega)
theorem form_bad1 {s d : ByteArray} (hd : ls d = digL (ls s)) (h : d.size = 0 ∨ (byteAt d 0 = 48 ∧ 1 < s.size)) : formL (ls s) = false := by
  have hl := ls_length d
  have hsl := ls_length s
  unfold formL
  by_cases h0 : d.size = 0
  · rw [← hd, show ls d = [] from List.eq_nil_of_length_eq_zero (by omega)]; rfl
  · rcases h with h | ⟨h1, h2⟩
    · exact absurd h h0
    · rw [head48 hd h0, decide_eq_true h1, decide_eq_true (by omega)]; simp
theorem getD_dig {d : ByteArray} {i : Nat} (hi : i < d.size) : isDig ((ls d).getD i 0) = (decide (48 ≤ byteAt d i) && decide (byteAt d i ≤ 57)) := by
  rw [byteAt_ls]; unfold isDig
  rw [Bool.eq_iff_iff, Bool.and_eq_true, Bool.and_eq_true, decide_eq_true_eq, decide_eq_true_eq, decide_eq_true_eq, decide_eq_true_eq]; omega
theorem form_bad2 {s d : ByteArray} (hd : ls d = digL (ls s)) {i : Nat} (hi : i < d.size) (h : byteAt d i < 48 ∨ 57 < byteAt d i) : formL (ls s) = false := by
  have hl := ls_length d
  have hdig := getD_dig hi
  have hf : isDig ((ls d).getD i 0) = false := by
    rw [hdig, Bool.and_eq_false_iff, decide_eq_false_iff_not, decide_eq_false_iff_not]; omega
  have hall : (digL (ls s)).all isDig = false := by
    rw [← hd, List.all_eq_false]
    exact ⟨(ls d).getD i 0, by rw [List.getD_eq_getElem?_getD, List.getElem?_eq_getElem (by omega)]; exact List.getElem_mem _, by rw [hf]; simp⟩
  unfold formL; rw [hall, Bool.and_false, Bool.false_and]
theorem form_good {s d : ByteArray} (hd : ls d = digL (ls s)) (h : ¬ (d.size = 0) ∧ (¬ byteAt d 0 = 48 ∨ ¬ 1 < s.size)) (hq : ∀ j, j < d.size → 48 ≤ byteAt d j ∧ byteAt d j ≤ 57) : formL (ls s) = true := by
  have hl := ls_length d
  have hsl := ls_length s
  have hall : (digL (ls s)).all isDig = true := by
    rw [← hd, List.all_eq_true]
    intro c hc
    obtain ⟨j, hj, rfl⟩ := List.mem_iff_getElem.1 hc
    have h1 := getD_dig (d := d) (i := j) (by omega)
    rw [List.getD_eq_getElem?_getD, List.getElem?_eq_getElem hj, Option.getD_some] at h1
    rw [h1]; have := hq j (by omega)
    rw [decide_eq_true this.1, decide_eq_true this.2]; rfl
  have hne : (digL (ls s)).isEmpty = false := by
    rw [← hd, List.isEmpty_eq_false_iff]; intro e; rw [e] at hl; simp at hl; omega
  unfold formL
  rw [hall, hne]
  rw [head48 hd h.1]
  rcases h.2 with h2 | h2
  · rw [decide_eq_false (by simpa using h2)]; rfl
  · rw [decide_eq_false (show ¬ 1 < (ls s).length by omega), Bool.and_false]; rfl
theorem dg_step {q : Nat → Prop} {i : Int} (h0 : 0 ≤ i) (hq : ∀ k, k < i.toNat → q k) (h : q i.toNat) : ∀ k, k < (i + 1).toNat → q k := by
  intro k hk
  by_cases e : k = i.toNat
  · subst e; exact h
  · exact hq k (by omega)
/-! the text of a number, digit by digit -/
theorem hb56 : HasBody Tryz.prog 56 := fun _ _ => by kernel_rfl
theorem itoa_any (n : Int) (w : World) (hn : -9223372036854775808 ≤ n ∧ n ≤ 9223372036854775807) (hW : TabW w) : Ret Tryz.prog 56 #[.int .i64 n] w (fun v w' => v = .string (itoaB n) ∧ Sep w [] w') :=
  Ret.of_calls (Tryz.strconv_Itoa n hn.1 hn.2 w hW.1) fun w' ⟨k, os, e⟩ => ⟨rfl, by subst e; exact .of_grow _ _ _⟩
theorem hb52 : HasBody Tryz.prog 52 := fun _ _ => by kernel_rfl
theorem atoi_ok (s : ByteArray) (w : World) (hs : s.size ≤ 281474976710656) (h : formL (ls s) = true) (hf : fitL (valL (ls s)) = true) : Ret Tryz.prog 52 #[.string s] w (fun v w' => v = .tuple #[.int .i64 (valL (ls s)), .nilIface] ∧ Sep w [] w') :=
  Ret.of_calls (Tryz.strconv_Atoi_ok s (by omega) (valL (ls s)) (by rw [atoi_form h, if_pos hf]) w) fun w' hw => ⟨rfl, by rcases hw with rfl | ⟨t, rfl⟩; exact .refl _; exact .of_below (Lib.bytesWorld_below _ _ _)⟩
theorem atoi_big (s : ByteArray) (w : World) (hs : s.size ≤ 281474976710656) (h : formL (ls s) = true) (hf : fitL (valL (ls s)) = false) (hW : TabW w) : Ret Tryz.prog 52 #[.string s] w (fun v w' => ∃ N, v = .tuple #[.int .i64 (Lib.atoiSat (ls s)), .iface 105 (.pointer (some ⟨N, 0, none⟩))] ∧ Sep w [] w') := by
  obtain ⟨ev, hv, hev⟩ := hW.2.2.1
  exact Calls.mono (Tryz.strconv_Atoi_range s hs (by rw [atoi_form h, if_neg (by rw [hf]; decide)]) ev w hv hev) fun e w' ⟨N, he, _, _, hb⟩ => ⟨_, he, N, rfl, .of_below hb⟩
theorem hb40 : HasBody Tryz.prog 40 := fun _ _ => by kernel_rfl
def K40_0 := adv 7 [] (bodyOf Tryz.f40)
def K40_1 := adv 2 [] (popK K40_0)
set_option maxRecDepth 20000 in
set_option maxHeartbeats 20000000 in
theorem atext_any (n : Int) (w : World) (hn : -9223372036854775808 ≤ n ∧ n ≤ 9223372036854775807) (hW : TabW w) : Ret Tryz.prog 40 #[.int .i64 n] w (fun v w' => v = .string (itoaB n) ∧ Sep w [] w') := by
 have S0 := Sep.refl w
 refine Ret.named fun R hR => ?_
 refine Ret.of_J (N := 5) [(0, .int .i64 n)] Tryz.func40 rfl rfl (Nat.le_of_ble_eq_true (by kernel_rfl)) (by kernel_rfl) ?_
 refine J.run 7 K40_0 [(3, .int .i64 n)] w (by kernel_rfl) ?_
 refine J.callF 4 56 #[.int .i64 n] hb56 (by kernel_rfl) (itoa_any n _ (by omega) (tabW_sep hW S0)) ?_
 rintro _ w1 ⟨rfl, T1⟩
 have S1 : Sep w [] w1 := S0.trans T1
 clear T1
 have := itoaB_size (n := n) (by omega)
 refine J.run 2 K40_1 [(2, .string (itoaB n))] w1 (by kernel_rfl) ?_
 refine J.ret Tryz.f40 [.string (itoaB n)] Tryz.func40 ⟨by kernel_rfl, trivial⟩ ?_
 refine hR _ _ ?_
 exact ⟨rfl, S1.nil⟩

theorem hb37 : HasBody Tryz.prog 37 := fun _ _ => by kernel_rfl
def K37_0 := adv 12 [] (bodyOf Tryz.f37)
def K37_1 := adv 6 [true] K37_0
def K37_2 := adv 12 [false] K37_0
def K37_3 := adv 1 [] K37_2
def K37_4 := adv 5 [] K37_3
def K37_5 := List.drop 1 K37_4
def K37_6 := adv 5 [] K37_5
def K37_7 := adv 1 [] K37_6
def K37_8 := adv 16 [true] K37_7
def K37_9 := adv 1 [] K37_7
def K37_10 := adv 2 [] (popK K37_9)
def K37_11 := adv 6 [] K37_10
def K37_12 := adv 6 [true] K37_11
def K37_13 := adv 11 [false] K37_11
def K37_14 := adv 5 [] K37_13
def K37_15 := adv 13 [true] K37_14
def K37_16 := adv 2 [] (popK K37_15)
def K37_17 := adv 12 [true] K37_16
def K37_18 := adv 2 [] K37_16
def K37_19 := adv 3 [] (popK K37_18)
def K37_20 := adv 6 [true] K37_19
def K37_21 := adv 5 [false] K37_19
def K37_22 := adv 5 [false] K37_14
def K37_23 := adv 20 [false] (popK K37_22)
def K37_24 := adv 18 [true] (popK K37_22)
def K37_25 := adv 17 [false] K37_10
def K37_26 := adv 5 [] K37_25
def K37_27 := adv 13 [true] K37_26
def K37_28 := adv 2 [] (popK K37_27)
def K37_29 := adv 12 [true] K37_28
def K37_30 := adv 2 [] K37_28
def K37_31 := adv 3 [] (popK K37_30)
def K37_32 := adv 6 [true] K37_31
def K37_33 := adv 5 [false] K37_31
def K37_34 := adv 5 [false] K37_26
def K37_35 := adv 20 [false] (popK K37_34)
def K37_36 := adv 18 [true] (popK K37_34)
def K37_37 := adv 1 [] K37_3
def K37_38 := adv 3 [] (popK K37_37)
def K37_39 := List.drop 1 K37_38
def K37_40 := adv 5 [] K37_39
def K37_41 := adv 1 [] K37_40
def K37_42 := adv 16 [true] K37_41
def K37_43 := adv 1 [] K37_41
def K37_44 := adv 2 [] (popK K37_43)
def K37_45 := adv 6 [] K37_44
def K37_46 := adv 6 [true] K37_45
def K37_47 := adv 11 [false] K37_45
def K37_48 := adv 5 [] K37_47
def K37_49 := adv 13 [true] K37_48
def K37_50 := adv 2 [] (popK K37_49)
def K37_51 := adv 12 [true] K37_50
def K37_52 := adv 2 [] K37_50
def K37_53 := adv 3 [] (popK K37_52)
def K37_54 := adv 6 [true] K37_53
def K37_55 := adv 5 [false] K37_53
def K37_56 := adv 5 [false] K37_48
def K37_57 := adv 20 [false] (popK K37_56)
def K37_58 := adv 18 [true] (popK K37_56)
def K37_59 := adv 17 [false] K37_44
def K37_60 := adv 5 [] K37_59
def K37_61 := adv 13 [true] K37_60
def K37_62 := adv 2 [] (popK K37_61)
def K37_63 := adv 12 [true] K37_62
def K37_64 := adv 2 [] K37_62
def K37_65 := adv 3 [] (popK K37_64)
def K37_66 := adv 6 [true] K37_65
def K37_67 := adv 5 [false] K37_65
def K37_68 := adv 5 [false] K37_60
def K37_69 := adv 20 [false] (popK K37_68)
def K37_70 := adv 18 [true] (popK K37_68)
def K37_71 := adv 3 [true] K37_38
set_option maxRecDepth 20000 in
set_option maxHeartbeats 20000000 in
theorem aparse_any (s : ByteArray) (w : World) (hs : s.size ≤ 281474976710656) (hW : TabW w) : Ret Tryz.prog 37 #[.string s] w (fun v w' => v = .tuple #[.int .i64 (parX s), .int .i64 (parE s)] ∧ Sep w [] w') := by
 have S0 := Sep.refl w
 refine Ret.named fun R hR => ?_
 refine Ret.of_J (N := 57) [(0, .string s)] Tryz.func37 rfl rfl (Nat.le_of_ble_eq_true (by kernel_rfl)) (by kernel_rfl) ?_
 refine J.run 12 K37_0 [(10, .bool (decide ((s.size : Int) > 24))), (0, .string s)] w (by kernel_rfl) ?_
 by_cases fk1 : (s.size : Int) > 24
 ·skip
  refine J.head (.bool true) (congrArg Value.bool (decide_eq_true fk1)) ?_
  refine J.run 6 K37_1 [(3, .int .i64 5), (2, .int .i64 0)] w (by kernel_rfl) ?_
  refine J.ret Tryz.f37 [.int .i64 0, .int .i64 5] Tryz.func37 ⟨by kernel_rfl, by kernel_rfl, trivial⟩ ?_
  refine hR _ _ ?_
  obtain ⟨e1, e2⟩ := par_five (s := s) (by omega)
  exact ⟨by rw [tup_two, e1, e2], S0.nil⟩
 refine J.head (.bool false) (congrArg Value.bool (decide_eq_false fk1)) ?_
 refine J.run 12 K37_2 [(13, .bool (!(s.toList == (⟨#[]⟩ : ByteArray).toList))), (4, .string s), (0, .string s)] w (by kernel_rfl) ?_
 refine J.head (.bool ((s.size : Int) != 0)) (congrArg Value.bool (beq_nil_neq _)) ?_
 refine J.run 1 K37_3 [(14, .bool ((s.size : Int) != 0)), (4, .string s), (0, .string s)] w (by kernel_rfl) ?_
 by_cases fk2 : (s.size : Int) = 0
 ·skip
  refine J.head (.bool false) (congrArg Value.bool (bne_eq_false_iff_eq.2 fk2)) ?_
  refine J.run 5 K37_4 [(18, .bool false), (4, .string s), (0, .string s)] w (by kernel_rfl) ?_
  have X1 : ∀ (d : ByteArray) (w1 : World), (ls d = digL (ls s)) → ((d).size ≤ s.size) → Sep w [] w1 → J Tryz.prog 37 57 R K37_5 [(0, .string s), (4, .string d)] w1 := by
   intro d w1 hd hds S1
   refine J.run 5 K37_6 [(22, .bool (d.toList == (⟨#[]⟩ : ByteArray).toList)), (0, .string s), (4, .string d)] w1 (by kernel_rfl) ?_
   refine J.head (.bool ((d.size : Int) == 0)) (congrArg Value.bool (beq_nil_eql _)) ?_
   refine J.run 1 K37_7 [(23, .bool ((d.size : Int) == 0)), (0, .string s), (4, .string d)] w1 (by kernel_rfl) ?_
   by_cases fk3 : (d.size : Int) = 0
   ·skip
    refine J.head (.bool true) (congrArg Value.bool (beq_iff_eq.2 fk3)) ?_
    refine J.run 16 K37_8 [(3, .int .i64 3), (2, .int .i64 0)] w1 (by kernel_rfl) ?_
    refine J.ret Tryz.f37 [.int .i64 0, .int .i64 3] Tryz.func37 ⟨by kernel_rfl, by kernel_rfl, trivial⟩ ?_
    refine hR _ _ ?_
    obtain ⟨e1, e2⟩ := par_three (s := s) (by omega) (by first | exact form_bad1 hd (by omega) | exact form_bad2 hd (i := i.toNat) (by omega) (by omega))
    exact ⟨by rw [tup_two, e1, e2], S1.nil⟩
   refine J.head (.bool false) (congrArg Value.bool (beq_eq_false_iff_ne.2 fk3)) ?_
   refine J.run 1 K37_9 [(24, .string d), (23, .bool false), (0, .string s), (4, .string d)] w1 (by kernel_rfl) ?_
   have := byteAt_bounds d 0
   refine J.ok (OK.byte 25 9 d (0 : Int) (byteAt d 0) (by kernel_rfl) (by kernel_rfl) (by omega) (by omega) (rfl)) ?_
   refine J.run 2 K37_10 [(27, .bool ((byteAt d 0) == 48)), (23, .bool false), (0, .string s), (4, .string d)] w1 (by kernel_rfl) ?_
   by_cases fk4 : (byteAt d 0) = 48
   rotate_left
   ·skip
    refine J.head (.bool false) (congrArg Value.bool (beq_eq_false_iff_ne.2 fk4)) ?_
    refine J.run 17 K37_25 [(35, .int .i64 0), (34, .int .i64 (d.size : Int)), (0, .string s), (4, .string d)] w1 (by kernel_rfl) ?_
    have L37_2 : ∀ (mm_ : Nat) (i : Int) (w5 : World), (0 ≤ i) → (i ≤ (d.size : Int)) → (∀ j, j < (i).toNat → 48 ≤ byteAt d j ∧ byteAt d j ≤ 57) → Sep w [] w5 → ((d.size : Int) - i).toNat = mm_ → J Tryz.prog 37 57 R K37_25 [(35, .int .i64 i), (34, .int .i64 (d.size : Int)), (0, .string s), (4, .string d)] w5 := by
     intro mm2
     induction mm2 using Nat.strongRecOn with
     | _ mm2 ih2 =>
     intro i w5 h0 h1 hq S5 hm2
     refine J.run 5 K37_26 [(36, .bool (decide (i < (d.size : Int)))), (35, .int .i64 i), (34, .int .i64 (d.size : Int)), (0, .string s), (4, .string d)] w5 (by kernel_rfl) ?_
     by_cases fk10 : i < (d.size : Int)
     rotate_left
     ·skip
      refine J.head (.bool false) (congrArg Value.bool (decide_eq_false fk10)) ?_
      have hqd : ∀ j, j < d.size → 48 ≤ byteAt d j ∧ byteAt d j ≤ 57 := fun j hj => hq j (by omega)
      have hf := form_good hd ⟨by omega, by omega⟩ hqd
      refine J.run 5 K37_34 [(50, .string s)] w5 (by kernel_rfl) ?_
      rcases Bool.eq_false_or_eq_true (fitL (valL (ls s))) with fk13 | fk13
      rotate_left
      ·skip
       refine J.callF 51 52 #[.string s] hb52 (by kernel_rfl) (atoi_big s _ (by omega) hf fk13 (tabW_sep hW S5)) ?_
       rintro _ w7 ⟨en2, rfl, T4⟩
       have S7 : Sep w [] w7 := S5.trans T4
       clear T4 S5
       refine J.run 18 K37_36 [(3, .int .i64 9), (2, .int .i64 0)] w7 (by kernel_rfl) ?_
       refine J.ret Tryz.f37 [.int .i64 0, .int .i64 9] Tryz.func37 ⟨by kernel_rfl, by kernel_rfl, trivial⟩ ?_
       refine hR _ _ ?_
       obtain ⟨e1, e2⟩ := par_nine (s := s) (by omega) hf fk13
       exact ⟨by rw [tup_two, e1, e2], S7.nil⟩
      refine J.callF 51 52 #[.string s] hb52 (by kernel_rfl) (atoi_ok s _ (by omega) hf fk13) ?_
      rintro _ w6 ⟨rfl, T3⟩
      have S6 : Sep w [] w6 := S5.trans T3
      clear T3 S5
      refine J.run 20 K37_35 [(3, .int .i64 0), (2, .int .i64 (valL (ls s)))] w6 (by kernel_rfl) ?_
      refine J.ret Tryz.f37 [.int .i64 (valL (ls s)), .int .i64 0] Tryz.func37 ⟨by kernel_rfl, by kernel_rfl, trivial⟩ ?_
      refine hR _ _ ?_
      obtain ⟨e1, e2⟩ := par_zero (s := s) (by omega) hf fk13
      exact ⟨by rw [tup_two, e1, e2], S6.nil⟩
     refine J.head (.bool true) (congrArg Value.bool (decide_eq_true fk10)) ?_
     refine J.run 13 K37_27 [(39, .int .i64 i), (38, .string d), (5, .int .i64 i), (35, .int .i64 i), (34, .int .i64 (d.size : Int)), (0, .string s), (4, .string d)] w5 (by kernel_rfl) ?_
     have := byteAt_bounds d (i).toNat
     refine J.ok (OK.byte 40 9 d i (byteAt d (i).toNat) (by kernel_rfl) (by kernel_rfl) (by omega) (by omega) (rfl)) ?_
     refine J.run 2 K37_28 [(42, .bool (decide ((byteAt d (i).toNat) < 48))), (5, .int .i64 i), (35, .int .i64 i), (34, .int .i64 (d.size : Int)), (0, .string s), (4, .string d)] w5 (by kernel_rfl) ?_
     by_cases fk11 : (byteAt d (i).toNat) < 48
     ·skip
      refine J.head (.bool true) (congrArg Value.bool (decide_eq_true fk11)) ?_
      refine J.run 12 K37_29 [(3, .int .i64 3), (2, .int .i64 0)] w5 (by kernel_rfl) ?_
      refine J.ret Tryz.f37 [.int .i64 0, .int .i64 3] Tryz.func37 ⟨by kernel_rfl, by kernel_rfl, trivial⟩ ?_
      refine hR _ _ ?_
      obtain ⟨e1, e2⟩ := par_three (s := s) (by omega) (by first | exact form_bad1 hd (by omega) | exact form_bad2 hd (i := i.toNat) (by omega) (by omega))
      exact ⟨by rw [tup_two, e1, e2], S5.nil⟩
     refine J.head (.bool false) (congrArg Value.bool (decide_eq_false fk11)) ?_
     refine J.run 2 K37_30 [(44, .int .i64 i), (43, .string d), (42, .bool false), (35, .int .i64 i), (34, .int .i64 (d.size : Int)), (0, .string s), (4, .string d)] w5 (by kernel_rfl) ?_
     have := byteAt_bounds d (i).toNat
     refine J.ok (OK.byte 45 9 d i (byteAt d (i).toNat) (by kernel_rfl) (by kernel_rfl) (by omega) (by omega) (rfl)) ?_
     refine J.run 3 K37_31 [(47, .bool (decide ((byteAt d (i).toNat) > 57))), (35, .int .i64 i), (34, .int .i64 (d.size : Int)), (0, .string s), (4, .string d)] w5 (by kernel_rfl) ?_
     by_cases fk12 : (byteAt d (i).toNat) > 57
     ·skip
      refine J.head (.bool true) (congrArg Value.bool (decide_eq_true fk12)) ?_
      refine J.run 6 K37_32 [(3, .int .i64 3), (2, .int .i64 0)] w5 (by kernel_rfl) ?_
      refine J.ret Tryz.f37 [.int .i64 0, .int .i64 3] Tryz.func37 ⟨by kernel_rfl, by kernel_rfl, trivial⟩ ?_
      refine hR _ _ ?_
      obtain ⟨e1, e2⟩ := par_three (s := s) (by omega) (by first | exact form_bad1 hd (by omega) | exact form_bad2 hd (i := i.toNat) (by omega) (by omega))
      exact ⟨by rw [tup_two, e1, e2], S5.nil⟩
     refine J.head (.bool false) (congrArg Value.bool (decide_eq_false fk12)) ?_
     refine J.run 5 K37_33 [(48, .int .i64 (IntKind.wrap .i64 (i + 1))), (34, .int .i64 (d.size : Int)), (0, .string s), (4, .string d)] w5 (by kernel_rfl) ?_
     refine J.head (.int .i64 (i + 1)) (congrArg (Value.int .i64) (IntWalk.i64_in _ (by omega))) ?_
     refine J.run 3 K37_25 [(35, .int .i64 (i + 1)), (34, .int .i64 (d.size : Int)), (0, .string s), (4, .string d)] w5 (by kernel_rfl) ?_
     refine J.run 0 K37_25 [(35, .int .i64 (i + 1)), (34, .int .i64 (d.size : Int)), (0, .string s), (4, .string d)] w5 (by kernel_rfl) ?_
     exact ih2 _ (show ((d.size : Int) - (i + 1)).toNat < mm2 from by omega) (i + 1) w5 (by omega) (by omega) (dg_step (q := fun j => 48 ≤ byteAt d j ∧ byteAt d j ≤ 57) h0 hq (by omega)) S5 rfl
    exact L37_2 _ 0 w1 (by omega) (by omega) (by intro j hj; simp at hj) S1 rfl
   refine J.head (.bool true) (congrArg Value.bool (beq_iff_eq.2 fk4)) ?_
   refine J.run 6 K37_11 [(32, .bool (decide ((s.size : Int) > 1))), (0, .string s), (4, .string d)] w1 (by kernel_rfl) ?_
   by_cases fk5 : (s.size : Int) > 1
   ·skip
    refine J.head (.bool true) (congrArg Value.bool (decide_eq_true fk5)) ?_
    refine J.run 6 K37_12 [(3, .int .i64 3), (2, .int .i64 0)] w1 (by kernel_rfl) ?_
    refine J.ret Tryz.f37 [.int .i64 0, .int .i64 3] Tryz.func37 ⟨by kernel_rfl, by kernel_rfl, trivial⟩ ?_
    refine hR _ _ ?_
    obtain ⟨e1, e2⟩ := par_three (s := s) (by omega) (by first | exact form_bad1 hd (by omega) | exact form_bad2 hd (i := i.toNat) (by omega) (by omega))
    exact ⟨by rw [tup_two, e1, e2], S1.nil⟩
   refine J.head (.bool false) (congrArg Value.bool (decide_eq_false fk5)) ?_
   refine J.run 11 K37_13 [(35, .int .i64 0), (34, .int .i64 (d.size : Int)), (0, .string s), (4, .string d)] w1 (by kernel_rfl) ?_
   have L37_1 : ∀ (mm_ : Nat) (i : Int) (w2 : World), (0 ≤ i) → (i ≤ (d.size : Int)) → (∀ j, j < (i).toNat → 48 ≤ byteAt d j ∧ byteAt d j ≤ 57) → Sep w [] w2 → ((d.size : Int) - i).toNat = mm_ → J Tryz.prog 37 57 R K37_13 [(35, .int .i64 i), (34, .int .i64 (d.size : Int)), (0, .string s), (4, .string d)] w2 := by
    intro mm1
    induction mm1 using Nat.strongRecOn with
    | _ mm1 ih1 =>
    intro i w2 h0 h1 hq S2 hm1
    refine J.run 5 K37_14 [(36, .bool (decide (i < (d.size : Int)))), (35, .int .i64 i), (34, .int .i64 (d.size : Int)), (0, .string s), (4, .string d)] w2 (by kernel_rfl) ?_
    by_cases fk6 : i < (d.size : Int)
    rotate_left
    ·skip
     refine J.head (.bool false) (congrArg Value.bool (decide_eq_false fk6)) ?_
     have hqd : ∀ j, j < d.size → 48 ≤ byteAt d j ∧ byteAt d j ≤ 57 := fun j hj => hq j (by omega)
     have hf := form_good hd ⟨by omega, by omega⟩ hqd
     refine J.run 5 K37_22 [(50, .string s)] w2 (by kernel_rfl) ?_
     rcases Bool.eq_false_or_eq_true (fitL (valL (ls s))) with fk9 | fk9
     rotate_left
     ·skip
      refine J.callF 51 52 #[.string s] hb52 (by kernel_rfl) (atoi_big s _ (by omega) hf fk9 (tabW_sep hW S2)) ?_
      rintro _ w4 ⟨en1, rfl, T2⟩
      have S4 : Sep w [] w4 := S2.trans T2
      clear T2 S2
      refine J.run 18 K37_24 [(3, .int .i64 9), (2, .int .i64 0)] w4 (by kernel_rfl) ?_
      refine J.ret Tryz.f37 [.int .i64 0, .int .i64 9] Tryz.func37 ⟨by kernel_rfl, by kernel_rfl, trivial⟩ ?_
      refine hR _ _ ?_
      obtain ⟨e1, e2⟩ := par_nine (s := s) (by omega) hf fk9
      exact ⟨by rw [tup_two, e1, e2], S4.nil⟩
     refine J.callF 51 52 #[.string s] hb52 (by kernel_rfl) (atoi_ok s _ (by omega) hf fk9) ?_
     rintro _ w3 ⟨rfl, T1⟩
     have S3 : Sep w [] w3 := S2.trans T1
     clear T1 S2
     refine J.run 20 K37_23 [(3, .int .i64 0), (2, .int .i64 (valL (ls s)))] w3 (by kernel_rfl) ?_
     refine J.ret Tryz.f37 [.int .i64 (valL (ls s)), .int .i64 0] Tryz.func37 ⟨by kernel_rfl, by kernel_rfl, trivial⟩ ?_
     refine hR _ _ ?_
     obtain ⟨e1, e2⟩ := par_zero (s := s) (by omega) hf fk9
     exact ⟨by rw [tup_two, e1, e2], S3.nil⟩
    refine J.head (.bool true) (congrArg Value.bool (decide_eq_true fk6)) ?_
    refine J.run 13 K37_15 [(39, .int .i64 i), (38, .string d), (5, .int .i64 i), (35, .int .i64 i), (34, .int .i64 (d.size : Int)), (0, .string s), (4, .string d)] w2 (by kernel_rfl) ?_
    have := byteAt_bounds d (i).toNat
    refine J.ok (OK.byte 40 9 d i (byteAt d (i).toNat) (by kernel_rfl) (by kernel_rfl) (by omega) (by omega) (rfl)) ?_
    refine J.run 2 K37_16 [(42, .bool (decide ((byteAt d (i).toNat) < 48))), (5, .int .i64 i), (35, .int .i64 i), (34, .int .i64 (d.size : Int)), (0, .string s), (4, .string d)] w2 (by kernel_rfl) ?_
    by_cases fk7 : (byteAt d (i).toNat) < 48
    ·skip
     refine J.head (.bool true) (congrArg Value.bool (decide_eq_true fk7)) ?_
     refine J.run 12 K37_17 [(3, .int .i64 3), (2, .int .i64 0)] w2 (by kernel_rfl) ?_
     refine J.ret Tryz.f37 [.int .i64 0, .int .i64 3] Tryz.func37 ⟨by kernel_rfl, by kernel_rfl, trivial⟩ ?_
     refine hR _ _ ?_
     obtain ⟨e1, e2⟩ := par_three (s := s) (by omega) (by first | exact form_bad1 hd (by omega) | exact form_bad2 hd (i := i.toNat) (by omega) (by omega))
     exact ⟨by rw [tup_two, e1, e2], S2.nil⟩
    refine J.head (.bool false) (congrArg Value.bool (decide_eq_false fk7)) ?_
    refine J.run 2 K37_18 [(44, .int .i64 i), (43, .string d), (42, .bool false), (35, .int .i64 i), (34, .int .i64 (d.size : Int)), (0, .string s), (4, .string d)] w2 (by kernel_rfl) ?_
    have := byteAt_bounds d (i).toNat
    refine J.ok (OK.byte 45 9 d i (byteAt d (i).toNat) (by kernel_rfl) (by kernel_rfl) (by omega) (by omega) (rfl)) ?_
    refine J.run 3 K37_19 [(47, .bool (decide ((byteAt d (i).toNat) > 57))), (35, .int .i64 i), (34, .int .i64 (d.size : Int)), (0, .string s), (4, .string d)] w2 (by kernel_rfl) ?_
    by_cases fk8 : (byteAt d (i).toNat) > 57
    ·skip
     refine J.head (.bool true) (congrArg Value.bool (decide_eq_true fk8)) ?_
     refine J.run 6 K37_20 [(3, .int .i64 3), (2, .int .i64 0)] w2 (by kernel_rfl) ?_
     refine J.ret Tryz.f37 [.int .i64 0, .int .i64 3] Tryz.func37 ⟨by kernel_rfl, by kernel_rfl, trivial⟩ ?_
     refine hR _ _ ?_
     obtain ⟨e1, e2⟩ := par_three (s := s) (by omega) (by first | exact form_bad1 hd (by omega) | exact form_bad2 hd (i := i.toNat) (by omega) (by omega))
     exact ⟨by rw [tup_two, e1, e2], S2.nil⟩
    refine J.head (.bool false) (congrArg Value.bool (decide_eq_false fk8)) ?_
    refine J.run 5 K37_21 [(48, .int .i64 (IntKind.wrap .i64 (i + 1))), (34, .int .i64 (d.size : Int)), (0, .string s), (4, .string d)] w2 (by kernel_rfl) ?_
    refine J.head (.int .i64 (i + 1)) (congrArg (Value.int .i64) (IntWalk.i64_in _ (by omega))) ?_
    refine J.run 3 K37_13 [(35, .int .i64 (i + 1)), (34, .int .i64 (d.size : Int)), (0, .string s), (4, .string d)] w2 (by kernel_rfl) ?_
    refine J.run 0 K37_13 [(35, .int .i64 (i + 1)), (34, .int .i64 (d.size : Int)), (0, .string s), (4, .string d)] w2 (by kernel_rfl) ?_
    exact ih1 _ (show ((d.size : Int) - (i + 1)).toNat < mm1 from by omega) (i + 1) w2 (by omega) (by omega) (dg_step (q := fun j => 48 ≤ byteAt d j ∧ byteAt d j ≤ 57) h0 hq (by omega)) S2 rfl
   exact L37_1 _ 0 w1 (by omega) (by omega) (by intro j hj; simp at hj) S1 rfl
  refine J.run 2 K37_5 [(0, .string s), (4, .string s)] w (by kernel_rfl) ?_
  exact X1 s w (by first | exact (dig_minus (by omega) (by omega)).1 | exact (dig_plain (by omega)).1) (by first | omega | (rw [size_extract s (Nat.le_refl _)]; omega)) S0
 refine J.head (.bool true) (congrArg Value.bool (bne_iff_ne.2 fk2)) ?_
 refine J.run 1 K37_37 [(15, .string s), (14, .bool true), (4, .string s), (0, .string s)] w (by kernel_rfl) ?_
 have := byteAt_bounds s 0
 refine J.ok (OK.byte 16 9 s (0 : Int) (byteAt s 0) (by kernel_rfl) (by kernel_rfl) (by omega) (by omega) (rfl)) ?_
 refine J.run 3 K37_38 [(18, .bool ((byteAt s 0) == 45)), (4, .string s), (0, .string s)] w (by kernel_rfl) ?_
 have X2 : ∀ (d : ByteArray) (w8 : World), (ls d = digL (ls s)) → ((d).size ≤ s.size) → Sep w [] w8 → J Tryz.prog 37 57 R K37_39 [(0, .string s), (4, .string d)] w8 := by
  intro d w8 hd hds S8
  refine J.run 5 K37_40 [(22, .bool (d.toList == (⟨#[]⟩ : ByteArray).toList)), (0, .string s), (4, .string d)] w8 (by kernel_rfl) ?_
  refine J.head (.bool ((d.size : Int) == 0)) (congrArg Value.bool (beq_nil_eql _)) ?_
  refine J.run 1 K37_41 [(23, .bool ((d.size : Int) == 0)), (0, .string s), (4, .string d)] w8 (by kernel_rfl) ?_
  by_cases fk14 : (d.size : Int) = 0
  ·skip
   refine J.head (.bool true) (congrArg Value.bool (beq_iff_eq.2 fk14)) ?_
   refine J.run 16 K37_42 [(3, .int .i64 3), (2, .int .i64 0)] w8 (by kernel_rfl) ?_
   refine J.ret Tryz.f37 [.int .i64 0, .int .i64 3] Tryz.func37 ⟨by kernel_rfl, by kernel_rfl, trivial⟩ ?_
   refine hR _ _ ?_
   obtain ⟨e1, e2⟩ := par_three (s := s) (by omega) (by first | exact form_bad1 hd (by omega) | exact form_bad2 hd (i := i.toNat) (by omega) (by omega))
   exact ⟨by rw [tup_two, e1, e2], S8.nil⟩
  refine J.head (.bool false) (congrArg Value.bool (beq_eq_false_iff_ne.2 fk14)) ?_
  refine J.run 1 K37_43 [(24, .string d), (23, .bool false), (0, .string s), (4, .string d)] w8 (by kernel_rfl) ?_
  have := byteAt_bounds d 0
  refine J.ok (OK.byte 25 9 d (0 : Int) (byteAt d 0) (by kernel_rfl) (by kernel_rfl) (by omega) (by omega) (rfl)) ?_
  refine J.run 2 K37_44 [(27, .bool ((byteAt d 0) == 48)), (23, .bool false), (0, .string s), (4, .string d)] w8 (by kernel_rfl) ?_
  by_cases fk15 : (byteAt d 0) = 48
  rotate_left
  ·skip
   refine J.head (.bool false) (congrArg Value.bool (beq_eq_false_iff_ne.2 fk15)) ?_
   refine J.run 17 K37_59 [(35, .int .i64 0), (34, .int .i64 (d.size : Int)), (0, .string s), (4, .string d)] w8 (by kernel_rfl) ?_
   have L37_4 : ∀ (mm_ : Nat) (i : Int) (w12 : World), (0 ≤ i) → (i ≤ (d.size : Int)) → (∀ j, j < (i).toNat → 48 ≤ byteAt d j ∧ byteAt d j ≤ 57) → Sep w [] w12 → ((d.size : Int) - i).toNat = mm_ → J Tryz.prog 37 57 R K37_59 [(35, .int .i64 i), (34, .int .i64 (d.size : Int)), (0, .string s), (4, .string d)] w12 := by
    intro mm4
    induction mm4 using Nat.strongRecOn with
    | _ mm4 ih4 =>
    intro i w12 h0 h1 hq S12 hm4
    refine J.run 5 K37_60 [(36, .bool (decide (i < (d.size : Int)))), (35, .int .i64 i), (34, .int .i64 (d.size : Int)), (0, .string s), (4, .string d)] w12 (by kernel_rfl) ?_
    by_cases fk21 : i < (d.size : Int)
    rotate_left
    ·skip
     refine J.head (.bool false) (congrArg Value.bool (decide_eq_false fk21)) ?_
     have hqd : ∀ j, j < d.size → 48 ≤ byteAt d j ∧ byteAt d j ≤ 57 := fun j hj => hq j (by omega)
     have hf := form_good hd ⟨by omega, by omega⟩ hqd
     refine J.run 5 K37_68 [(50, .string s)] w12 (by kernel_rfl) ?_
     rcases Bool.eq_false_or_eq_true (fitL (valL (ls s))) with fk24 | fk24
     ·skip
      refine J.callF 51 52 #[.string s] hb52 (by kernel_rfl) (atoi_ok s _ (by omega) hf fk24) ?_
      rintro _ w13 ⟨rfl, T7⟩
      have S13 : Sep w [] w13 := S12.trans T7
      clear T7 S12
      refine J.run 20 K37_69 [(3, .int .i64 0), (2, .int .i64 (valL (ls s)))] w13 (by kernel_rfl) ?_
      refine J.ret Tryz.f37 [.int .i64 (valL (ls s)), .int .i64 0] Tryz.func37 ⟨by kernel_rfl, by kernel_rfl, trivial⟩ ?_
      refine hR _ _ ?_
      obtain ⟨e1, e2⟩ := par_zero (s := s) (by omega) hf fk24
      exact ⟨by rw [tup_two, e1, e2], S13.nil⟩
     refine J.callF 51 52 #[.string s] hb52 (by kernel_rfl) (atoi_big s _ (by omega) hf fk24 (tabW_sep hW S12)) ?_
     rintro _ w14 ⟨en4, rfl, T8⟩
     have S14 : Sep w [] w14 := S12.trans T8
     clear T8 S12
     refine J.run 18 K37_70 [(3, .int .i64 9), (2, .int .i64 0)] w14 (by kernel_rfl) ?_
     refine J.ret Tryz.f37 [.int .i64 0, .int .i64 9] Tryz.func37 ⟨by kernel_rfl, by kernel_rfl, trivial⟩ ?_
     refine hR _ _ ?_
     obtain ⟨e1, e2⟩ := par_nine (s := s) (by omega) hf fk24
     exact ⟨by rw [tup_two, e1, e2], S14.nil⟩
    refine J.head (.bool true) (congrArg Value.bool (decide_eq_true fk21)) ?_
    refine J.run 13 K37_61 [(39, .int .i64 i), (38, .string d), (5, .int .i64 i), (35, .int .i64 i), (34, .int .i64 (d.size : Int)), (0, .string s), (4, .string d)] w12 (by kernel_rfl) ?_
    have := byteAt_bounds d (i).toNat
    refine J.ok (OK.byte 40 9 d i (byteAt d (i).toNat) (by kernel_rfl) (by kernel_rfl) (by omega) (by omega) (rfl)) ?_
    refine J.run 2 K37_62 [(42, .bool (decide ((byteAt d (i).toNat) < 48))), (5, .int .i64 i), (35, .int .i64 i), (34, .int .i64 (d.size : Int)), (0, .string s), (4, .string d)] w12 (by kernel_rfl) ?_
    by_cases fk22 : (byteAt d (i).toNat) < 48
    ·skip
     refine J.head (.bool true) (congrArg Value.bool (decide_eq_true fk22)) ?_
     refine J.run 12 K37_63 [(3, .int .i64 3), (2, .int .i64 0)] w12 (by kernel_rfl) ?_
     refine J.ret Tryz.f37 [.int .i64 0, .int .i64 3] Tryz.func37 ⟨by kernel_rfl, by kernel_rfl, trivial⟩ ?_
     refine hR _ _ ?_
     obtain ⟨e1, e2⟩ := par_three (s := s) (by omega) (by first | exact form_bad1 hd (by omega) | exact form_bad2 hd (i := i.toNat) (by omega) (by omega))
     exact ⟨by rw [tup_two, e1, e2], S12.nil⟩
    refine J.head (.bool false) (congrArg Value.bool (decide_eq_false fk22)) ?_
    refine J.run 2 K37_64 [(44, .int .i64 i), (43, .string d), (42, .bool false), (35, .int .i64 i), (34, .int .i64 (d.size : Int)), (0, .string s), (4, .string d)] w12 (by kernel_rfl) ?_
    have := byteAt_bounds d (i).toNat
    refine J.ok (OK.byte 45 9 d i (byteAt d (i).toNat) (by kernel_rfl) (by kernel_rfl) (by omega) (by omega) (rfl)) ?_
    refine J.run 3 K37_65 [(47, .bool (decide ((byteAt d (i).toNat) > 57))), (35, .int .i64 i), (34, .int .i64 (d.size : Int)), (0, .string s), (4, .string d)] w12 (by kernel_rfl) ?_
    by_cases fk23 : (byteAt d (i).toNat) > 57
    ·skip
     refine J.head (.bool true) (congrArg Value.bool (decide_eq_true fk23)) ?_
     refine J.run 6 K37_66 [(3, .int .i64 3), (2, .int .i64 0)] w12 (by kernel_rfl) ?_
     refine J.ret Tryz.f37 [.int .i64 0, .int .i64 3] Tryz.func37 ⟨by kernel_rfl, by kernel_rfl, trivial⟩ ?_
     refine hR _ _ ?_
     obtain ⟨e1, e2⟩ := par_three (s := s) (by omega) (by first | exact form_bad1 hd (by omega) | exact form_bad2 hd (i := i.toNat) (by omega) (by omega))
     exact ⟨by rw [tup_two, e1, e2], S12.nil⟩
    refine J.head (.bool false) (congrArg Value.bool (decide_eq_false fk23)) ?_
    refine J.run 5 K37_67 [(48, .int .i64 (IntKind.wrap .i64 (i + 1))), (34, .int .i64 (d.size : Int)), (0, .string s), (4, .string d)] w12 (by kernel_rfl) ?_
    refine J.head (.int .i64 (i + 1)) (congrArg (Value.int .i64) (IntWalk.i64_in _ (by omega))) ?_
    refine J.run 3 K37_59 [(35, .int .i64 (i + 1)), (34, .int .i64 (d.size : Int)), (0, .string s), (4, .string d)] w12 (by kernel_rfl) ?_
    refine J.run 0 K37_59 [(35, .int .i64 (i + 1)), (34, .int .i64 (d.size : Int)), (0, .string s), (4, .string d)] w12 (by kernel_rfl) ?_
    exact ih4 _ (show ((d.size : Int) - (i + 1)).toNat < mm4 from by omega) (i + 1) w12 (by omega) (by omega) (dg_step (q := fun j => 48 ≤ byteAt d j ∧ byteAt d j ≤ 57) h0 hq (by omega)) S12 rfl
   exact L37_4 _ 0 w8 (by omega) (by omega) (by intro j hj; simp at hj) S8 rfl
  refine J.head (.bool true) (congrArg Value.bool (beq_iff_eq.2 fk15)) ?_
  refine J.run 6 K37_45 [(32, .bool (decide ((s.size : Int) > 1))), (0, .string s), (4, .string d)] w8 (by kernel_rfl) ?_
  by_cases fk16 : (s.size : Int) > 1
  ·skip
   refine J.head (.bool true) (congrArg Value.bool (decide_eq_true fk16)) ?_
   refine J.run 6 K37_46 [(3, .int .i64 3), (2, .int .i64 0)] w8 (by kernel_rfl) ?_
   refine J.ret Tryz.f37 [.int .i64 0, .int .i64 3] Tryz.func37 ⟨by kernel_rfl, by kernel_rfl, trivial⟩ ?_
   refine hR _ _ ?_
   obtain ⟨e1, e2⟩ := par_three (s := s) (by omega) (by first | exact form_bad1 hd (by omega) | exact form_bad2 hd (i := i.toNat) (by omega) (by omega))
   exact ⟨by rw [tup_two, e1, e2], S8.nil⟩
  refine J.head (.bool false) (congrArg Value.bool (decide_eq_false fk16)) ?_
  refine J.run 11 K37_47 [(35, .int .i64 0), (34, .int .i64 (d.size : Int)), (0, .string s), (4, .string d)] w8 (by kernel_rfl) ?_
  have L37_3 : ∀ (mm_ : Nat) (i : Int) (w9 : World), (0 ≤ i) → (i ≤ (d.size : Int)) → (∀ j, j < (i).toNat → 48 ≤ byteAt d j ∧ byteAt d j ≤ 57) → Sep w [] w9 → ((d.size : Int) - i).toNat = mm_ → J Tryz.prog 37 57 R K37_47 [(35, .int .i64 i), (34, .int .i64 (d.size : Int)), (0, .string s), (4, .string d)] w9 := by
   intro mm3
   induction mm3 using Nat.strongRecOn with
   | _ mm3 ih3 =>
   intro i w9 h0 h1 hq S9 hm3
   refine J.run 5 K37_48 [(36, .bool (decide (i < (d.size : Int)))), (35, .int .i64 i), (34, .int .i64 (d.size : Int)), (0, .string s), (4, .string d)] w9 (by kernel_rfl) ?_
   by_cases fk17 : i < (d.size : Int)
   rotate_left
   ·skip
    refine J.head (.bool false) (congrArg Value.bool (decide_eq_false fk17)) ?_
    have hqd : ∀ j, j < d.size → 48 ≤ byteAt d j ∧ byteAt d j ≤ 57 := fun j hj => hq j (by omega)
    have hf := form_good hd ⟨by omega, by omega⟩ hqd
    refine J.run 5 K37_56 [(50, .string s)] w9 (by kernel_rfl) ?_
    rcases Bool.eq_false_or_eq_true (fitL (valL (ls s))) with fk20 | fk20
    rotate_left
    ·skip
     refine J.callF 51 52 #[.string s] hb52 (by kernel_rfl) (atoi_big s _ (by omega) hf fk20 (tabW_sep hW S9)) ?_
     rintro _ w11 ⟨en3, rfl, T6⟩
     have S11 : Sep w [] w11 := S9.trans T6
     clear T6 S9
     refine J.run 18 K37_58 [(3, .int .i64 9), (2, .int .i64 0)] w11 (by kernel_rfl) ?_
     refine J.ret Tryz.f37 [.int .i64 0, .int .i64 9] Tryz.func37 ⟨by kernel_rfl, by kernel_rfl, trivial⟩ ?_
     refine hR _ _ ?_
     obtain ⟨e1, e2⟩ := par_nine (s := s) (by omega) hf fk20
     exact ⟨by rw [tup_two, e1, e2], S11.nil⟩
    refine J.callF 51 52 #[.string s] hb52 (by kernel_rfl) (atoi_ok s _ (by omega) hf fk20) ?_
    rintro _ w10 ⟨rfl, T5⟩
    have S10 : Sep w [] w10 := S9.trans T5
    clear T5 S9
    refine J.run 20 K37_57 [(3, .int .i64 0), (2, .int .i64 (valL (ls s)))] w10 (by kernel_rfl) ?_
    refine J.ret Tryz.f37 [.int .i64 (valL (ls s)), .int .i64 0] Tryz.func37 ⟨by kernel_rfl, by kernel_rfl, trivial⟩ ?_
    refine hR _ _ ?_
    obtain ⟨e1, e2⟩ := par_zero (s := s) (by omega) hf fk20
    exact ⟨by rw [tup_two, e1, e2], S10.nil⟩
   refine J.head (.bool true) (congrArg Value.bool (decide_eq_true fk17)) ?_
   refine J.run 13 K37_49 [(39, .int .i64 i), (38, .string d), (5, .int .i64 i), (35, .int .i64 i), (34, .int .i64 (d.size : Int)), (0, .string s), (4, .string d)] w9 (by kernel_rfl) ?_
   have := byteAt_bounds d (i).toNat
   refine J.ok (OK.byte 40 9 d i (byteAt d (i).toNat) (by kernel_rfl) (by kernel_rfl) (by omega) (by omega) (rfl)) ?_
   refine J.run 2 K37_50 [(42, .bool (decide ((byteAt d (i).toNat) < 48))), (5, .int .i64 i), (35, .int .i64 i), (34, .int .i64 (d.size : Int)), (0, .string s), (4, .string d)] w9 (by kernel_rfl) ?_
   by_cases fk18 : (byteAt d (i).toNat) < 48
   ·skip
    refine J.head (.bool true) (congrArg Value.bool (decide_eq_true fk18)) ?_
    refine J.run 12 K37_51 [(3, .int .i64 3), (2, .int .i64 0)] w9 (by kernel_rfl) ?_
    refine J.ret Tryz.f37 [.int .i64 0, .int .i64 3] Tryz.func37 ⟨by kernel_rfl, by kernel_rfl, trivial⟩ ?_
    refine hR _ _ ?_
    obtain ⟨e1, e2⟩ := par_three (s := s) (by omega) (by first | exact form_bad1 hd (by omega) | exact form_bad2 hd (i := i.toNat) (by omega) (by omega))
    exact ⟨by rw [tup_two, e1, e2], S9.nil⟩
   refine J.head (.bool false) (congrArg Value.bool (decide_eq_false fk18)) ?_
   refine J.run 2 K37_52 [(44, .int .i64 i), (43, .string d), (42, .bool false), (35, .int .i64 i), (34, .int .i64 (d.size : Int)), (0, .string s), (4, .string d)] w9 (by kernel_rfl) ?_
   have := byteAt_bounds d (i).toNat
   refine J.ok (OK.byte 45 9 d i (byteAt d (i).toNat) (by kernel_rfl) (by kernel_rfl) (by omega) (by omega) (rfl)) ?_
   refine J.run 3 K37_53 [(47, .bool (decide ((byteAt d (i).toNat) > 57))), (35, .int .i64 i), (34, .int .i64 (d.size : Int)), (0, .string s), (4, .string d)] w9 (by kernel_rfl) ?_
   by_cases fk19 : (byteAt d (i).toNat) > 57
   ·skip
    refine J.head (.bool true) (congrArg Value.bool (decide_eq_true fk19)) ?_
    refine J.run 6 K37_54 [(3, .int .i64 3), (2, .int .i64 0)] w9 (by kernel_rfl) ?_
    refine J.ret Tryz.f37 [.int .i64 0, .int .i64 3] Tryz.func37 ⟨by kernel_rfl, by kernel_rfl, trivial⟩ ?_
    refine hR _ _ ?_
    obtain ⟨e1, e2⟩ := par_three (s := s) (by omega) (by first | exact form_bad1 hd (by omega) | exact form_bad2 hd (i := i.toNat) (by omega) (by omega))
    exact ⟨by rw [tup_two, e1, e2], S9.nil⟩
   refine J.head (.bool false) (congrArg Value.bool (decide_eq_false fk19)) ?_
   refine J.run 5 K37_55 [(48, .int .i64 (IntKind.wrap .i64 (i + 1))), (34, .int .i64 (d.size : Int)), (0, .string s), (4, .string d)] w9 (by kernel_rfl) ?_
   refine J.head (.int .i64 (i + 1)) (congrArg (Value.int .i64) (IntWalk.i64_in _ (by omega))) ?_
   refine J.run 3 K37_47 [(35, .int .i64 (i + 1)), (34, .int .i64 (d.size : Int)), (0, .string s), (4, .string d)] w9 (by kernel_rfl) ?_
   refine J.run 0 K37_47 [(35, .int .i64 (i + 1)), (34, .int .i64 (d.size : Int)), (0, .string s), (4, .string d)] w9 (by kernel_rfl) ?_
   exact ih3 _ (show ((d.size : Int) - (i + 1)).toNat < mm3 from by omega) (i + 1) w9 (by omega) (by omega) (dg_step (q := fun j => 48 ≤ byteAt d j ∧ byteAt d j ≤ 57) h0 hq (by omega)) S9 rfl
  exact L37_3 _ 0 w8 (by omega) (by omega) (by intro j hj; simp at hj) S8 rfl
 by_cases fk25 : (byteAt s 0) = 45
 rotate_left
 ·skip
  refine J.head (.bool false) (congrArg Value.bool (beq_eq_false_iff_ne.2 fk25)) ?_
  refine J.run 2 K37_39 [(0, .string s), (4, .string s)] w (by kernel_rfl) ?_
  exact X2 s w (by first | exact (dig_minus (by omega) (by omega)).1 | exact (dig_plain (by omega)).1) (by first | omega | (rw [size_extract s (Nat.le_refl _)]; omega)) S0
 refine J.head (.bool true) (congrArg Value.bool (beq_iff_eq.2 fk25)) ?_
 refine J.run 3 K37_71 [(19, .string s), (0, .string s)] w (by kernel_rfl) ?_
 refine J.ok (OK.sliceT 20 9 s (some (.int .i64 1)) none 1 s.size (by kernel_rfl) (by kernel_rfl) (.inr ⟨_, _, rfl, rfl⟩) (.inl ⟨rfl, rfl⟩) (by first | omega | (simp; omega)) (by first | omega | (simp; omega))) ?_
 have := size_extract s (i := 1) (j := s.size) (by first | omega | (simp; omega))
 refine J.run 2 K37_39 [(0, .string s), (4, .string (s.extract 1 s.size))] w (by kernel_rfl) ?_
 exact X2 (s.extract 1 s.size) w (by first | exact (dig_minus (by omega) (by omega)).1 | exact (dig_plain (by omega)).1) (by first | omega | (rw [size_extract s (Nat.le_refl _)]; omega)) S0

end
end Go.Proofs.YtadgnficogeheaaGreatDoor

