/- Walks of functions of this seat, printed by a program over the engine. Conditions: as each theorem says. -/
import Derived.Test.YtlklealllohmgaaDoorX10
namespace Go.Proofs.YtlklealllohmgaaDoor
open Go.Eng Go.RowKit
set_option linter.unusedSimpArgs false
set_option linter.unusedVariables false
theorem run_full {p : Int → Bool} : ∀ (r : List UInt8), (∀ c ∈ r, p (b2 c) = true) → runL p r = r.length
  | [], _ => rfl
  | c :: r, h => by
    unfold runL; rw [if_pos (h c (by simp)), run_full r (fun x hx => h x (by simp [hx]))]; rfl
theorem form_can {l : List UInt8} (hf : formL l = true) : canL l = true := by
  obtain ⟨f1, f2, f3⟩ := canonL_facts (form_canon hf)
  have he : (digL l).isEmpty = false := by cases hd : digL l with | nil => exact absurd hd f1 | cons _ _ => rfl
  unfold canL; rw [he, Bool.not_false, Bool.true_and, Bool.or_eq_true]
  by_cases h48 : (digL l).head? = some 48
  · right
    rw [decide_eq_true (f3 h48), Bool.true_and]
    cases hn : negL l with
    | false => rfl
    | true =>
      exfalso
      have h1 := congrArg List.length (digL_neg hn)
      have h2 := f3 h48
      simp only [List.length_cons] at h1
      unfold formL at hf
      rw [h48, show decide (1 < l.length) = true from decide_eq_true (by omega)] at hf
      simp at hf
  · left; simpa using h48
theorem num_tok {n : Int} (hn : -9223372036854775808 ≤ n ∧ n ≤ 9223372036854775807) : ∃ c r, ls (itoaB n) = c :: r ∧ b2 c ≠ 10 ∧ b2 c ≠ 35 ∧
    tokAt (c :: r) = if 1099511627776 < n ∨ n < -1099511627776 then (0, 0, 9) else (2, (c :: r).length, 0) := by
  have hp := text_par hn
  obtain ⟨hs, hf, _, _⟩ := par_facts hp.1
  obtain ⟨f1, f2, f3⟩ := canonL_facts (form_canon hf)
  have hcan := form_can hf
  have key : ∀ c r, ls (itoaB n) = c :: r → (∀ x ∈ r, digB (b2 x) = true) → numB (c :: r) = true → ¬ (b2 c = 32 ∨ b2 c = 9) → letB (b2 c) = false → b2 c ≠ 10 → b2 c ≠ 35 →
      ∃ c r, ls (itoaB n) = c :: r ∧ b2 c ≠ 10 ∧ b2 c ≠ 35 ∧ tokAt (c :: r) = if 1099511627776 < n ∨ n < -1099511627776 then (0, 0, 9) else (2, (c :: r).length, 0) := by
    intro c r hl hr hb h1 h2 h3 h4
    refine ⟨c, r, hl, h3, h4, ?_⟩
    have hlen : (c :: r).length = 1 + runL digB r := by rw [run_full r hr, List.length_cons]; omega
    rw [tok_num h1 h2 hb, ← hlen, List.drop_length, List.take_length, ← hl, hcan]
    have hg : greatL (ls (itoaB n)) = (decide (1099511627776 < n) || decide (n < -1099511627776)) := by
      show greatB (⟨(ls (itoaB n)).toArray⟩ : ByteArray) = _
      rw [show (⟨(ls (itoaB n)).toArray⟩ : ByteArray) = itoaB n from ls_inj (ls_mk _)]
      unfold greatB; rw [hp.1, hp.2]; rfl
    rw [hg]
    rw [if_neg (show ¬ (nextB [] || !true) = true from by decide)]
    by_cases hh : 1099511627776 < n ∨ n < -1099511627776
    · rw [if_pos (by simpa using hh), if_pos hh]
    · rw [if_neg (by simpa using hh), if_neg hh]
  have hdg : ∀ x ∈ digL (ls (itoaB n)), digB (b2 x) = true := fun x hx => by rw [← isDig_b2]; exact f2 x hx
  cases hng : negL (ls (itoaB n)) with
  | true =>
    have hl := digL_neg hng
    refine key 45 _ hl hdg ?_ (by decide) (by decide) (by decide) (by decide)
    cases hd : digL (ls (itoaB n)) with
    | nil => exact absurd hd f1
    | cons d t =>
      have := hdg d (by rw [hd]; simp)
      show (digB (b2 45) || (b2 45 == 45 && digB (b2 d))) = true
      rw [this]; rfl
  | false =>
    have hl := digL_pos hng
    rw [hl] at hdg f1
    cases hd : ls (itoaB n) with
    | nil => exact absurd hd f1
    | cons c r =>
      rw [hd] at hdg
      have hc := hdg c (by simp)
      have hc2 := digB_iff.1 hc
      rw [← hd]
      exact key c r hd (fun x hx => hdg x (by simp [hx])) (by show (digB (b2 c) || _) = true; rw [hc]; rfl) (by omega) (by
        cases h : letB (b2 c) with
        | false => rfl
        | true => rw [letB_iff] at h; omega) (by omega) (by omega)
theorem num_great {n : Int} (hn : -9223372036854775808 ≤ n ∧ n ≤ 9223372036854775807) (h : 1099511627776 < n ∨ n < -1099511627776) : tkF (itoaB n) = ⟨[], 1, 1, 9⟩ := by
  obtain ⟨hs, _⟩ := par_facts (text_par hn).1
  obtain ⟨c, r, hl, h10, h35, ht⟩ := num_tok hn
  rw [if_pos h] at ht
  unfold tkF
  rw [if_neg (by omega), hl, gT_err r 1 1 false [] h10 h35 (by rw [ht]; decide), ht]
theorem num_fine {n : Int} (h : ¬ (1099511627776 < n ∨ n < -1099511627776)) : tkF (itoaB n) = ⟨[⟨2, itoaB n, 1, 1⟩, ⟨4, ByteArray.empty, 1, 1 + ((itoaB n).size : Int)⟩], 0, 0, 0⟩ := by
  have hn : -9223372036854775808 ≤ n ∧ n ≤ 9223372036854775807 := by omega
  obtain ⟨hs, _⟩ := par_facts (text_par hn).1
  obtain ⟨c, r, hl, h10, h35, ht⟩ := num_tok hn
  rw [if_neg h] at ht
  unfold tkF
  rw [if_neg (by omega), hl, gT_tok r 1 1 false [] h10 h35 (by rw [ht]), ht]
  show gT ((c :: r).drop (c :: r).length) 1 (1 + ((c :: r).length : Nat)) (false || decide ((0 : Int) < 2)) false (addT (2, (c :: r).length, 0) (c :: r) 1 1 []) = _
  have e1 : addT (2, (c :: r).length, 0) (c :: r) 1 1 [] = [⟨2, itoaB n, 1, 1⟩] := by
    unfold addT
    rw [if_pos (show (0 : Int) < 2 by decide), List.nil_append]
    show [(⟨2, ⟨((c :: r).take (c :: r).length).toArray⟩, 1, 1⟩ : Tk)] = _
    rw [List.take_length, ← hl, show (⟨(ls (itoaB n)).toArray⟩ : ByteArray) = itoaB n from ls_inj (ls_mk _)]
  rw [e1, List.drop_length, gT_nil, ← hl, ls_length]
  rfl

def numL (n : Int) : List Tk := [⟨2, itoaB n, 1, 1⟩, ⟨4, ByteArray.empty, 1, 1 + ((itoaB n).size : Int)⟩]
theorem itoa_size {n : Int} (hn : -9223372036854775808 ≤ n ∧ n ≤ 9223372036854775807) : (itoaB n).size ≤ 9223372036854775807 := by
  obtain ⟨hs, _⟩ := par_facts (text_par hn).1; omega
theorem tokens_great (n : Int) (w : World) (hn : -9223372036854775808 ≤ n ∧ n ≤ 9223372036854775807) (h : 1099511627776 < n ∨ n < -1099511627776) (hW : TabW w) : Ret Tryd.prog 10 #[.string (itoaB n)] w (fun v w' => ∃ a cap, v = .tuple #[.slice a ([] : List Tk).length cap, .agg #[.int .i64 1, .int .i64 1], .int .i64 9] ∧ Sep w [rowOf tkE a cap 36 4 ([] : List Tk)] w') := by
  have h1 := tokens_any (itoaB n) w (itoa_size hn) hW
  rw [num_great hn h] at h1
  exact h1
theorem tokens_num (n : Int) (w : World) (h : ¬ (1099511627776 < n ∨ n < -1099511627776)) (hW : TabW w) : Ret Tryd.prog 10 #[.string (itoaB n)] w (fun v w' => ∃ a cap, v = .tuple #[.slice a (numL n).length cap, .agg #[.int .i64 0, .int .i64 0], .int .i64 0] ∧ Sep w [rowOf tkE a cap 36 4 (numL n)] w') := by
  have h1 := tokens_any (itoaB n) w (itoa_size (by omega)) hW
  rw [num_fine h] at h1
  exact h1
theorem num_number {n : Int} (h : ¬ (1099511627776 < n ∨ n < -1099511627776)) : numX (itoaB n) = n ∧ numR (itoaB n) = 0 := by
  have hp := text_par (n := n) (by omega)
  unfold numX numR
  rw [hp.1, hp.2, if_pos ⟨rfl, by omega⟩, if_pos rfl, if_pos (by omega)]
  exact ⟨rfl, rfl⟩
def kindsOk (j : Nat) : Bool := kO (kindsL.getD j ByteArray.empty) && (resB (kindsL.getD j ByteArray.empty) && (!nameB (kindsL.getD j ByteArray.empty) && !(kindsL.take j).any (eqT (kindsL.getD j ByteArray.empty))))
theorem kinds_all : (List.range 21).all kindsOk = true := by kernel_rfl
theorem kinds_ok {j : Nat} (hj : j < 21) : kO (kindsL.getD j ByteArray.empty) = true ∧ resB (kindsL.getD j ByteArray.empty) = true ∧ nameB (kindsL.getD j ByteArray.empty) = false ∧ (kindsL.take j).any (eqT (kindsL.getD j ByteArray.empty)) = false := by
  have h := List.all_eq_true.1 kinds_all j (List.mem_range.2 hj)
  simpa [kindsOk] using h
theorem kinds_size {j : Nat} (hj : j < 21) : (kindsL.getD j ByteArray.empty).size ≤ 24 := by
  have h := List.all_eq_true.1 (show ((List.range 21).all fun j => decide ((kindsL.getD j ByteArray.empty).size ≤ 24)) = true by kernel_rfl) j (List.mem_range.2 hj)
  exact of_decide_eq_true h
theorem name_res {s : ByteArray} (h : nameB s = true) : resB s = false := by
  unfold nameB at h; simp only [Bool.and_eq_true] at h; simpa using h.2
theorem hb5 : HasBody Tryd.prog 5 := fun _ _ => by kernel_rfl
noncomputable def K5_0 : List Item := adv 7 [] (bodyOf Tryd.f5)
noncomputable def K5_1 : List Item := adv 10 [false] (popK K5_0)
noncomputable def K5_2 : List Item := adv 8 [true] K5_1
noncomputable def K5_3 : List Item := adv 4 [] (popK (popK K5_2))
noncomputable def K5_4 : List Item := adv 1 [] (popK K5_3)
noncomputable def K5_5 : List Item := adv 7 [] (popK K5_4)
noncomputable def K5_6 : List Item := adv 1 [] (popK K5_5)
noncomputable def K5_7 : List Item := adv 3 [] (popK K5_6)
noncomputable def K5_8 : List Item := adv 4 [] K5_1
noncomputable def K5_9 : List Item := adv 4 [true] K5_8
noncomputable def K5_10 : List Item := adv 4 [] (popK (popK K5_9))
noncomputable def K5_11 : List Item := adv 1 [] (popK K5_10)
noncomputable def K5_12 : List Item := adv 7 [] (popK K5_11)
noncomputable def K5_13 : List Item := adv 1 [] (popK K5_12)
noncomputable def K5_14 : List Item := adv 3 [] (popK K5_13)
noncomputable def K5_15 : List Item := adv 5 [false] K5_8
noncomputable def K5_16 : List Item := adv 5 [] (popK K5_15)
noncomputable def K5_17 : List Item := adv 4 [] (popK K5_16)
noncomputable def K5_18 : List Item := adv 1 [] (popK K5_17)
noncomputable def K5_19 : List Item := adv 5 [] (popK K5_18)
noncomputable def K5_20 : List Item := adv 16 [] (popK K5_19)
noncomputable def K5_21 : List Item := adv 1 [] K5_20
noncomputable def K5_22 : List Item := adv 3 [] (popK (popK K5_21))
noncomputable def K5_23 : List Item := adv 2 [] (popK K5_22)
noncomputable def K5_24 : List Item := adv 4 [] K5_23
noncomputable def K5_25 : List Item := adv 6 [] K5_24
set_option maxRecDepth 20000 in
set_option maxHeartbeats 20000000 in
theorem lawnumbers_any (n : Int) (w : World) (hn : -9223372036854775808 ≤ n ∧ n ≤ 9223372036854775807) (hW : TabW w) : Ret Tryd.prog 5 #[.int .i64 n] w (fun v w' => v = .bool true ∧ Sep w [] w') := by
  have S0 := Sep.refl w
  refine Ret.named fun R hR => ?_
  refine Ret.of_J (N := 72) [(0, .int .i64 n)] Tryd.func5 rfl rfl (Nat.le_of_ble_eq_true (by kernel_rfl)) (by kernel_rfl) ?_
  have hnl : (numL n).length = 2 := rfl
  refine J.run 7 K5_0 [(0, .int .i64 n)] w (by kernel_rfl) ?_
  refine J.callF 12 9 #[] hb9 (by kernel_rfl) (awake_any  _ (tabW_sep hW S0)) ?_
  rintro _ w1 ⟨rfl, T1⟩
  have S1 : Sep w [] w1 := S0.trans T1
  clear T1
  refine J.run 10 K5_1 [(16, .bool (decide (n < (-1099511627776)))), (0, .int .i64 n)] w1 (by kernel_rfl) ?_
  by_cases fk1 : n < (-1099511627776)
  · skip
    refine J.head (.bool true) (congrArg Value.bool (decide_eq_true fk1)) ?_
    refine J.run 8 K5_2 [(21, .int .i64 n)] w1 (by kernel_rfl) ?_
    refine J.callF 22 15 #[.int .i64 n] hb15 (by kernel_rfl) (atext_any n _ (by omega) (tabW_sep hW S1)) ?_
    rintro _ w2 ⟨rfl, T2⟩
    have S2 : Sep w [] w2 := S1.trans T2
    clear T2 S1
    have := itoaB_size (n := n) (by omega)
    refine J.callF 23 10 #[.string (itoaB n)] hb10 (by kernel_rfl) (tokens_great n _ hn (by omega) (tabW_sep hW S2)) ?_
    rintro _ w3 ⟨ra1, rc1, rfl, T3⟩
    have S3 : Sep w [rowOf tkE ra1 rc1 36 4 ([] : List Tk)] w3 := S2.trans T3
    clear T3 S2
    refine J.run 4 K5_3 [(26, .int .i64 9), (25, .agg #[.int .i64 1, .int .i64 1]), (24, .slice ra1 (([] : List Tk).length) rc1)] w3 (by kernel_rfl) ?_
    refine J.new S3 4 [.int .i64 0, .int .i64 0] 25 (by kernel_rfl) ?_
    intro b1 w4 S4
    refine J.run 1 K5_4 [(4, .pointer (some ⟨b1, 0, none⟩)), (26, .int .i64 9), (25, .agg #[.int .i64 1, .int .i64 1])] w4 (by kernel_rfl) ?_
    refine J.stBox S4 0 25 0 (.agg #[.int .i64 1, .int .i64 1]) [.int .i64 1, .int .i64 1] [box b1 [.int .i64 1, .int .i64 1] 25, rowOf tkE ra1 rc1 36 4 ([] : List Tk)] (by kernel_rfl) rfl (by kernel_rfl) (by kernel_rfl) rfl ?_
    intro w5 S5
    refine J.run 7 K5_5 [(29, .bool true), (4, .pointer (some ⟨b1, 0, none⟩))] w5 (by kernel_rfl) ?_
    refine J.ok (OK.ldBox S5 0 30 25 0 (.agg #[.int .i64 1, .int .i64 1]) (by kernel_rfl) rfl (by kernel_rfl)) ?_
    refine J.run 1 K5_6 [(31, .agg #[.int .i64 1, .int .i64 1]), (30, .agg #[.int .i64 1, .int .i64 1]), (29, .bool true)] w5 (by kernel_rfl) ?_
    refine J.ok (OK.eqS 32 true 25 #[.int .i64 1, .int .i64 1] #[.int .i64 1, .int .i64 1] (((1 : Int) == 1) && (((1 : Int) == 1) && true)) (by kernel_rfl) (by kernel_rfl) (by kernel_rfl) true (by simp)) ?_
    refine J.run 3 K5_7 [(2, .bool true)] w5 (by kernel_rfl) ?_
    refine J.ret Tryd.f5 [.bool true] Tryd.func5 ⟨by kernel_rfl, trivial⟩ ?_
    refine hR _ _ ?_
    exact ⟨rfl, S5.nil⟩
  · skip
    refine J.head (.bool false) (congrArg Value.bool (decide_eq_false fk1)) ?_
    refine J.run 4 K5_8 [(19, .bool (decide (n > 1099511627776))), (0, .int .i64 n)] w1 (by kernel_rfl) ?_
    by_cases fk2 : n > 1099511627776
    · skip
      refine J.head (.bool true) (congrArg Value.bool (decide_eq_true fk2)) ?_
      refine J.run 4 K5_9 [(21, .int .i64 n)] w1 (by kernel_rfl) ?_
      refine J.callF 22 15 #[.int .i64 n] hb15 (by kernel_rfl) (atext_any n _ (by omega) (tabW_sep hW S1)) ?_
      rintro _ w6 ⟨rfl, T4⟩
      have S6 : Sep w [] w6 := S1.trans T4
      clear T4 S1
      have := itoaB_size (n := n) (by omega)
      refine J.callF 23 10 #[.string (itoaB n)] hb10 (by kernel_rfl) (tokens_great n _ hn (by omega) (tabW_sep hW S6)) ?_
      rintro _ w7 ⟨ra2, rc2, rfl, T5⟩
      have S7 : Sep w [rowOf tkE ra2 rc2 36 4 ([] : List Tk)] w7 := S6.trans T5
      clear T5 S6
      refine J.run 4 K5_10 [(26, .int .i64 9), (25, .agg #[.int .i64 1, .int .i64 1]), (24, .slice ra2 (([] : List Tk).length) rc2)] w7 (by kernel_rfl) ?_
      refine J.new S7 4 [.int .i64 0, .int .i64 0] 25 (by kernel_rfl) ?_
      intro b2 w8 S8
      refine J.run 1 K5_11 [(4, .pointer (some ⟨b2, 0, none⟩)), (26, .int .i64 9), (25, .agg #[.int .i64 1, .int .i64 1])] w8 (by kernel_rfl) ?_
      refine J.stBox S8 0 25 0 (.agg #[.int .i64 1, .int .i64 1]) [.int .i64 1, .int .i64 1] [box b2 [.int .i64 1, .int .i64 1] 25, rowOf tkE ra2 rc2 36 4 ([] : List Tk)] (by kernel_rfl) rfl (by kernel_rfl) (by kernel_rfl) rfl ?_
      intro w9 S9
      refine J.run 7 K5_12 [(29, .bool true), (4, .pointer (some ⟨b2, 0, none⟩))] w9 (by kernel_rfl) ?_
      refine J.ok (OK.ldBox S9 0 30 25 0 (.agg #[.int .i64 1, .int .i64 1]) (by kernel_rfl) rfl (by kernel_rfl)) ?_
      refine J.run 1 K5_13 [(31, .agg #[.int .i64 1, .int .i64 1]), (30, .agg #[.int .i64 1, .int .i64 1]), (29, .bool true)] w9 (by kernel_rfl) ?_
      refine J.ok (OK.eqS 32 true 25 #[.int .i64 1, .int .i64 1] #[.int .i64 1, .int .i64 1] (((1 : Int) == 1) && (((1 : Int) == 1) && true)) (by kernel_rfl) (by kernel_rfl) (by kernel_rfl) true (by simp)) ?_
      refine J.run 3 K5_14 [(2, .bool true)] w9 (by kernel_rfl) ?_
      refine J.ret Tryd.f5 [.bool true] Tryd.func5 ⟨by kernel_rfl, trivial⟩ ?_
      refine hR _ _ ?_
      exact ⟨rfl, S9.nil⟩
    · skip
      refine J.head (.bool false) (congrArg Value.bool (decide_eq_false fk2)) ?_
      refine J.run 5 K5_15 [(34, .int .i64 n), (0, .int .i64 n)] w1 (by kernel_rfl) ?_
      refine J.callF 35 15 #[.int .i64 n] hb15 (by kernel_rfl) (atext_any n _ (by omega) (tabW_sep hW S1)) ?_
      rintro _ w10 ⟨rfl, T6⟩
      have S10 : Sep w [] w10 := S1.trans T6
      clear T6 S1
      have := itoaB_size (n := n) (by omega)
      refine J.run 5 K5_16 [(37, .string (itoaB n)), (6, .string (itoaB n)), (0, .int .i64 n)] w10 (by kernel_rfl) ?_
      refine J.callF 38 10 #[.string (itoaB n)] hb10 (by kernel_rfl) (tokens_num n _ (by omega) (tabW_sep hW S10)) ?_
      rintro _ w11 ⟨ra3, rc3, rfl, T7⟩
      have S11 : Sep w [rowOf tkE ra3 rc3 36 4 (numL n)] w11 := S10.trans T7
      clear T7 S10
      refine J.run 4 K5_17 [(41, .int .i64 0), (40, .agg #[.int .i64 0, .int .i64 0]), (39, .slice ra3 ((numL n).length) rc3), (6, .string (itoaB n)), (0, .int .i64 n)] w11 (by kernel_rfl) ?_
      refine J.new S11 8 [.int .i64 0, .int .i64 0] 25 (by kernel_rfl) ?_
      intro b3 w12 S12
      refine J.run 1 K5_18 [(7, .slice ra3 ((numL n).length) rc3), (8, .pointer (some ⟨b3, 0, none⟩)), (41, .int .i64 0), (40, .agg #[.int .i64 0, .int .i64 0]), (6, .string (itoaB n)), (0, .int .i64 n)] w12 (by kernel_rfl) ?_
      refine J.stBox S12 0 25 0 (.agg #[.int .i64 0, .int .i64 0]) [.int .i64 0, .int .i64 0] [box b3 [.int .i64 0, .int .i64 0] 25, rowOf tkE ra3 rc3 36 4 (numL n)] (by kernel_rfl) rfl (by kernel_rfl) (by kernel_rfl) rfl ?_
      intro w13 S13
      refine J.run 5 K5_19 [(43, .string (itoaB n)), (9, .int .i64 0), (7, .slice ra3 ((numL n).length) rc3), (6, .string (itoaB n)), (0, .int .i64 n)] w13 (by kernel_rfl) ?_
      refine J.callF 44 16 #[.string (itoaB n)] hb16 (by kernel_rfl) (number_any (itoaB n) _ (by omega) (tabW_sep hW S13)) ?_
      rintro _ w14 ⟨rfl, T8⟩
      have S14 : Sep w [box b3 [.int .i64 0, .int .i64 0] 25, rowOf tkE ra3 rc3 36 4 (numL n)] w14 := S13.trans T8
      clear T8 S13
      refine J.run 16 K5_20 [(54, .bool (((numL n).length : Int) == 2)), (11, .int .i64 (numR (itoaB n))), (10, .int .i64 (numX (itoaB n))), (7, .slice ra3 ((numL n).length) rc3), (6, .string (itoaB n)), (0, .int .i64 n)] w14 (by kernel_rfl) ?_
      have fk4 : ((numL n).length : Int) = 2 := rfl
      refine J.head (.bool true) (congrArg Value.bool (beq_iff_eq.2 fk4)) ?_
      refine J.run 1 K5_21 [(55, .slice ra3 ((numL n).length) rc3), (54, .bool true), (11, .int .i64 (numR (itoaB n))), (10, .int .i64 (numX (itoaB n))), (6, .string (itoaB n)), (0, .int .i64 n)] w14 (by kernel_rfl) ?_
      obtain ⟨p1, hp1, hc1⟩ := (rowOf_recs (S14.nth 1 rfl) _ rfl (fun _ => rfl) (by decide)).at (⟨0, ByteArray.empty, 0, 0⟩ : Tk) 0 (by omega)
      refine J.ok (OK.index 56 23 4 ra3 p1 ((numL n).length) 0 0 (p1.add (0 * 4)) (by kernel_rfl) (by kernel_rfl) hp1 (by omega) (by omega) rfl) ?_
      refine J.ok (OK.ldCells 57 36 (p1.add (0 * 4)) [.int .i64 (((numL n).getD 0 (⟨0, ByteArray.empty, 0, 0⟩ : Tk)).gKind), .string (((numL n).getD 0 (⟨0, ByteArray.empty, 0, 0⟩ : Tk)).gText), .int .i64 (((numL n).getD 0 (⟨0, ByteArray.empty, 0, 0⟩ : Tk)).gPlace_Line), .int .i64 (((numL n).getD 0 (⟨0, ByteArray.empty, 0, 0⟩ : Tk)).gPlace_Column)] (by kernel_rfl) (by kernel_rfl) (by kernel_rfl) hc1) ?_
      refine J.run 3 K5_22 [(60, .agg #[.int .i64 2, .string (itoaB n), .int .i64 1, .int .i64 1]), (57, .agg #[.int .i64 (((numL n).getD 0 (⟨0, ByteArray.empty, 0, 0⟩ : Tk)).gKind), .string (((numL n).getD 0 (⟨0, ByteArray.empty, 0, 0⟩ : Tk)).gText), .int .i64 (((numL n).getD 0 (⟨0, ByteArray.empty, 0, 0⟩ : Tk)).gPlace_Line), .int .i64 (((numL n).getD 0 (⟨0, ByteArray.empty, 0, 0⟩ : Tk)).gPlace_Column)]), (54, .bool true), (11, .int .i64 (numR (itoaB n))), (10, .int .i64 (numX (itoaB n))), (0, .int .i64 n)] w14 (by kernel_rfl) ?_
      refine J.ok (OK.eqS 61 true 36 #[.int .i64 (((numL n).getD 0 (⟨0, ByteArray.empty, 0, 0⟩ : Tk)).gKind), .string (((numL n).getD 0 (⟨0, ByteArray.empty, 0, 0⟩ : Tk)).gText), .int .i64 (((numL n).getD 0 (⟨0, ByteArray.empty, 0, 0⟩ : Tk)).gPlace_Line), .int .i64 (((numL n).getD 0 (⟨0, ByteArray.empty, 0, 0⟩ : Tk)).gPlace_Column)] #[.int .i64 2, .string (itoaB n), .int .i64 1, .int .i64 1] (((((numL n).getD 0 (⟨0, ByteArray.empty, 0, 0⟩ : Tk)).gKind) == 2) && (((((numL n).getD 0 (⟨0, ByteArray.empty, 0, 0⟩ : Tk)).gText).toList == (itoaB n).toList) && ((((((numL n).getD 0 (⟨0, ByteArray.empty, 0, 0⟩ : Tk)).gPlace_Line) == 1) && (((((numL n).getD 0 (⟨0, ByteArray.empty, 0, 0⟩ : Tk)).gPlace_Column) == 1) && true)) && true))) (by kernel_rfl) (by kernel_rfl) (by kernel_rfl) (((((numL n).getD 0 (⟨0, ByteArray.empty, 0, 0⟩ : Tk)).gKind) == 2) && (((((numL n).getD 0 (⟨0, ByteArray.empty, 0, 0⟩ : Tk)).gText).toList == (itoaB n).toList) && (((((numL n).getD 0 (⟨0, ByteArray.empty, 0, 0⟩ : Tk)).gPlace_Line) == 1) && ((((numL n).getD 0 (⟨0, ByteArray.empty, 0, 0⟩ : Tk)).gPlace_Column) == 1)))) (by simp)) ?_
      refine J.run 2 K5_23 [(63, .bool (((((numL n).getD 0 (⟨0, ByteArray.empty, 0, 0⟩ : Tk)).gKind) == 2) && (((((numL n).getD 0 (⟨0, ByteArray.empty, 0, 0⟩ : Tk)).gText).toList == (itoaB n).toList) && (((((numL n).getD 0 (⟨0, ByteArray.empty, 0, 0⟩ : Tk)).gPlace_Line) == 1) && ((((numL n).getD 0 (⟨0, ByteArray.empty, 0, 0⟩ : Tk)).gPlace_Column) == 1))))), (11, .int .i64 (numR (itoaB n))), (10, .int .i64 (numX (itoaB n))), (0, .int .i64 n)] w14 (by kernel_rfl) ?_
      have fk6 : (((((numL n).getD 0 (⟨0, ByteArray.empty, 0, 0⟩ : Tk)).gKind) == 2) && (((((numL n).getD 0 (⟨0, ByteArray.empty, 0, 0⟩ : Tk)).gText).toList == (itoaB n).toList) && (((((numL n).getD 0 (⟨0, ByteArray.empty, 0, 0⟩ : Tk)).gPlace_Line) == 1) && ((((numL n).getD 0 (⟨0, ByteArray.empty, 0, 0⟩ : Tk)).gPlace_Column) == 1)))) = true := by show ((2 : Int) == 2 && ((itoaB n).toList == (itoaB n).toList && ((1 : Int) == 1 && (1 : Int) == 1))) = true; rw [beq_self_eq_true (itoaB n).toList]; rfl
      refine J.head (.bool true) (congrArg Value.bool fk6) ?_
      refine J.run 4 K5_24 [(67, .bool ((numR (itoaB n)) == 0)), (10, .int .i64 (numX (itoaB n))), (0, .int .i64 n)] w14 (by kernel_rfl) ?_
      have fk8 : (numR (itoaB n)) = 0 := (num_number (n := n) (by omega)).2
      refine J.head (.bool true) (congrArg Value.bool (beq_iff_eq.2 fk8)) ?_
      refine J.run 6 K5_25 [(2, .bool ((numX (itoaB n)) == n))] w14 (by kernel_rfl) ?_
      refine J.ret Tryd.f5 [.bool ((numX (itoaB n)) == n)] Tryd.func5 ⟨by kernel_rfl, trivial⟩ ?_
      refine hR _ _ ?_
      have fk9 : (numX (itoaB n)) = n := (num_number (n := n) (by omega)).1
      exact ⟨congrArg Value.bool (beq_iff_eq.2 fk9), S14.nil⟩

theorem hb6 : HasBody Tryd.prog 6 := fun _ _ => by kernel_rfl
noncomputable def K6_0 : List Item := adv 7 [] (bodyOf Tryd.f6)
noncomputable def K6_1 : List Item := adv 11 [false] (popK K6_0)
noncomputable def K6_2 : List Item := adv 5 [true] K6_1
noncomputable def K6_3 : List Item := adv 4 [false] K6_1
noncomputable def K6_4 : List Item := adv 11 [] (popK K6_3)
noncomputable def K6_5 : List Item := adv 5 [] K6_4
noncomputable def K6_6 : List Item := adv 7 [true] K6_5
noncomputable def K6_7 : List Item := adv 6 [] (popK (popK K6_6))
noncomputable def K6_8 : List Item := adv 15 [] (popK K6_7)
noncomputable def K6_9 : List Item := adv 1 [] K6_8
noncomputable def K6_10 : List Item := adv 3 [] (popK K6_9)
noncomputable def K6_11 : List Item := adv 1 [] K6_10
noncomputable def K6_12 : List Item := adv 2 [] (popK K6_11)
noncomputable def K6_13 : List Item := adv 2 [] K6_12
noncomputable def K6_14 : List Item := adv 1 [] (popK K6_13)
noncomputable def K6_15 : List Item := adv 2 [] (popK K6_14)
noncomputable def K6_16 : List Item := adv 5 [false] K6_15
noncomputable def K6_17 : List Item := adv 5 [false] K6_5
noncomputable def K6_18 : List Item := adv 15 [] (popK K6_17)
noncomputable def K6_19 : List Item := adv 2 [] (popK K6_18)
noncomputable def K6_20 : List Item := adv 1 [] K6_19
noncomputable def K6_21 : List Item := adv 1 [] (popK K6_20)
noncomputable def K6_22 : List Item := adv 1 [] K6_21
noncomputable def K6_23 : List Item := adv 5 [] (popK K6_22)
noncomputable def K6_24 : List Item := adv 7 [] K6_21
set_option maxRecDepth 20000 in
set_option maxHeartbeats 20000000 in
theorem lawkinds_any (s : ByteArray) (w : World) (hW : TabW w) (hsb : s.size ≤ 9223372036854775807) : Ret Tryd.prog 6 #[.string s] w (fun v w' => v = .bool true ∧ Sep w [] w') := by
  have S0 := Sep.refl w
  refine Ret.named fun R hR => ?_
  refine Ret.of_J (N := 74) [(0, .string s)] Tryd.func6 rfl rfl (Nat.le_of_ble_eq_true (by kernel_rfl)) (by kernel_rfl) ?_
  have hk21 : kindsL.length = 21 := rfl
  refine J.run 7 K6_0 [(0, .string s)] w (by kernel_rfl) ?_
  refine J.callF 14 9 #[] hb9 (by kernel_rfl) (awake_any  _ (tabW_sep hW S0)) ?_
  rintro _ w1 ⟨rfl, T1⟩
  have S1 : Sep w [] w1 := S0.trans T1
  clear T1
  refine J.run 11 K6_1 [(18, .bool (decide ((s.size : Int) > 200))), (0, .string s)] w1 (by kernel_rfl) ?_
  by_cases fk1 : (s.size : Int) > 200
  · skip
    refine J.head (.bool true) (congrArg Value.bool (decide_eq_true fk1)) ?_
    refine J.run 5 K6_2 [(2, .bool true)] w1 (by kernel_rfl) ?_
    refine J.ret Tryd.f6 [.bool true] Tryd.func6 ⟨by kernel_rfl, trivial⟩ ?_
    refine hR _ _ ?_
    exact ⟨rfl, S1.nil⟩
  · skip
    refine J.head (.bool false) (congrArg Value.bool (decide_eq_false fk1)) ?_
    refine J.run 4 K6_3 [(0, .string s)] w1 (by kernel_rfl) ?_
    refine J.callF 19 17 #[] hb17 (by kernel_rfl) (kinds_any  _) ?_
    rintro _ w2 ⟨ra1, rc1, rfl, T2⟩
    have S2 : Sep w [rowOf (enc1 Value.string) ra1 rc1 9 1 kindsL] w2 := S1.trans T2
    clear T2 S1
    refine J.run 11 K6_4 [(22, .int .i64 0), (21, .int .i64 (kindsL.length : Int)), (20, .slice ra1 kindsL.length rc1), (3, .slice ra1 kindsL.length rc1), (0, .string s)] w2 (by kernel_rfl) ?_
    have L6_1 : ∀ (mm_ : Nat) (i : Int) (w3 : World), (0 ≤ i) → (i ≤ 21) → Sep w [rowOf (enc1 Value.string) ra1 rc1 9 1 kindsL] w3 → (21 - i).toNat = mm_ → J Tryd.prog 6 74 R K6_4 [(22, .int .i64 i), (21, .int .i64 (kindsL.length : Int)), (20, .slice ra1 kindsL.length rc1), (3, .slice ra1 kindsL.length rc1), (0, .string s)] w3 := by
      intro mm1
      induction mm1 using Nat.strongRecOn with
      | _ mm1 ih1 =>
      intro i w3 h0 h1 S3 hm1
      refine J.run 5 K6_5 [(23, .bool (decide (i < (kindsL.length : Int)))), (22, .int .i64 i), (21, .int .i64 (kindsL.length : Int)), (20, .slice ra1 kindsL.length rc1), (3, .slice ra1 kindsL.length rc1), (0, .string s)] w3 (by kernel_rfl) ?_
      by_cases fk2 : i < (kindsL.length : Int)
      · skip
        refine J.head (.bool true) (congrArg Value.bool (decide_eq_true fk2)) ?_
        have hks := kinds_size (j := i.toNat) (by omega)
        refine J.run 7 K6_6 [(24, .int .i64 i), (22, .int .i64 i), (21, .int .i64 (kindsL.length : Int)), (20, .slice ra1 kindsL.length rc1), (3, .slice ra1 kindsL.length rc1), (0, .string s)] w3 (by kernel_rfl) ?_
        obtain ⟨p1, hp1⟩ := row1_addr (S3.nth 0 rfl) (show 0 < (kindsL).length by first | omega | (simp; omega))
        refine J.ok (OK.index 25 33 1 ra1 p1 kindsL.length (i).toNat i (p1.add (i).toNat) (by kernel_rfl) (by kernel_rfl) hp1 (by omega) (by first | omega | (simp; omega)) (by rw [Nat.mul_one])) ?_
        refine J.ok (OK.ldCell 26 9 (p1.add (i).toNat) (.string (kindsL.getD (i).toNat ByteArray.empty)) (by kernel_rfl) (by kernel_rfl) (row1_cell (g := Value.string) S3 0 rfl hp1 ByteArray.empty (i).toNat (by first | omega | (simp; omega)))) ?_
        refine J.run 6 K6_7 [(28, .string (kindsL.getD (i).toNat ByteArray.empty)), (5, .string (kindsL.getD (i).toNat ByteArray.empty)), (4, .int .i64 i), (22, .int .i64 i), (21, .int .i64 (kindsL.length : Int)), (20, .slice ra1 kindsL.length rc1), (3, .slice ra1 kindsL.length rc1), (0, .string s)] w3 (by kernel_rfl) ?_
        refine J.callF 29 18 #[.string (kindsL.getD (i).toNat ByteArray.empty)] hb18 (by kernel_rfl) (kind_any (kindsL.getD (i).toNat ByteArray.empty) _) ?_
        rintro _ w4 ⟨rfl, T3⟩
        have S4 : Sep w [rowOf (enc1 Value.string) ra1 rc1 9 1 kindsL] w4 := S3.trans T3
        clear T3 S3
        refine J.run 15 K6_8 [(36, .bool (!(kO (kindsL.getD (i).toNat ByteArray.empty)))), (5, .string (kindsL.getD (i).toNat ByteArray.empty)), (4, .int .i64 i), (22, .int .i64 i), (21, .int .i64 (kindsL.length : Int)), (20, .slice ra1 kindsL.length rc1), (3, .slice ra1 kindsL.length rc1), (0, .string s)] w4 (by kernel_rfl) ?_
        have fk4 : (kO (kindsL.getD (i).toNat ByteArray.empty)) = true := (kinds_ok (by omega)).1
        refine J.head (.bool false) (congrArg Value.bool (by rw [fk4]; rfl)) ?_
        refine J.run 1 K6_9 [(37, .string (kindsL.getD (i).toNat ByteArray.empty)), (36, .bool false), (5, .string (kindsL.getD (i).toNat ByteArray.empty)), (4, .int .i64 i), (22, .int .i64 i), (21, .int .i64 (kindsL.length : Int)), (20, .slice ra1 kindsL.length rc1), (3, .slice ra1 kindsL.length rc1), (0, .string s)] w4 (by kernel_rfl) ?_
        refine J.callF 38 19 #[.string (kindsL.getD (i).toNat ByteArray.empty)] hb19 (by kernel_rfl) (reserved_any (kindsL.getD (i).toNat ByteArray.empty) _) ?_
        rintro _ w5 ⟨rfl, T4⟩
        have S5 : Sep w [rowOf (enc1 Value.string) ra1 rc1 9 1 kindsL] w5 := S4.trans T4
        clear T4 S4
        refine J.run 3 K6_10 [(41, .bool (!(resB (kindsL.getD (i).toNat ByteArray.empty)))), (5, .string (kindsL.getD (i).toNat ByteArray.empty)), (4, .int .i64 i), (22, .int .i64 i), (21, .int .i64 (kindsL.length : Int)), (20, .slice ra1 kindsL.length rc1), (3, .slice ra1 kindsL.length rc1), (0, .string s)] w5 (by kernel_rfl) ?_
        have fk6 : (resB (kindsL.getD (i).toNat ByteArray.empty)) = true := (kinds_ok (by omega)).2.1
        refine J.head (.bool false) (congrArg Value.bool (by rw [fk6]; rfl)) ?_
        refine J.run 1 K6_11 [(42, .string (kindsL.getD (i).toNat ByteArray.empty)), (41, .bool false), (5, .string (kindsL.getD (i).toNat ByteArray.empty)), (4, .int .i64 i), (22, .int .i64 i), (21, .int .i64 (kindsL.length : Int)), (20, .slice ra1 kindsL.length rc1), (3, .slice ra1 kindsL.length rc1), (0, .string s)] w5 (by kernel_rfl) ?_
        refine J.callF 43 20 #[.string (kindsL.getD (i).toNat ByteArray.empty)] hb20 (by kernel_rfl) (name_any (kindsL.getD (i).toNat ByteArray.empty) _ (by omega)) ?_
        rintro _ w6 ⟨rfl, T5⟩
        have S6 : Sep w [rowOf (enc1 Value.string) ra1 rc1 9 1 kindsL] w6 := S5.trans T5
        clear T5 S5
        refine J.run 2 K6_12 [(45, .bool (nameB (kindsL.getD (i).toNat ByteArray.empty))), (5, .string (kindsL.getD (i).toNat ByteArray.empty)), (4, .int .i64 i), (22, .int .i64 i), (21, .int .i64 (kindsL.length : Int)), (20, .slice ra1 kindsL.length rc1), (3, .slice ra1 kindsL.length rc1), (0, .string s)] w6 (by kernel_rfl) ?_
        have fk8 : (nameB (kindsL.getD (i).toNat ByteArray.empty)) = false := (kinds_ok (by omega)).2.2.1
        refine J.head (.bool false) (congrArg Value.bool fk8) ?_
        refine J.run 2 K6_13 [(47, .int .i64 i), (46, .slice ra1 kindsL.length rc1), (45, .bool false), (5, .string (kindsL.getD (i).toNat ByteArray.empty)), (22, .int .i64 i), (21, .int .i64 (kindsL.length : Int)), (20, .slice ra1 kindsL.length rc1), (3, .slice ra1 kindsL.length rc1), (0, .string s)] w6 (by kernel_rfl) ?_
        have := (rowOf_cells (S6.nth 0 rfl)).2.2
        refine J.ok (OK.slice 48 33 1 ra1 kindsL.length rc1 none (some (.int .i64 i)) 0 ((i).toNat) (by kernel_rfl) (by kernel_rfl) (.inl ⟨rfl, rfl⟩) (.inr ⟨_, _, rfl, by omega⟩) (by first | omega | (simp; omega)) (by first | omega | (simp; omega))) ?_
        refine J.head (.slice ra1 ((i).toNat) rc1) (by rw [subA_zero]; try rfl) ?_
        refine J.run 1 K6_14 [(49, .string (kindsL.getD (i).toNat ByteArray.empty)), (48, .slice ra1 ((i).toNat) rc1), (45, .bool false), (22, .int .i64 i), (21, .int .i64 (kindsL.length : Int)), (20, .slice ra1 kindsL.length rc1), (3, .slice ra1 kindsL.length rc1), (0, .string s)] w6 (by kernel_rfl) ?_
        refine J.callF 50 21 #[.slice ra1 ((i).toNat) rc1, .string (kindsL.getD (i).toNat ByteArray.empty)] hb21 (by kernel_rfl) (containsS ra1 ((i).toNat) rc1 (kindsL.take ((i).toNat)) (kindsL.getD (i).toNat ByteArray.empty) _ (((row1_ones (S6.nth 0 rfl) _ rfl).take ((i).toNat) (by first | omega | (simp; omega)))) (by first | omega | (simp; omega))) ?_
        rintro _ w7 ⟨rfl, T6⟩
        have S7 : Sep w [rowOf (enc1 Value.string) ra1 rc1 9 1 kindsL] w7 := S6.trans T6
        clear T6 S6
        refine J.run 2 K6_15 [(51, .bool (List.any (kindsL.take ((i).toNat)) (eqT (kindsL.getD (i).toNat ByteArray.empty)))), (22, .int .i64 i), (21, .int .i64 (kindsL.length : Int)), (20, .slice ra1 kindsL.length rc1), (3, .slice ra1 kindsL.length rc1), (0, .string s)] w7 (by kernel_rfl) ?_
        have fk10 : (List.any (kindsL.take ((i).toNat)) (eqT (kindsL.getD (i).toNat ByteArray.empty))) = false := (kinds_ok (by omega)).2.2.2
        refine J.head (.bool false) (congrArg Value.bool fk10) ?_
        refine J.run 5 K6_16 [(52, .int .i64 (IntKind.wrap .i64 (i + 1))), (21, .int .i64 (kindsL.length : Int)), (20, .slice ra1 kindsL.length rc1), (3, .slice ra1 kindsL.length rc1), (0, .string s)] w7 (by kernel_rfl) ?_
        refine J.head (.int .i64 (i + 1)) (congrArg (Value.int .i64) (IntWalk.i64_in _ (by omega))) ?_
        refine J.run 3 K6_4 [(22, .int .i64 (i + 1)), (21, .int .i64 (kindsL.length : Int)), (20, .slice ra1 kindsL.length rc1), (3, .slice ra1 kindsL.length rc1), (0, .string s)] w7 (by kernel_rfl) ?_
        refine J.run 0 K6_4 [(22, .int .i64 (i + 1)), (21, .int .i64 (kindsL.length : Int)), (20, .slice ra1 kindsL.length rc1), (3, .slice ra1 kindsL.length rc1), (0, .string s)] w7 (by kernel_rfl) ?_
        exact ih1 _ (show (21 - (i + 1)).toNat < mm1 from by omega) (i + 1) w7 (by omega) (by omega) S7 rfl
      · skip
        refine J.head (.bool false) (congrArg Value.bool (decide_eq_false fk2)) ?_
        refine J.run 5 K6_17 [(54, .string s), (3, .slice ra1 kindsL.length rc1), (0, .string s)] w3 (by kernel_rfl) ?_
        refine J.callF 55 18 #[.string s] hb18 (by kernel_rfl) (kind_any s _) ?_
        rintro _ w8 ⟨rfl, T7⟩
        have S8 : Sep w [rowOf (enc1 Value.string) ra1 rc1 9 1 kindsL] w8 := S3.trans T7
        clear T7 S3
        refine J.run 15 K6_18 [(62, .string s), (61, .slice ra1 kindsL.length rc1), (60, .bool (kO s)), (0, .string s)] w8 (by kernel_rfl) ?_
        have := rowOf_len (S8.nth 0 rfl)
        refine J.callF 63 21 #[.slice ra1 kindsL.length rc1, .string s] hb21 (by kernel_rfl) (containsS ra1 kindsL.length rc1 kindsL s _ ((row1_ones (S8.nth 0 rfl) kindsL.length (by first | rfl | omega | simp))) (by first | omega | (simp; omega))) ?_
        rintro _ w9 ⟨rfl, T8⟩
        have S9 : Sep w [rowOf (enc1 Value.string) ra1 rc1 9 1 kindsL] w9 := S8.trans T8
        clear T8 S8
        refine J.run 2 K6_19 [(65, .bool ((kO s) == (List.any kindsL (eqT s)))), (0, .string s)] w9 (by kernel_rfl) ?_
        have fk12 : ((kO s) == (List.any kindsL (eqT s))) = true := beq_iff_eq.2 (kO_any s)
        refine J.head (.bool true) (congrArg Value.bool fk12) ?_
        refine J.run 1 K6_20 [(66, .string s), (65, .bool true), (0, .string s)] w9 (by kernel_rfl) ?_
        refine J.callF 67 20 #[.string s] hb20 (by kernel_rfl) (name_any s _ (by omega)) ?_
        rintro _ w10 ⟨rfl, T9⟩
        have S10 : Sep w [rowOf (enc1 Value.string) ra1 rc1 9 1 kindsL] w10 := S9.trans T9
        clear T9 S9
        refine J.run 1 K6_21 [(68, .bool (nameB s)), (65, .bool true), (0, .string s)] w10 (by kernel_rfl) ?_
        rcases Bool.eq_false_or_eq_true (nameB s) with fk13 | fk13
        · skip
          refine J.head (.bool true) (congrArg Value.bool fk13) ?_
          refine J.run 1 K6_22 [(69, .string s), (68, .bool true), (65, .bool true)] w10 (by kernel_rfl) ?_
          refine J.callF 70 19 #[.string s] hb19 (by kernel_rfl) (reserved_any s _) ?_
          rintro _ w11 ⟨rfl, T10⟩
          have S11 : Sep w [rowOf (enc1 Value.string) ra1 rc1 9 1 kindsL] w11 := S10.trans T10
          clear T10 S10
          refine J.run 5 K6_23 [(2, .bool (!(resB s)))] w11 (by kernel_rfl) ?_
          refine J.ret Tryd.f6 [.bool (!(resB s))] Tryd.func6 ⟨by kernel_rfl, trivial⟩ ?_
          refine hR _ _ ?_
          exact ⟨by rw [name_res fk13]; rfl, S11.nil⟩
        · skip
          refine J.head (.bool false) (congrArg Value.bool fk13) ?_
          refine J.run 7 K6_24 [(2, .bool true)] w10 (by kernel_rfl) ?_
          refine J.ret Tryd.f6 [.bool true] Tryd.func6 ⟨by kernel_rfl, trivial⟩ ?_
          refine hR _ _ ?_
          exact ⟨rfl, S10.nil⟩
    exact L6_1 _ 0 w2 (by omega) (by omega) S2 rfl

end Go.Proofs.YtlklealllohmgaaDoor
