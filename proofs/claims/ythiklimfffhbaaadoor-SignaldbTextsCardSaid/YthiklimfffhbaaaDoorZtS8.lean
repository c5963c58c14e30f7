/- Walks of functions of this seat, printed by a program over the engine. Conditions: as each theorem says. -/
import Derived.Test.YthiklimfffhbaaaDoorZtS7
import Derived.Test.YthiklimfffhbaaaDoorZtEng12
import Derived.Test.YthiklimfffhbaaaDoorZtShelf
namespace Go.Proofs.YthiklimfffhbaaaDoor
open Go.Eng Go.RowKit
set_option linter.unusedSimpArgs false
set_option linter.unusedVariables false
abbrev TabW (w : World) : Prop := Lib.TabIs Tryd.prog w "internal/strconv.uint64pow10" .u64 Lib.pow10Tab ∧ IntW w 0 .i64
theorem tabW_sep {w w' : World} {L : List Go.Eng.Claim} (h : TabW w) (S : Sep w L w') : TabW w' := ⟨S.tab (g := 3) (by kernel_rfl) h.1, (h.2).sep S⟩
abbrev iv (n : Int) : Value := Value.int IntKind.i64 n
/-! the bytes of a text that may have a sign -/
theorem dg_step {q : Nat → Prop} {i : Int} (h0 : 0 ≤ i) (hq : ∀ k, k < i.toNat → q k) (h : q i.toNat) : ∀ k, k < (i + 1).toNat → q k := by
  intro k hk
  by_cases e : k = i.toNat
  · subst e; exact h
  · exact hq k (by omega)
/-! the text of a number, digit by digit -/
theorem text_first {m : Int} : Lib.decDigits m.toNat = Lib.decDigits m.toNat ++ ls ByteArray.empty := by rw [empty_ls, List.append_nil]
theorem text_round {m : Int} (h0 : 0 ≤ m) (h : ¬ m / 10 = 0) (s : ByteArray) : Lib.decDigits m.toNat ++ ls s = Lib.decDigits (m / 10).toNat ++ ls (bytesB [48 + m % 10] ++ s) := by
  rw [ls_append, bytesB_ls, Lib.decDigits, dif_neg (by omega), show (m / 10).toNat = m.toNat / 10 by omega, List.append_assoc]
  congr 3
  show UInt8.ofNat (48 + m.toNat % 10) = UInt8.ofNat (48 + m % 10).toNat
  congr 1; omega
theorem text_last {m : Int} (h0 : 0 ≤ m) (h : m / 10 = 0) (s : ByteArray) : Lib.decDigits m.toNat ++ ls s = ls (bytesB [48 + m % 10] ++ s) := by
  rw [ls_append, bytesB_ls, Lib.decDigits_one (by omega)]
  congr 2
  show UInt8.ofNat (48 + m.toNat) = UInt8.ofNat (48 + m % 10).toNat
  congr 1; omega
theorem text_size {m m0 : Int} {s : ByteArray} (hm : 0 ≤ m0 ∧ m0 ≤ 9223372036854775808) (h : Lib.decDigits m0.toNat = Lib.decDigits m.toNat ++ ls s) : s.size ≤ 20 := by
  have h1 := congrArg List.length h
  rw [List.length_append, ls_length, Lib.decDigits_length] at h1
  have := nDigits_le 18 m0.toNat (by rw [ten19]; omega)
  omega
theorem text_neg {n m : Int} {s : ByteArray} (hn : n < 0) (hm : m = -n) (h : Lib.decDigits m.toNat = ls s) : (⟨#[45]⟩ : ByteArray) ++ s = itoaB n := by
  apply ls_inj
  show ls _ = Lib.itoa n
  rw [ls_append, ← h]
  unfold Lib.itoa
  rw [if_pos hn, show n.natAbs = m.toNat by omega]; rfl
theorem text_pos {n m : Int} {s : ByteArray} (hn : ¬ n < 0) (hm : m = n) (h : Lib.decDigits m.toNat = ls s) : s = itoaB n := by
  apply ls_inj
  show ls _ = Lib.itoa n
  unfold Lib.itoa
  rw [if_neg hn, ← hm, h]

theorem hb57 : HasBody Tryd.prog 57 := fun _ _ => by kernel_rfl
theorem itoa_any (n : Int) (w : World) (hn : -9223372036854775808 ≤ n ∧ n ≤ 9223372036854775807) (hW : TabW w) : Ret Tryd.prog 57 #[.int .i64 n] w (fun v w' => v = .string (itoaB n) ∧ Sep w [] w') :=
  Ret.of_calls (Tryd.strconv_Itoa n hn.1 hn.2 w hW.1) fun w' ⟨k, os, e⟩ => ⟨rfl, by subst e; exact .of_grow _ _ _⟩
theorem hb31 : HasBody Tryd.prog 31 := fun _ _ => by kernel_rfl
noncomputable def K31_0 : List Item := adv 7 [] (bodyOf Tryd.f31)
noncomputable def K31_1 : List Item := adv 2 [] (popK K31_0)
set_option maxRecDepth 20000 in
set_option maxHeartbeats 20000000 in
theorem atext_any (n : Int) (w : World) (hn : -9223372036854775808 ≤ n ∧ n ≤ 9223372036854775807) (hW : TabW w) : Ret Tryd.prog 31 #[.int .i64 n] w (fun v w' => v = .string (itoaB n) ∧ Sep w [] w') := by
 have S0 := Sep.refl w
 refine Ret.named fun R hR => ?_
 refine Ret.of_J (N := 5) [(0, .int .i64 n)] Tryd.func31 rfl rfl (Nat.le_of_ble_eq_true (by kernel_rfl)) (by kernel_rfl) ?_
 refine J.run 7 K31_0 [(3, .int .i64 n)] w (by kernel_rfl) ?_
 refine J.callF 4 57 #[.int .i64 n] hb57 (by kernel_rfl) (itoa_any n _ (by omega) (tabW_sep hW S0)) ?_
 rintro _ w1 ⟨rfl, T1⟩
 have S1 : Sep w [] w1 := S0.trans T1
 clear T1
 have := itoaB_size (n := n) (by omega)
 refine J.run 2 K31_1 [(2, .string (itoaB n))] w1 (by kernel_rfl) ?_
 refine J.ret Tryd.f31 [.string (itoaB n)] Tryd.func31 ⟨by kernel_rfl, trivial⟩ ?_
 refine hR _ _ ?_
 exact ⟨rfl, S1.nil⟩

theorem hb58 : HasBody Tryd.prog 58 := fun _ _ => by kernel_rfl
noncomputable def K58_0 : List Item := adv 7 [] (bodyOf Tryd.f58)
noncomputable def K58_1 : List Item := adv 9 [] (popK K58_0)
noncomputable def K58_2 : List Item := adv 5 [] K58_1
noncomputable def K58_3 : List Item := adv 1 [] K58_2
noncomputable def K58_4 : List Item := adv 1 [] K58_3
noncomputable def K58_5 : List Item := adv 1 [] (popK (popK K58_4))
noncomputable def K58_6 : List Item := adv 6 [] (popK K58_5)
noncomputable def K58_7 : List Item := adv 7 [] K58_6
noncomputable def K58_8 : List Item := adv 8 [true] K58_7
noncomputable def K58_9 : List Item := adv 4 [true] K58_8
noncomputable def K58_10 : List Item := adv 2 [] (popK K58_9)
noncomputable def K58_11 : List Item := adv 7 [false] K58_8
set_option maxRecDepth 20000 in
set_option maxHeartbeats 20000000 in
theorem rtext_any (n : Int) (w : World) (hn : -9223372036854775808 ≤ n ∧ n ≤ 9223372036854775807) : Ret Tryd.prog 58 #[.int .i64 n] w (fun v w' => v = .string (itoaB n) ∧ Sep w [] w') := by
 have S0 := Sep.refl w
 refine Ret.named fun R hR => ?_
 refine Ret.of_J (N := 24) [(0, .int .i64 n)] Tryd.func58 rfl rfl (Nat.le_of_ble_eq_true (by kernel_rfl)) (by kernel_rfl) ?_
 have hmg : 0 ≤ magF n ∧ magF n ≤ 9223372036854775808 := by unfold magF; omega
 refine J.run 7 K58_0 [(5, .int .i64 n), (0, .int .i64 n)] w (by kernel_rfl) ?_
 have := mag_le n (by omega)
 refine J.callF 6 82 #[.int .i64 n] hb82 (by kernel_rfl) (size_any n _ (by omega)) ?_
 rintro _ w1 ⟨rfl, T1⟩
 have S1 : Sep w [] w1 := S0.trans T1
 clear T1
 refine J.run 9 K58_1 [(4, .string ByteArray.empty), (3, .int .u64 (magF n)), (0, .int .i64 n)] w1 (by kernel_rfl) ?_
 have L58_1 : ∀ (mm_ : Nat) (m : Int) (s : ByteArray) (w2 : World), (0 ≤ m ∧ m ≤ 9223372036854775808) → (Lib.decDigits (magF n).toNat = Lib.decDigits (m).toNat ++ ls s) → Sep w [] w2 → (m).toNat = mm_ → J Tryd.prog 58 24 R K58_1 [(4, .string s), (3, .int .u64 m), (0, .int .i64 n)] w2 := by
  intro mm1
  induction mm1 using Nat.strongRecOn with
  | _ mm1 ih1 =>
  intro m s w2 hm hd S2 hm1
  refine J.run 5 K58_2 [(8, .int .u64 (Int.tmod m 10)), (4, .string s), (3, .int .u64 m), (0, .int .i64 n)] w2 (by kernel_rfl) ?_
  refine J.head (.int .u64 (m % 10)) (congrArg (Value.int .u64) (IntWalk.rem_in _ _ (by omega))) ?_
  refine J.run 1 K58_3 [(9, .int .u64 (IntKind.wrap .u64 (48 + (m % 10)))), (4, .string s), (3, .int .u64 m), (0, .int .i64 n)] w2 (by kernel_rfl) ?_
  refine J.head (.int .u64 (48 + (m % 10))) (congrArg (Value.int .u64) (IntWalk.u64_in _ (by omega))) ?_
  refine J.run 1 K58_4 [(10, .int .u8 (IntKind.wrap .u8 (48 + (m % 10)))), (4, .string s), (3, .int .u64 m), (0, .int .i64 n)] w2 (by kernel_rfl) ?_
  refine J.head (.int .u8 (48 + (m % 10))) (congrArg (Value.int .u8) (IntWalk.u8_in _ (by omega))) ?_
  refine J.newSlice S2 11 1 [.int .u8 (48 + (m % 10))] 5 (by kernel_rfl) ?_
  intro b1 w3 S3
  refine J.ok (OK.bytes 12 66 9 (some ⟨b1, 0, none⟩) 1 1 ([(48 + (m % 10))]) (by kernel_rfl) (by kernel_rfl) ⟨rfl, box_cells (S3.nth 0 rfl)⟩ (fun p hp => by cases hp; rfl)) ?_
  refine J.run 1 K58_5 [(13, .string s), (12, .string (bytesB ([(48 + (m % 10))]))), (3, .int .u64 m), (0, .int .i64 n)] w3 (by kernel_rfl) ?_
  refine J.ok (OK.cat 14 (bytesB ([(48 + (m % 10))])) s ((bytesB ([(48 + (m % 10))])) ++ s) (by kernel_rfl) (by first | omega | (have := text_size (m0 := magF n) ⟨by unfold magF; omega, by unfold magF; omega⟩ hd; (try simp only [ByteArray.size_append, bytesB_size, lit_size, List.size_toArray, List.length_cons, List.length_nil]); omega)) (rfl)) ?_
  refine J.run 6 K58_6 [(16, .int .u64 (IntKind.wrap .u64 (Int.tdiv m 10))), (4, .string ((bytesB ([(48 + (m % 10))])) ++ s)), (0, .int .i64 n)] w3 (by kernel_rfl) ?_
  refine J.head (.int .u64 (m / 10)) (congrArg (Value.int .u64) (IntWalk.u64_quo _ _ (by omega))) ?_
  refine J.run 7 K58_7 [(18, .bool ((m / 10) == 0)), (3, .int .u64 (m / 10)), (4, .string ((bytesB ([(48 + (m % 10))])) ++ s)), (0, .int .i64 n)] w3 (by kernel_rfl) ?_
  by_cases fk1 : (m / 10) = 0
  ·skip
   refine J.head (.bool true) (congrArg Value.bool (beq_iff_eq.2 fk1)) ?_
   refine J.run 8 K58_8 [(20, .bool (decide (n < 0))), (4, .string ((bytesB ([(48 + (m % 10))])) ++ s))] w3 (by kernel_rfl) ?_
   by_cases fk2 : n < 0
   ·skip
    refine J.head (.bool true) (congrArg Value.bool (decide_eq_true fk2)) ?_
    refine J.run 4 K58_9 [(21, .string ((bytesB ([(48 + (m % 10))])) ++ s))] w3 (by kernel_rfl) ?_
    refine J.ok (OK.cat 22 (⟨#[45]⟩ : ByteArray) ((bytesB ([(48 + (m % 10))])) ++ s) ((⟨#[45]⟩ : ByteArray) ++ ((bytesB ([(48 + (m % 10))])) ++ s)) (by kernel_rfl) (by first | omega | (have := text_size (m0 := magF n) ⟨by unfold magF; omega, by unfold magF; omega⟩ hd; (try simp only [ByteArray.size_append, bytesB_size, lit_size, List.size_toArray, List.length_cons, List.length_nil]); omega)) (rfl)) ?_
    refine J.run 2 K58_10 [(2, .string ((⟨#[45]⟩ : ByteArray) ++ ((bytesB ([(48 + (m % 10))])) ++ s)))] w3 (by kernel_rfl) ?_
    refine J.ret Tryd.f58 [.string ((⟨#[45]⟩ : ByteArray) ++ ((bytesB ([(48 + (m % 10))])) ++ s))] Tryd.func58 ⟨by kernel_rfl, trivial⟩ ?_
    refine hR _ _ ?_
    have he := hd.trans (text_last (by omega) (by omega) s)
    exact ⟨congrArg Value.string (by first | exact text_neg (by omega) (by unfold magF; omega) he | exact text_pos (by omega) (by unfold magF; omega) he), S3.nil⟩
   ·skip
    refine J.head (.bool false) (congrArg Value.bool (decide_eq_false fk2)) ?_
    refine J.run 7 K58_11 [(2, .string ((bytesB ([(48 + (m % 10))])) ++ s))] w3 (by kernel_rfl) ?_
    refine J.ret Tryd.f58 [.string ((bytesB ([(48 + (m % 10))])) ++ s)] Tryd.func58 ⟨by kernel_rfl, trivial⟩ ?_
    refine hR _ _ ?_
    have he := hd.trans (text_last (by omega) (by omega) s)
    exact ⟨congrArg Value.string (by first | exact text_neg (by omega) (by unfold magF; omega) he | exact text_pos (by omega) (by unfold magF; omega) he), S3.nil⟩
  ·skip
   refine J.head (.bool false) (congrArg Value.bool (beq_eq_false_iff_ne.2 fk1)) ?_
   refine J.run 4 K58_1 [(3, .int .u64 (m / 10)), (4, .string ((bytesB ([(48 + (m % 10))])) ++ s)), (0, .int .i64 n)] w3 (by kernel_rfl) ?_
   have S4 : Sep w [] w3 := S3.erase 0
   clear S3
   refine J.run 0 K58_1 [(4, .string ((bytesB ([(48 + (m % 10))])) ++ s)), (3, .int .u64 (m / 10)), (0, .int .i64 n)] w3 (by kernel_rfl) ?_
   exact ih1 _ (show ((m / 10)).toNat < mm1 from by omega) (m / 10) ((bytesB ([(48 + (m % 10))])) ++ s) w3 (by omega) (hd.trans (text_round (by omega) (by omega) s)) S4 rfl
 exact L58_1 _ (magF n) (ByteArray.empty : ByteArray) w1 (by omega) (text_first) S1 rfl

end Go.Proofs.YthiklimfffhbaaaDoor

