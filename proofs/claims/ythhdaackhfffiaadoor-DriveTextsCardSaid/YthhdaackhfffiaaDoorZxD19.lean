/- Walks of functions of this seat, printed by a program over the engine. Conditions: as each theorem says. -/
import Derived.Test.YthhdaackhfffiaaDoorZxD18
namespace Go.Proofs.YthhdaackhfffiaaDoor
open Go.Eng Go.RowKit
set_option linter.unusedSimpArgs false
set_option linter.unusedVariables false
theorem hb39 : HasBody Tryd.prog 39 := fun _ _ => by kernel_rfl
noncomputable def K39_0 : List Item := adv 10 [] (bodyOf Tryd.f39)
noncomputable def K39_1 : List Item := adv 8 [false] K39_0
noncomputable def K39_2 : List Item := adv 9 [false] K39_1
noncomputable def K39_3 : List Item := adv 6 [] K39_2
noncomputable def K39_4 : List Item := adv 7 [true] K39_3
noncomputable def K39_5 : List Item := adv 1 [] K39_4
noncomputable def K39_6 : List Item := adv 1 [] K39_5
noncomputable def K39_7 : List Item := adv 1 [] (popK (popK K39_6))
noncomputable def K39_8 : List Item := adv 5 [] (popK K39_7)
noncomputable def K39_9 : List Item := adv 6 [false] K39_3
noncomputable def K39_10 : List Item := adv 1 [] K39_9
noncomputable def K39_11 : List Item := adv 1 [] (popK (popK K39_10))
noncomputable def K39_12 : List Item := adv 2 [] (popK K39_11)
set_option maxRecDepth 20000 in
set_option maxHeartbeats 20000000 in
theorem rnump_any (n0 : Int) (w : World) (hn : 0 ≤ n0 ∧ n0 ≤ 1000000000000000) : Ret Tryd.prog 39 #[iv n0] w (fun v w' => v = .string (itoaB n0) ∧ Sep w [] w') := by
 have S0 := Sep.refl w
 refine Ret.named fun R hR => ?_
 refine Ret.of_J (N := 41) [(0, iv n0)] Tryd.func39 rfl rfl (Nat.le_of_ble_eq_true (by kernel_rfl)) (by kernel_rfl) ?_
 refine J.run 10 K39_0 [(5, .bool (decide (n0 < (-9)))), (0, iv n0)] w (by kernel_rfl) ?_
 refine J.head (.bool false) (congrArg Value.bool (decide_eq_false (by omega))) ?_
 refine J.run 8 K39_1 [(17, .bool (decide (n0 < 0))), (0, iv n0)] w (by kernel_rfl) ?_
 refine J.head (.bool false) (congrArg Value.bool (decide_eq_false (by omega))) ?_
 refine J.run 9 K39_2 [(3, .string ByteArray.empty), (0, iv n0)] w (by kernel_rfl) ?_
 have L39_1 : ∀ (mm_ : Nat) (n : Int) (s : ByteArray) (w1 : World), (0 ≤ n ∧ n ≤ n0) → (Lib.decDigits n0.toNat = Lib.decDigits (n).toNat ++ ls s) → Sep w [] w1 → (n).toNat = mm_ → J Tryd.prog 39 41 R K39_2 [(3, .string s), (0, iv n)] w1 := by
  intro mm1
  induction mm1 using Nat.strongRecOn with
  | _ mm1 ih1 =>
  intro n s w1 hm hd S1 hm1
  refine J.run 6 K39_3 [(23, .bool (decide (n > 9))), (3, .string s), (0, iv n)] w1 (by kernel_rfl) ?_
  by_cases fk1 : n > 9
  ·skip
   refine J.head (.bool true) (congrArg Value.bool (decide_eq_true fk1)) ?_
   refine J.run 7 K39_4 [(25, iv (Int.tmod n 10)), (3, .string s), (0, iv n)] w1 (by kernel_rfl) ?_
   refine J.head (iv (n % 10)) (congrArg (Value.int .i64) (IntWalk.rem_in _ _ (by omega))) ?_
   refine J.run 1 K39_5 [(26, iv (IntKind.wrap .i64 (48 + (n % 10)))), (3, .string s), (0, iv n)] w1 (by kernel_rfl) ?_
   refine J.head (iv (48 + (n % 10))) (congrArg (Value.int .i64) (IntWalk.i64_in _ (by omega))) ?_
   refine J.run 1 K39_6 [(27, .int .u8 (IntKind.wrap .u8 (48 + (n % 10)))), (3, .string s), (0, iv n)] w1 (by kernel_rfl) ?_
   refine J.head (.int .u8 (48 + (n % 10))) (congrArg (Value.int .u8) (IntWalk.u8_in _ (by omega))) ?_
   refine J.newSlice S1 28 1 [.int .u8 (48 + (n % 10))] 5 (by kernel_rfl) ?_
   intro b1 w2 S2
   refine J.ok (OK.bytes 29 45 9 (some ⟨b1, 0, none⟩) 1 1 ([(48 + (n % 10))]) (by kernel_rfl) (by kernel_rfl) ⟨rfl, box_cells (S2.nth 0 rfl)⟩ (fun p hp => by cases hp; rfl)) ?_
   refine J.run 1 K39_7 [(30, .string s), (29, .string (bytesB ([(48 + (n % 10))]))), (0, iv n)] w2 (by kernel_rfl) ?_
   refine J.ok (OK.cat 31 (bytesB ([(48 + (n % 10))])) s ((bytesB ([(48 + (n % 10))])) ++ s) (by kernel_rfl) (by first | omega | (have := text_size (m0 := n0) ⟨by omega, by omega⟩ hd; (try simp only [ByteArray.size_append, bytesB_size, lit_size, List.size_toArray, List.length_cons, List.length_nil]); omega) | (simp only [ByteArray.size_append, lit_size, List.size_toArray, List.length_cons, List.length_nil]; omega)) (rfl)) ?_
   refine J.run 5 K39_8 [(33, iv (IntKind.wrap .i64 (Int.tdiv n 10))), (3, .string ((bytesB ([(48 + (n % 10))])) ++ s))] w2 (by kernel_rfl) ?_
   refine J.head (iv (n / 10)) (congrArg (Value.int .i64) (IntWalk.i64_quo _ _ (by omega))) ?_
   refine J.run 4 K39_2 [(0, iv (n / 10)), (3, .string ((bytesB ([(48 + (n % 10))])) ++ s))] w2 (by kernel_rfl) ?_
   have S3 : Sep w [] w2 := S2.erase 0
   clear S2
   refine J.run 0 K39_2 [(3, .string ((bytesB ([(48 + (n % 10))])) ++ s)), (0, iv (n / 10))] w2 (by kernel_rfl) ?_
   exact ih1 _ (show ((n / 10)).toNat < mm1 from by omega) (n / 10) ((bytesB ([(48 + (n % 10))])) ++ s) w2 (by omega) (hd.trans (rn_round (by omega) s)) S3 rfl
  ·skip
   refine J.head (.bool false) (congrArg Value.bool (decide_eq_false fk1)) ?_
   refine J.run 6 K39_9 [(35, iv (IntKind.wrap .i64 (48 + n))), (3, .string s)] w1 (by kernel_rfl) ?_
   refine J.head (iv (48 + n)) (congrArg (Value.int .i64) (IntWalk.i64_in _ (by omega))) ?_
   refine J.run 1 K39_10 [(36, .int .u8 (IntKind.wrap .u8 (48 + n))), (3, .string s)] w1 (by kernel_rfl) ?_
   refine J.head (.int .u8 (48 + n)) (congrArg (Value.int .u8) (IntWalk.u8_in _ (by omega))) ?_
   refine J.newSlice S1 37 1 [.int .u8 (48 + n)] 5 (by kernel_rfl) ?_
   intro b2 w3 S4
   refine J.ok (OK.bytes 38 45 9 (some ⟨b2, 0, none⟩) 1 1 ([(48 + n)]) (by kernel_rfl) (by kernel_rfl) ⟨rfl, box_cells (S4.nth 0 rfl)⟩ (fun p hp => by cases hp; rfl)) ?_
   refine J.run 1 K39_11 [(39, .string s), (38, .string (bytesB ([(48 + n)])))] w3 (by kernel_rfl) ?_
   refine J.ok (OK.cat 40 (bytesB ([(48 + n)])) s ((bytesB ([(48 + n)])) ++ s) (by kernel_rfl) (by first | omega | (have := text_size (m0 := n0) ⟨by omega, by omega⟩ hd; (try simp only [ByteArray.size_append, bytesB_size, lit_size, List.size_toArray, List.length_cons, List.length_nil]); omega) | (simp only [ByteArray.size_append, lit_size, List.size_toArray, List.length_cons, List.length_nil]; omega)) (rfl)) ?_
   refine J.run 2 K39_12 [(2, .string ((bytesB ([(48 + n)])) ++ s))] w3 (by kernel_rfl) ?_
   refine J.ret Tryd.f39 [.string ((bytesB ([(48 + n)])) ++ s)] Tryd.func39 ⟨by kernel_rfl, trivial⟩ ?_
   refine hR _ _ ?_
   exact ⟨congrArg Value.string (rn_last (by omega) (by omega) (by omega) hd), S4.nil⟩
 exact L39_1 _ n0 (ByteArray.empty : ByteArray) w (by omega) (text_first) S0 rfl

noncomputable def K39a_0 : List Item := adv 10 [] (bodyOf Tryd.f39)
noncomputable def K39a_1 : List Item := adv 5 [true] K39a_0
noncomputable def K39a_2 : List Item := adv 1 [] K39a_1
noncomputable def K39a_3 : List Item := adv 2 [] (popK (popK K39a_2))
noncomputable def K39a_4 : List Item := adv 1 [] K39a_3
noncomputable def K39a_5 : List Item := adv 2 [] (popK (popK K39a_4))
noncomputable def K39a_6 : List Item := adv 8 [false] K39a_0
noncomputable def K39a_7 : List Item := adv 5 [true] K39a_6
noncomputable def K39a_8 : List Item := adv 2 [] (popK (popK K39a_7))
noncomputable def K39a_9 : List Item := adv 9 [false] K39a_6
noncomputable def K39a_10 : List Item := adv 6 [] K39a_9
noncomputable def K39a_11 : List Item := adv 7 [true] K39a_10
noncomputable def K39a_12 : List Item := adv 1 [] K39a_11
noncomputable def K39a_13 : List Item := adv 1 [] K39a_12
noncomputable def K39a_14 : List Item := adv 1 [] (popK (popK K39a_13))
noncomputable def K39a_15 : List Item := adv 5 [] (popK K39a_14)
noncomputable def K39a_16 : List Item := adv 6 [false] K39a_10
noncomputable def K39a_17 : List Item := adv 1 [] K39a_16
noncomputable def K39a_18 : List Item := adv 1 [] (popK (popK K39a_17))
noncomputable def K39a_19 : List Item := adv 2 [] (popK K39a_18)
set_option maxRecDepth 20000 in
set_option maxHeartbeats 20000000 in
theorem rnum_any (n0 : Int) (w : World) (hn : -1000000000000000 ≤ n0 ∧ n0 ≤ 1000000000000000) : Ret Tryd.prog 39 #[iv n0] w (fun v w' => v = .string (itoaB n0) ∧ Sep w [] w') := by
 have S0 := Sep.refl w
 refine Ret.named fun R hR => ?_
 refine Ret.of_J (N := 41) [(0, iv n0)] Tryd.func39 rfl rfl (Nat.le_of_ble_eq_true (by kernel_rfl)) (by kernel_rfl) ?_
 refine J.run 10 K39a_0 [(5, .bool (decide (n0 < (-9)))), (0, iv n0)] w (by kernel_rfl) ?_
 by_cases fk1 : n0 < (-9)
 ·skip
  refine J.head (.bool true) (congrArg Value.bool (decide_eq_true fk1)) ?_
  refine J.run 5 K39a_1 [(7, iv (IntKind.wrap .i64 (Int.tdiv n0 10))), (0, iv n0)] w (by kernel_rfl) ?_
  refine J.head (iv (-(-n0 / 10))) (congrArg (Value.int .i64) (tdiv10 (by omega) (by omega))) ?_
  refine J.run 1 K39a_2 [(8, iv (IntKind.wrap .i64 (0 - (-(-n0 / 10))))), (0, iv n0)] w (by kernel_rfl) ?_
  refine J.head (iv (0 - (-(-n0 / 10)))) (congrArg (Value.int .i64) (IntWalk.i64_in _ (by omega))) ?_
  refine J.callF 9 39 #[iv (0 - (-(-n0 / 10)))] hb39 (by kernel_rfl) (rnump_any (0 - (-(-n0 / 10))) _ (by omega)) ?_
  rintro _ w1 ⟨rfl, T1⟩
  have S1 : Sep w [] w1 := S0.trans T1
  clear T1
  have := itoaB_size (n := (0 - (-(-n0 / 10)))) (by omega)
  refine J.ok (OK.cat 10 (⟨#[45]⟩ : ByteArray) (itoaB (0 - (-(-n0 / 10)))) ((⟨#[45]⟩ : ByteArray) ++ (itoaB (0 - (-(-n0 / 10))))) (by kernel_rfl) (by first | omega | (have := text_size (m0 := n0) ⟨by omega, by omega⟩ hd; (try simp only [ByteArray.size_append, bytesB_size, lit_size, List.size_toArray, List.length_cons, List.length_nil]); omega) | (simp only [ByteArray.size_append, lit_size, List.size_toArray, List.length_cons, List.length_nil]; omega)) (rfl)) ?_
  refine J.run 2 K39a_3 [(12, iv (Int.tmod n0 10)), (10, .string ((⟨#[45]⟩ : ByteArray) ++ (itoaB (0 - (-(-n0 / 10))))))] w1 (by kernel_rfl) ?_
  refine J.head (iv (-(-n0 % 10))) (congrArg (Value.int .i64) (tmod10 (by omega))) ?_
  refine J.run 1 K39a_4 [(13, iv (IntKind.wrap .i64 (0 - (-(-n0 % 10))))), (10, .string ((⟨#[45]⟩ : ByteArray) ++ (itoaB (0 - (-(-n0 / 10))))))] w1 (by kernel_rfl) ?_
  refine J.head (iv (0 - (-(-n0 % 10)))) (congrArg (Value.int .i64) (IntWalk.i64_in _ (by omega))) ?_
  refine J.callF 14 39 #[iv (0 - (-(-n0 % 10)))] hb39 (by kernel_rfl) (rnump_any (0 - (-(-n0 % 10))) _ (by omega)) ?_
  rintro _ w2 ⟨rfl, T2⟩
  have S2 : Sep w [] w2 := S1.trans T2
  clear T2 S1
  have := itoaB_size (n := (0 - (-(-n0 % 10)))) (by omega)
  refine J.ok (OK.cat 15 ((⟨#[45]⟩ : ByteArray) ++ (itoaB (0 - (-(-n0 / 10))))) (itoaB (0 - (-(-n0 % 10)))) (((⟨#[45]⟩ : ByteArray) ++ (itoaB (0 - (-(-n0 / 10))))) ++ (itoaB (0 - (-(-n0 % 10))))) (by kernel_rfl) (by first | omega | (have := text_size (m0 := n0) ⟨by omega, by omega⟩ hd; (try simp only [ByteArray.size_append, bytesB_size, lit_size, List.size_toArray, List.length_cons, List.length_nil]); omega) | (simp only [ByteArray.size_append, lit_size, List.size_toArray, List.length_cons, List.length_nil]; omega)) (rfl)) ?_
  refine J.run 2 K39a_5 [(2, .string (((⟨#[45]⟩ : ByteArray) ++ (itoaB (0 - (-(-n0 / 10))))) ++ (itoaB (0 - (-(-n0 % 10))))))] w2 (by kernel_rfl) ?_
  refine J.ret Tryd.f39 [.string (((⟨#[45]⟩ : ByteArray) ++ (itoaB (0 - (-(-n0 / 10))))) ++ (itoaB (0 - (-(-n0 % 10)))))] Tryd.func39 ⟨by kernel_rfl, trivial⟩ ?_
  refine hR _ _ ?_
  exact ⟨congrArg Value.string (rn_split (by omega)), S2.nil⟩
 ·skip
  refine J.head (.bool false) (congrArg Value.bool (decide_eq_false fk1)) ?_
  refine J.run 8 K39a_6 [(17, .bool (decide (n0 < 0))), (0, iv n0)] w (by kernel_rfl) ?_
  by_cases fk2 : n0 < 0
  ·skip
   refine J.head (.bool true) (congrArg Value.bool (decide_eq_true fk2)) ?_
   refine J.run 5 K39a_7 [(19, iv (IntKind.wrap .i64 (0 - n0)))] w (by kernel_rfl) ?_
   refine J.head (iv (0 - n0)) (congrArg (Value.int .i64) (IntWalk.i64_in _ (by omega))) ?_
   refine J.callF 20 39 #[iv (0 - n0)] hb39 (by kernel_rfl) (rnump_any (0 - n0) _ (by omega)) ?_
   rintro _ w3 ⟨rfl, T3⟩
   have S3 : Sep w [] w3 := S0.trans T3
   clear T3
   have := itoaB_size (n := (0 - n0)) (by omega)
   refine J.ok (OK.cat 21 (⟨#[45]⟩ : ByteArray) (itoaB (0 - n0)) ((⟨#[45]⟩ : ByteArray) ++ (itoaB (0 - n0))) (by kernel_rfl) (by first | omega | (have := text_size (m0 := n0) ⟨by omega, by omega⟩ hd; (try simp only [ByteArray.size_append, bytesB_size, lit_size, List.size_toArray, List.length_cons, List.length_nil]); omega) | (simp only [ByteArray.size_append, lit_size, List.size_toArray, List.length_cons, List.length_nil]; omega)) (rfl)) ?_
   refine J.run 2 K39a_8 [(2, .string ((⟨#[45]⟩ : ByteArray) ++ (itoaB (0 - n0))))] w3 (by kernel_rfl) ?_
   refine J.ret Tryd.f39 [.string ((⟨#[45]⟩ : ByteArray) ++ (itoaB (0 - n0)))] Tryd.func39 ⟨by kernel_rfl, trivial⟩ ?_
   refine hR _ _ ?_
   exact ⟨congrArg Value.string (rn_neg (by omega)), S3.nil⟩
  ·skip
   refine J.head (.bool false) (congrArg Value.bool (decide_eq_false fk2)) ?_
   refine J.run 9 K39a_9 [(3, .string ByteArray.empty), (0, iv n0)] w (by kernel_rfl) ?_
   have L39_1 : ∀ (mm_ : Nat) (n : Int) (s : ByteArray) (w4 : World), (0 ≤ n ∧ n ≤ n0) → (Lib.decDigits n0.toNat = Lib.decDigits (n).toNat ++ ls s) → Sep w [] w4 → (n).toNat = mm_ → J Tryd.prog 39 41 R K39a_9 [(3, .string s), (0, iv n)] w4 := by
    intro mm1
    induction mm1 using Nat.strongRecOn with
    | _ mm1 ih1 =>
    intro n s w4 hm hd S4 hm1
    refine J.run 6 K39a_10 [(23, .bool (decide (n > 9))), (3, .string s), (0, iv n)] w4 (by kernel_rfl) ?_
    by_cases fk3 : n > 9
    ·skip
     refine J.head (.bool true) (congrArg Value.bool (decide_eq_true fk3)) ?_
     refine J.run 7 K39a_11 [(25, iv (Int.tmod n 10)), (3, .string s), (0, iv n)] w4 (by kernel_rfl) ?_
     refine J.head (iv (n % 10)) (congrArg (Value.int .i64) (IntWalk.rem_in _ _ (by omega))) ?_
     refine J.run 1 K39a_12 [(26, iv (IntKind.wrap .i64 (48 + (n % 10)))), (3, .string s), (0, iv n)] w4 (by kernel_rfl) ?_
     refine J.head (iv (48 + (n % 10))) (congrArg (Value.int .i64) (IntWalk.i64_in _ (by omega))) ?_
     refine J.run 1 K39a_13 [(27, .int .u8 (IntKind.wrap .u8 (48 + (n % 10)))), (3, .string s), (0, iv n)] w4 (by kernel_rfl) ?_
     refine J.head (.int .u8 (48 + (n % 10))) (congrArg (Value.int .u8) (IntWalk.u8_in _ (by omega))) ?_
     refine J.newSlice S4 28 1 [.int .u8 (48 + (n % 10))] 5 (by kernel_rfl) ?_
     intro b1 w5 S5
     refine J.ok (OK.bytes 29 45 9 (some ⟨b1, 0, none⟩) 1 1 ([(48 + (n % 10))]) (by kernel_rfl) (by kernel_rfl) ⟨rfl, box_cells (S5.nth 0 rfl)⟩ (fun p hp => by cases hp; rfl)) ?_
     refine J.run 1 K39a_14 [(30, .string s), (29, .string (bytesB ([(48 + (n % 10))]))), (0, iv n)] w5 (by kernel_rfl) ?_
     refine J.ok (OK.cat 31 (bytesB ([(48 + (n % 10))])) s ((bytesB ([(48 + (n % 10))])) ++ s) (by kernel_rfl) (by first | omega | (have := text_size (m0 := n0) ⟨by omega, by omega⟩ hd; (try simp only [ByteArray.size_append, bytesB_size, lit_size, List.size_toArray, List.length_cons, List.length_nil]); omega) | (simp only [ByteArray.size_append, lit_size, List.size_toArray, List.length_cons, List.length_nil]; omega)) (rfl)) ?_
     refine J.run 5 K39a_15 [(33, iv (IntKind.wrap .i64 (Int.tdiv n 10))), (3, .string ((bytesB ([(48 + (n % 10))])) ++ s))] w5 (by kernel_rfl) ?_
     refine J.head (iv (n / 10)) (congrArg (Value.int .i64) (IntWalk.i64_quo _ _ (by omega))) ?_
     refine J.run 4 K39a_9 [(0, iv (n / 10)), (3, .string ((bytesB ([(48 + (n % 10))])) ++ s))] w5 (by kernel_rfl) ?_
     have S6 : Sep w [] w5 := S5.erase 0
     clear S5
     refine J.run 0 K39a_9 [(3, .string ((bytesB ([(48 + (n % 10))])) ++ s)), (0, iv (n / 10))] w5 (by kernel_rfl) ?_
     exact ih1 _ (show ((n / 10)).toNat < mm1 from by omega) (n / 10) ((bytesB ([(48 + (n % 10))])) ++ s) w5 (by omega) (hd.trans (rn_round (by omega) s)) S6 rfl
    ·skip
     refine J.head (.bool false) (congrArg Value.bool (decide_eq_false fk3)) ?_
     refine J.run 6 K39a_16 [(35, iv (IntKind.wrap .i64 (48 + n))), (3, .string s)] w4 (by kernel_rfl) ?_
     refine J.head (iv (48 + n)) (congrArg (Value.int .i64) (IntWalk.i64_in _ (by omega))) ?_
     refine J.run 1 K39a_17 [(36, .int .u8 (IntKind.wrap .u8 (48 + n))), (3, .string s)] w4 (by kernel_rfl) ?_
     refine J.head (.int .u8 (48 + n)) (congrArg (Value.int .u8) (IntWalk.u8_in _ (by omega))) ?_
     refine J.newSlice S4 37 1 [.int .u8 (48 + n)] 5 (by kernel_rfl) ?_
     intro b2 w6 S7
     refine J.ok (OK.bytes 38 45 9 (some ⟨b2, 0, none⟩) 1 1 ([(48 + n)]) (by kernel_rfl) (by kernel_rfl) ⟨rfl, box_cells (S7.nth 0 rfl)⟩ (fun p hp => by cases hp; rfl)) ?_
     refine J.run 1 K39a_18 [(39, .string s), (38, .string (bytesB ([(48 + n)])))] w6 (by kernel_rfl) ?_
     refine J.ok (OK.cat 40 (bytesB ([(48 + n)])) s ((bytesB ([(48 + n)])) ++ s) (by kernel_rfl) (by first | omega | (have := text_size (m0 := n0) ⟨by omega, by omega⟩ hd; (try simp only [ByteArray.size_append, bytesB_size, lit_size, List.size_toArray, List.length_cons, List.length_nil]); omega) | (simp only [ByteArray.size_append, lit_size, List.size_toArray, List.length_cons, List.length_nil]; omega)) (rfl)) ?_
     refine J.run 2 K39a_19 [(2, .string ((bytesB ([(48 + n)])) ++ s))] w6 (by kernel_rfl) ?_
     refine J.ret Tryd.f39 [.string ((bytesB ([(48 + n)])) ++ s)] Tryd.func39 ⟨by kernel_rfl, trivial⟩ ?_
     refine hR _ _ ?_
     exact ⟨congrArg Value.string (rn_last (by omega) (by omega) (by omega) hd), S7.nil⟩
   exact L39_1 _ n0 (ByteArray.empty : ByteArray) w (by omega) (text_first) S0 rfl

theorem hb21 : HasBody Tryd.prog 21 := fun _ _ => by kernel_rfl
noncomputable def K21_0 : List Item := adv 15 [] (bodyOf Tryd.f21)
noncomputable def K21_1 : List Item := adv 8 [] K21_0
noncomputable def K21_2 : List Item := adv 8 [true] K21_1
noncomputable def K21_3 : List Item := adv 1 [] (popK (popK (popK (popK K21_2))))
noncomputable def K21_4 : List Item := adv 4 [] (rRest K21_3)
noncomputable def K21_5 : List Item := adv 7 [false] K21_1
set_option maxRecDepth 20000 in
set_option maxHeartbeats 20000000 in
theorem rtext28_any (a : Option Addr) (n c : Nat) (l : List Dr) (w : World) (hl : Recs drE 5 w a n l) (hv : validD l = true) : Ret Tryd.prog 21 #[.slice a n c] w (fun v w' => v = .string (linesD l l.length) ∧ Sep w [] w') := by
 have S0 := Sep.refl w
 refine Ret.named fun R hR => ?_
 refine Ret.of_J (N := 44) [(0, .slice a n c)] Tryd.func21 rfl rfl (Nat.le_of_ble_eq_true (by kernel_rfl)) (by kernel_rfl) ?_
 have hll := hl.len_eq
 have hvl := (valid_iff.1 hv).1
 refine J.run 15 K21_0 [(4, iv 0), (3, .string ByteArray.empty), (0, .slice a n c)] w (by kernel_rfl) ?_
 have L21_1 : ∀ (mm_ : Nat) (t : ByteArray) (i : Int) (w1 : World), (0 ≤ i) → (i ≤ (n : Int)) → (t = linesD l (i).toNat) → Sep w [] w1 → ((n : Int) - i).toNat = mm_ → J Tryd.prog 21 44 R K21_0 [(4, iv i), (3, .string t), (0, .slice a n c)] w1 := by
  intro mm1
  induction mm1 using Nat.strongRecOn with
  | _ mm1 ih1 =>
  intro t i w1 h0 h1 ht S1 hm1
  refine J.run 8 K21_1 [(9, .bool (decide (i < (n : Int)))), (4, iv i), (3, .string t), (0, .slice a n c)] w1 (by kernel_rfl) ?_
  by_cases fk1 : i < (n : Int)
  ·skip
   refine J.head (.bool true) (congrArg Value.bool (decide_eq_true fk1)) ?_
   have hga := val_at hv (j := i.toNat) (by omega)
   have hts := text_room hv i.toNat (by omega)
   rw [← ht] at hts
   obtain ⟨hz0, hz1, hz2, hz3, hz4⟩ := num_sizes hga
   refine J.run 8 K21_2 [(13, iv i), (12, .slice a n c), (4, iv i), (3, .string t), (0, .slice a n c)] w1 (by kernel_rfl) ?_
   obtain ⟨p1, hp1, hc1⟩ := hl.at dr0 (i).toNat (by omega)
   refine J.ok (OK.index 14 22 5 a p1 n (i).toNat i (p1.add ((i).toNat * 5)) (by kernel_rfl) (by kernel_rfl) hp1 (by omega) (by omega) rfl) ?_
   refine J.ok (OK.ldCells 15 27 (p1.add ((i).toNat * 5)) [iv ((l.getD (i).toNat dr0).gAt), iv ((l.getD (i).toNat dr0).gPedal), iv ((l.getD (i).toNat dr0).gBrake), iv ((l.getD (i).toNat dr0).gGear), iv ((l.getD (i).toNat dr0).gLoad)] (by kernel_rfl) (by kernel_rfl) (by kernel_rfl) (fun j_ v_ hj_ => S1.cell (hc1 j_ v_ hj_))) ?_
   refine J.new S1 5 [iv 0, iv 0, iv 0, iv 0, iv 0] 27 (by kernel_rfl) ?_
   intro b1 w2 S2
   refine J.stBox S2 0 27 0 (.agg #[iv ((l.getD (i).toNat dr0).gAt), iv ((l.getD (i).toNat dr0).gPedal), iv ((l.getD (i).toNat dr0).gBrake), iv ((l.getD (i).toNat dr0).gGear), iv ((l.getD (i).toNat dr0).gLoad)]) [iv ((l.getD (i).toNat dr0).gAt), iv ((l.getD (i).toNat dr0).gPedal), iv ((l.getD (i).toNat dr0).gBrake), iv ((l.getD (i).toNat dr0).gGear), iv ((l.getD (i).toNat dr0).gLoad)] [box b1 [iv ((l.getD (i).toNat dr0).gAt), iv ((l.getD (i).toNat dr0).gPedal), iv ((l.getD (i).toNat dr0).gBrake), iv ((l.getD (i).toNat dr0).gGear), iv ((l.getD (i).toNat dr0).gLoad)] 27] (by kernel_rfl) rfl (by kernel_rfl) (by kernel_rfl) rfl ?_
   intro w3 S3
   refine J.run 1 K21_3 [(5, .pointer (some ⟨b1, 0, none⟩)), (4, iv i), (3, .string t), (0, .slice a n c)] w3 (by kernel_rfl) ?_
   refine J.drawPlan (fun w_ => Sep w [box b1 [iv ((l.getD (i).toNat dr0).gAt), iv ((l.getD (i).toNat dr0).gPedal), iv ((l.getD (i).toNat dr0).gBrake), iv ((l.getD (i).toNat dr0).gGear), iv ((l.getD (i).toNat dr0).gLoad)] 27] w_) [(0, true), (1, true), (2, true), (3, true), (7, true), (8, true), (12, true), (13, true), (17, true), (18, true), (22, true), (23, true), (4, false), (5, true), (6, true), (9, false), (10, true), (11, true), (14, false), (15, true), (16, true), (19, false), (20, true), (21, true), (24, false), (25, true), (26, true), (27, true)] S3 Tryd.mixed (by kernel_rfl) (planOK_of (T := [(0, some 16, 8), (1, some 17, 65536), (0, some 18, 32), (4, some 19, 262144), (8, some 20, 524288), (18, some 21, 1179648), (32, some 22, 2097152), (0, some 23, 32), (128, some 24, 8388608), (272, some 25, 16777216), (576, some 26, 37748736), (1024, some 27, 67108864), (0, some 28, 32), (4096, some 29, 268435456), (8704, some 30, 536870912), (18432, some 31, 1207959552), (32768, some 32, 2147483648), (0, some 33, 32), (131072, some 34, 8589934592), (278528, some 35, 17179869184), (589824, some 36, 38654705664), (1048576, some 37, 68719476736), (0, some 38, 32), (4194304, some 39, 274877906944), (8912896, some 40, 549755813888), (18874368, some 41, 1236950581248), (33554432, some 42, 2199023255552), (134217727, some 3, 4398046511104)]) (by kernel_rfl) (by kernel_rfl)) ?_
   intro w4 S4
   refine PB.mk S4 ?_
   refine PL.take 0 16 (.string t) (fun _ _ => by kernel_rfl) ?_
   obtain ⟨tt1, htt1⟩ : ∃ y : ByteArray, y = t ++ (⟨#[97, 116, 32]⟩ : ByteArray) := ⟨_, rfl⟩
   have hstt1 : tt1.size = t.size + 3 := by rw [htt1]; exact size_app _ _
   refine PL.takeOK 1 (fun w_ S_ => OK.cat 17 t (⟨#[97, 116, 32]⟩ : ByteArray) tt1 (by kernel_rfl) (by rw [← size_app, ← htt1]; clear hga; omega) (htt1.symm)) rfl ?_
   refine PL.take 2 18 (.pointer (some ⟨b1, 0, none⟩)) (fun _ _ => by kernel_rfl) ?_
   refine PL.takeOK 3 (fun w_ S_ => OK.ldBox S_ 0 19 3 0 (iv ((l.getD (i).toNat dr0).gAt)) (by kernel_rfl) rfl (by kernel_rfl)) rfl ?_
   refine PL.take 7 23 (.pointer (some ⟨b1, 1, none⟩)) (fun _ _ => by kernel_rfl) ?_
   refine PL.takeOK 8 (fun w_ S_ => OK.ldBox S_ 0 24 3 1 (iv ((l.getD (i).toNat dr0).gPedal)) (by kernel_rfl) rfl (by kernel_rfl)) rfl ?_
   refine PL.take 12 28 (.pointer (some ⟨b1, 2, none⟩)) (fun _ _ => by kernel_rfl) ?_
   refine PL.takeOK 13 (fun w_ S_ => OK.ldBox S_ 0 29 3 2 (iv ((l.getD (i).toNat dr0).gBrake)) (by kernel_rfl) rfl (by kernel_rfl)) rfl ?_
   refine PL.take 17 33 (.pointer (some ⟨b1, 3, none⟩)) (fun _ _ => by kernel_rfl) ?_
   refine PL.takeOK 18 (fun w_ S_ => OK.ldBox S_ 0 34 3 3 (iv ((l.getD (i).toNat dr0).gGear)) (by kernel_rfl) rfl (by kernel_rfl)) rfl ?_
   refine PL.take 22 38 (.pointer (some ⟨b1, 4, none⟩)) (fun _ _ => by kernel_rfl) ?_
   refine PL.takeOK 23 (fun w_ S_ => OK.ldBox S_ 0 39 3 4 (iv ((l.getD (i).toNat dr0).gLoad)) (by kernel_rfl) rfl (by kernel_rfl)) rfl ?_
   refine PL.callF 20 39 #[iv ((l.getD (i).toNat dr0).gAt)] hb39 (by kernel_rfl) (rnum_any ((l.getD (i).toNat dr0).gAt) _ (by omega)) ?_
   rintro _ w5 ⟨rfl, T1⟩
   have S5 : Sep w [box b1 [iv ((l.getD (i).toNat dr0).gAt), iv ((l.getD (i).toNat dr0).gPedal), iv ((l.getD (i).toNat dr0).gBrake), iv ((l.getD (i).toNat dr0).gGear), iv ((l.getD (i).toNat dr0).gLoad)] 27] w5 := S4.trans T1
   clear T1 S4
   have := itoaB_size (n := ((l.getD (i).toNat dr0).gAt)) (by omega)
   refine PB.mk S5 ?_
   obtain ⟨tt2, htt2⟩ : ∃ y : ByteArray, y = tt1 ++ (itoaB ((l.getD (i).toNat dr0).gAt)) := ⟨_, rfl⟩
   have hstt2 : tt2.size = tt1.size + (itoaB ((l.getD (i).toNat dr0).gAt)).size := by rw [htt2]; exact size_app _ _
   refine PL.takeOK 5 (fun w_ S_ => OK.cat 21 tt1 (itoaB ((l.getD (i).toNat dr0).gAt)) tt2 (by kernel_rfl) (by rw [← size_app, ← htt2]; clear hga; omega) (htt2.symm)) rfl ?_
   obtain ⟨tt3, htt3⟩ : ∃ y : ByteArray, y = tt2 ++ (⟨#[32, 112, 101, 100, 97, 108, 32]⟩ : ByteArray) := ⟨_, rfl⟩
   have hstt3 : tt3.size = tt2.size + 7 := by rw [htt3]; exact size_app _ _
   refine PL.takeOK 6 (fun w_ S_ => OK.cat 22 tt2 (⟨#[32, 112, 101, 100, 97, 108, 32]⟩ : ByteArray) tt3 (by kernel_rfl) (by rw [← size_app, ← htt3]; clear hga; omega) (htt3.symm)) rfl ?_
   refine PL.callF 25 39 #[iv ((l.getD (i).toNat dr0).gPedal)] hb39 (by kernel_rfl) (rnum_any ((l.getD (i).toNat dr0).gPedal) _ (by omega)) ?_
   rintro _ w6 ⟨rfl, T2⟩
   have S6 : Sep w [box b1 [iv ((l.getD (i).toNat dr0).gAt), iv ((l.getD (i).toNat dr0).gPedal), iv ((l.getD (i).toNat dr0).gBrake), iv ((l.getD (i).toNat dr0).gGear), iv ((l.getD (i).toNat dr0).gLoad)] 27] w6 := S5.trans T2
   clear T2 S5
   have := itoaB_size (n := ((l.getD (i).toNat dr0).gPedal)) (by omega)
   refine PB.mk S6 ?_
   obtain ⟨tt4, htt4⟩ : ∃ y : ByteArray, y = tt3 ++ (itoaB ((l.getD (i).toNat dr0).gPedal)) := ⟨_, rfl⟩
   have hstt4 : tt4.size = tt3.size + (itoaB ((l.getD (i).toNat dr0).gPedal)).size := by rw [htt4]; exact size_app _ _
   refine PL.takeOK 10 (fun w_ S_ => OK.cat 26 tt3 (itoaB ((l.getD (i).toNat dr0).gPedal)) tt4 (by kernel_rfl) (by rw [← size_app, ← htt4]; clear hga; omega) (htt4.symm)) rfl ?_
   obtain ⟨tt5, htt5⟩ : ∃ y : ByteArray, y = tt4 ++ (⟨#[32, 98, 114, 97, 107, 101, 32]⟩ : ByteArray) := ⟨_, rfl⟩
   have hstt5 : tt5.size = tt4.size + 7 := by rw [htt5]; exact size_app _ _
   refine PL.takeOK 11 (fun w_ S_ => OK.cat 27 tt4 (⟨#[32, 98, 114, 97, 107, 101, 32]⟩ : ByteArray) tt5 (by kernel_rfl) (by rw [← size_app, ← htt5]; clear hga; omega) (htt5.symm)) rfl ?_
   refine PL.callF 30 39 #[iv ((l.getD (i).toNat dr0).gBrake)] hb39 (by kernel_rfl) (rnum_any ((l.getD (i).toNat dr0).gBrake) _ (by omega)) ?_
   rintro _ w7 ⟨rfl, T3⟩
   have S7 : Sep w [box b1 [iv ((l.getD (i).toNat dr0).gAt), iv ((l.getD (i).toNat dr0).gPedal), iv ((l.getD (i).toNat dr0).gBrake), iv ((l.getD (i).toNat dr0).gGear), iv ((l.getD (i).toNat dr0).gLoad)] 27] w7 := S6.trans T3
   clear T3 S6
   have := itoaB_size (n := ((l.getD (i).toNat dr0).gBrake)) (by omega)
   refine PB.mk S7 ?_
   obtain ⟨tt6, htt6⟩ : ∃ y : ByteArray, y = tt5 ++ (itoaB ((l.getD (i).toNat dr0).gBrake)) := ⟨_, rfl⟩
   have hstt6 : tt6.size = tt5.size + (itoaB ((l.getD (i).toNat dr0).gBrake)).size := by rw [htt6]; exact size_app _ _
   refine PL.takeOK 15 (fun w_ S_ => OK.cat 31 tt5 (itoaB ((l.getD (i).toNat dr0).gBrake)) tt6 (by kernel_rfl) (by rw [← size_app, ← htt6]; clear hga; omega) (htt6.symm)) rfl ?_
   obtain ⟨tt7, htt7⟩ : ∃ y : ByteArray, y = tt6 ++ (⟨#[32, 103, 101, 97, 114, 32]⟩ : ByteArray) := ⟨_, rfl⟩
   have hstt7 : tt7.size = tt6.size + 6 := by rw [htt7]; exact size_app _ _
   refine PL.takeOK 16 (fun w_ S_ => OK.cat 32 tt6 (⟨#[32, 103, 101, 97, 114, 32]⟩ : ByteArray) tt7 (by kernel_rfl) (by rw [← size_app, ← htt7]; clear hga; omega) (htt7.symm)) rfl ?_
   refine PL.callF 35 39 #[iv ((l.getD (i).toNat dr0).gGear)] hb39 (by kernel_rfl) (rnum_any ((l.getD (i).toNat dr0).gGear) _ (by omega)) ?_
   rintro _ w8 ⟨rfl, T4⟩
   have S8 : Sep w [box b1 [iv ((l.getD (i).toNat dr0).gAt), iv ((l.getD (i).toNat dr0).gPedal), iv ((l.getD (i).toNat dr0).gBrake), iv ((l.getD (i).toNat dr0).gGear), iv ((l.getD (i).toNat dr0).gLoad)] 27] w8 := S7.trans T4
   clear T4 S7
   have := itoaB_size (n := ((l.getD (i).toNat dr0).gGear)) (by omega)
   refine PB.mk S8 ?_
   obtain ⟨tt8, htt8⟩ : ∃ y : ByteArray, y = tt7 ++ (itoaB ((l.getD (i).toNat dr0).gGear)) := ⟨_, rfl⟩
   have hstt8 : tt8.size = tt7.size + (itoaB ((l.getD (i).toNat dr0).gGear)).size := by rw [htt8]; exact size_app _ _
   refine PL.takeOK 20 (fun w_ S_ => OK.cat 36 tt7 (itoaB ((l.getD (i).toNat dr0).gGear)) tt8 (by kernel_rfl) (by rw [← size_app, ← htt8]; clear hga; omega) (htt8.symm)) rfl ?_
   obtain ⟨tt9, htt9⟩ : ∃ y : ByteArray, y = tt8 ++ (⟨#[32, 108, 111, 97, 100, 32]⟩ : ByteArray) := ⟨_, rfl⟩
   have hstt9 : tt9.size = tt8.size + 6 := by rw [htt9]; exact size_app _ _
   refine PL.takeOK 21 (fun w_ S_ => OK.cat 37 tt8 (⟨#[32, 108, 111, 97, 100, 32]⟩ : ByteArray) tt9 (by kernel_rfl) (by rw [← size_app, ← htt9]; clear hga; omega) (htt9.symm)) rfl ?_
   refine PL.callF 40 39 #[iv ((l.getD (i).toNat dr0).gLoad)] hb39 (by kernel_rfl) (rnum_any ((l.getD (i).toNat dr0).gLoad) _ (by omega)) ?_
   rintro _ w9 ⟨rfl, T5⟩
   have S9 : Sep w [box b1 [iv ((l.getD (i).toNat dr0).gAt), iv ((l.getD (i).toNat dr0).gPedal), iv ((l.getD (i).toNat dr0).gBrake), iv ((l.getD (i).toNat dr0).gGear), iv ((l.getD (i).toNat dr0).gLoad)] 27] w9 := S8.trans T5
   clear T5 S8
   have := itoaB_size (n := ((l.getD (i).toNat dr0).gLoad)) (by omega)
   refine PB.mk S9 ?_
   obtain ⟨tt10, htt10⟩ : ∃ y : ByteArray, y = tt9 ++ (itoaB ((l.getD (i).toNat dr0).gLoad)) := ⟨_, rfl⟩
   have hstt10 : tt10.size = tt9.size + (itoaB ((l.getD (i).toNat dr0).gLoad)).size := by rw [htt10]; exact size_app _ _
   refine PL.takeOK 25 (fun w_ S_ => OK.cat 41 tt9 (itoaB ((l.getD (i).toNat dr0).gLoad)) tt10 (by kernel_rfl) (by rw [← size_app, ← htt10]; clear hga; omega) (htt10.symm)) rfl ?_
   obtain ⟨tt11, htt11⟩ : ∃ y : ByteArray, y = tt10 ++ (⟨#[10]⟩ : ByteArray) := ⟨_, rfl⟩
   have hstt11 : tt11.size = tt10.size + 1 := by rw [htt11]; exact size_app _ _
   refine PL.takeOK 26 (fun w_ S_ => OK.cat 42 tt10 (⟨#[10]⟩ : ByteArray) tt11 (by kernel_rfl) (by rw [← size_app, ← htt11]; clear hga; omega) (htt11.symm)) rfl ?_
   refine PL.take 27 3 (.string tt11) (fun _ _ => by kernel_rfl) ?_
   refine PL.done ?_
   refine J.run 0 (rRest K21_3) [(3, .string tt11), (4, iv i), (0, .slice a n c)] w9 (by kernel_rfl) ?_
   refine J.run 4 K21_4 [(11, iv (IntKind.wrap .i64 (i + 1))), (3, .string tt11), (0, .slice a n c)] w9 (by kernel_rfl) ?_
   refine J.head (iv (i + 1)) (congrArg (Value.int .i64) (IntWalk.i64_in _ (by omega))) ?_
   refine J.run 3 K21_0 [(4, iv (i + 1)), (3, .string tt11), (0, .slice a n c)] w9 (by kernel_rfl) ?_
   have S10 : Sep w [] w9 := S9.erase 0
   clear S9
   refine J.run 0 K21_0 [(4, iv (i + 1)), (3, .string tt11), (0, .slice a n c)] w9 (by kernel_rfl) ?_
   exact ih1 _ (show ((n : Int) - (i + 1)).toNat < mm1 from by omega) tt11 (i + 1) w9 (by omega) (by omega) (by rw [lines_succ h0 ht, ← rline_eq]; unfold rlineD; rw [htt11, htt10, htt9, htt8, htt7, htt6, htt5, htt4, htt3, htt2, htt1]) S10 rfl
  ·skip
   refine J.head (.bool false) (congrArg Value.bool (decide_eq_false fk1)) ?_
   refine J.run 7 K21_5 [(2, .string t)] w1 (by kernel_rfl) ?_
   refine J.ret Tryd.f21 [.string t] Tryd.func21 ⟨by kernel_rfl, trivial⟩ ?_
   refine hR _ _ ?_
   exact ⟨by rw [ht, show i.toNat = l.length by omega]; rfl, S1.nil⟩
 exact L21_1 _ (ByteArray.empty : ByteArray) 0 w (by omega) (by omega) (rfl) S0 rfl

end Go.Proofs.YthhdaackhfffiaaDoor

