/- Walks of functions of this seat, printed by a program over the engine. Conditions: as each theorem says. -/
import Derived.Test.YtbbpgidmadlgmaaZdC1
namespace Go.Proofs.Ytbbpgidmadlgmaa
noncomputable section
open Go.Eng Go.RowKit
set_option linter.unusedSimpArgs false
set_option linter.unusedVariables false
theorem hb34 : HasBody Try.prog 34 := fun _ _ => by kernel_rfl
def K34_0 := adv 2 [] (bodyOf Try.f34)
def K34_1 := adv 7 [] (popK K34_0)
def K34_2 := adv 2 [] K34_1
def K34_3 := adv 1 [] (popK K34_2)
def K34_4 := adv 4 [] (popK K34_3)
def K34_5 := adv 9 [] K34_1
set_option maxRecDepth 20000 in
set_option maxHeartbeats 20000000 in
theorem inside_any (c : Cht) (x : Int) (w : World) (hc : chtQ w c) (hn : c.gInputs_n ≤ 12) : Ret Try.prog 34 #[.agg #[.slice c.gStates_a c.gStates_n c.gStates_c, .slice c.gInputs_a c.gInputs_n c.gInputs_c, .int .i64 c.gStart, .slice c.gMoves_a c.gMoves_n c.gMoves_c], .int .i64 x] w (fun v w' => v = .bool (insideB c x) ∧ Sep w [] w') := by
 have S0 := Sep.refl w
 refine Ret.named fun R hR => ?_
 refine Ret.of_J (N := 15) [(0, .agg #[.slice c.gStates_a c.gStates_n c.gStates_c, .slice c.gInputs_a c.gInputs_n c.gInputs_c, .int .i64 c.gStart, .slice c.gMoves_a c.gMoves_n c.gMoves_c]), (1, .int .i64 x)] Try.func34 rfl rfl (Nat.le_of_ble_eq_true (by kernel_rfl)) (by kernel_rfl) ?_
 obtain ⟨q1, q2, q3, q4, q5, q6, q7, q8, q9, q10, _⟩ := id hc
 have ql1 := q2.len_eq
 have ql2 := q5.len_eq
 have ql3 := q9.len_eq
 refine J.run 2 K34_0 [(0, .agg #[.slice c.gStates_a c.gStates_n c.gStates_c, .slice c.gInputs_a c.gInputs_n c.gInputs_c, .int .i64 c.gStart, .slice c.gMoves_a c.gMoves_n c.gMoves_c]), (1, .int .i64 x)] w (by kernel_rfl) ?_
 refine J.new S0 2 [.slice c.gStates_a c.gStates_n c.gStates_c, .slice c.gInputs_a c.gInputs_n c.gInputs_c, .int .i64 c.gStart, .slice c.gMoves_a c.gMoves_n c.gMoves_c] 25 (by kernel_rfl) ?_
 intro b1 w1 S1
 refine J.run 7 K34_1 [(7, .bool (decide (x ≥ 0))), (2, .pointer (some ⟨b1, 0, none⟩)), (1, .int .i64 x)] w1 (by kernel_rfl) ?_
 by_cases fk1 : x ≥ 0
 rotate_left
 ·skip
  refine J.head (.bool false) (congrArg Value.bool (decide_eq_false fk1)) ?_
  refine J.run 9 K34_5 [(4, .bool false)] w1 (by kernel_rfl) ?_
  refine J.ret Try.f34 [.bool false] Try.func34 ⟨by kernel_rfl, trivial⟩ ?_
  refine hR _ _ ?_
  exact ⟨by simp [insideB, tup_one, tup_two, tup_three, fk1, (decide_eq_false fk1)], S1.nil⟩
 refine J.head (.bool true) (congrArg Value.bool (decide_eq_true fk1)) ?_
 refine J.run 2 K34_2 [(9, .pointer (some ⟨b1, 1, none⟩)), (8, .int .i64 x), (7, .bool true)] w1 (by kernel_rfl) ?_
 refine J.ok (OK.ldBox S1 0 10 22 1 (.slice c.gInputs_a c.gInputs_n c.gInputs_c) (by kernel_rfl) rfl (by kernel_rfl)) ?_
 refine J.run 1 K34_3 [(11, .int .i64 (c.gInputs_n : Int)), (8, .int .i64 x), (7, .bool true)] w1 (by kernel_rfl) ?_
 have := pow10 (n := c.gInputs_n) (by omega)
 refine J.ok (OK.shl 12 .i64 1 (c.gInputs_n : Int) (2 ^ c.gInputs_n) (by kernel_rfl) (by omega) (shl_one rfl (by omega))) ?_
 refine J.run 4 K34_4 [(4, .bool (decide (x < (2 ^ c.gInputs_n))))] w1 (by kernel_rfl) ?_
 refine J.ret Try.f34 [.bool (decide (x < (2 ^ c.gInputs_n)))] Try.func34 ⟨by kernel_rfl, trivial⟩ ?_
 refine hR _ _ ?_
 exact ⟨by simp [insideB, tup_one, tup_two, tup_three, fk1, (decide_eq_true fk1)], S1.nil⟩

theorem hb33 : HasBody Try.prog 33 := fun _ _ => by kernel_rfl
def K33_0 := adv 6 [] (bodyOf Try.f33)
def K33_1 := adv 1 [] (popK K33_0)
def K33_2 := adv 3 [] (popK K33_1)
set_option maxRecDepth 20000 in
set_option maxHeartbeats 20000000 in
theorem run1_any (c : Cht) (bx : Nat) (x : Int) (w : World) (hc : chtQ w c) (hn : c.gInputs_n ≤ 12) (hb1 : (box bx [.slice c.gStates_a c.gStates_n c.gStates_c, .slice c.gInputs_a c.gInputs_n c.gInputs_c, .int .i64 c.gStart, .slice c.gMoves_a c.gMoves_n c.gMoves_c] 25).holds w) : Ret Try.prog 33 #[.int .i64 x, .pointer (some ⟨bx, 0, none⟩)] w (fun v w' => v = .bool (!insideB c x) ∧ Sep w [] w') := by
 have S0 := Sep.refl w
 refine Ret.named fun R hR => ?_
 refine Ret.of_J (N := 8) [(0, .int .i64 x), (1, .pointer (some ⟨bx, 0, none⟩))] Try.func33 rfl rfl (Nat.le_of_ble_eq_true (by kernel_rfl)) (by kernel_rfl) ?_
 obtain ⟨q1, q2, q3, q4, q5, q6, q7, q8, q9, q10, _⟩ := id hc
 have ql1 := q2.len_eq
 have ql2 := q5.len_eq
 have ql3 := q9.len_eq
 refine J.run 6 K33_0 [(0, .int .i64 x), (1, .pointer (some ⟨bx, 0, none⟩))] w (by kernel_rfl) ?_
 refine J.ok (OK.ldRo S0 hb1 4 25 0 (.agg #[.slice c.gStates_a c.gStates_n c.gStates_c, .slice c.gInputs_a c.gInputs_n c.gInputs_c, .int .i64 c.gStart, .slice c.gMoves_a c.gMoves_n c.gMoves_c]) (by kernel_rfl) (by kernel_rfl)) ?_
 refine J.run 1 K33_1 [(5, .int .i64 x), (4, .agg #[.slice c.gStates_a c.gStates_n c.gStates_c, .slice c.gInputs_a c.gInputs_n c.gInputs_c, .int .i64 c.gStart, .slice c.gMoves_a c.gMoves_n c.gMoves_c])] w (by kernel_rfl) ?_
 refine J.callF 6 34 #[.agg #[.slice c.gStates_a c.gStates_n c.gStates_c, .slice c.gInputs_a c.gInputs_n c.gInputs_c, .int .i64 c.gStart, .slice c.gMoves_a c.gMoves_n c.gMoves_c], .int .i64 x] hb34 (by kernel_rfl) (inside_any c x _ (chtQ_sep hc S0) (by omega)) ?_
 rintro _ w1 ⟨rfl, T1⟩
 have S1 : Sep w [] w1 := S0.trans T1
 clear T1
 refine J.run 3 K33_2 [(3, .bool (!(insideB c x)))] w1 (by kernel_rfl) ?_
 refine J.ret Try.f33 [.bool (!(insideB c x))] Try.func33 ⟨by kernel_rfl, trivial⟩ ?_
 refine hR _ _ ?_
 exact ⟨rfl, S1.nil⟩

theorem hb43 : HasBody Try.prog 43 := fun _ _ => by kernel_rfl
def K43_0 := adv 13 [] (bodyOf Try.f43)
def K43_1 := adv 5 [] K43_0
def K43_2 := adv 14 [true] K43_1
def K43_3 := adv 1 [] (popK (popK (popK K43_2)))
def K43_4 := adv 6 [true] K43_3
def K43_5 := adv 5 [false] K43_3
def K43_6 := adv 6 [false] K43_1
set_option maxRecDepth 20000 in
set_option maxHeartbeats 20000000 in
theorem indexI1 (la : Option Addr) (len cap : Nat) (l : List Int) (g : FuncId) (c1 : Value) (q : Int → Bool) (w : World) (hI : Ones (Value.int .i64) w la len l) (hlen : len ≤ 9223372036854775807) (hbg : HasBody Try.prog g) (hcall : ∀ (i : Nat) (w2 : World), i < l.length → Sep w [] w2 → Ret Try.prog g #[.int .i64 (l.getD i 0), c1] w2 (fun v w3 => v = .bool (q (l.getD i 0)) ∧ Sep w2 [] w3)) : Ret Try.prog 43 #[.slice la len cap, .func (.func g) #[] #[c1]] w (fun v w' => v = .int .i64 (indexF q l) ∧ Sep w [] w') := by
 have S0 := Sep.refl w
 refine Ret.named fun R hR => ?_
 refine Ret.of_J (N := 19) [(0, .slice la len cap), (1, .func (.func g) #[] #[c1])] Try.func43 rfl rfl (Nat.le_of_ble_eq_true (by kernel_rfl)) (by kernel_rfl) ?_
 refine J.run 13 K43_0 [(8, .int .i64 0), (7, .int .i64 (len : Int)), (0, .slice la len cap), (1, .func (.func g) #[] #[c1])] w (by kernel_rfl) ?_
 have L43_1 : ∀ (mm_ : Nat) (i : Int) (w1 : World), (0 ≤ i) → (i ≤ (len : Int)) → (∀ j, j < (i).toNat → q (l.getD j 0) = false) → Sep w [] w1 → ((len : Int) - i).toNat = mm_ → J Try.prog 43 19 R K43_0 [(8, .int .i64 i), (7, .int .i64 (len : Int)), (0, .slice la len cap), (1, .func (.func g) #[] #[c1])] w1 := by
  intro mm1
  induction mm1 using Nat.strongRecOn with
  | _ mm1 ih1 =>
  intro i w1 h0 h1 hq S1 hm1
  refine J.run 5 K43_1 [(9, .bool (decide (i < (len : Int)))), (8, .int .i64 i), (7, .int .i64 (len : Int)), (0, .slice la len cap), (1, .func (.func g) #[] #[c1])] w1 (by kernel_rfl) ?_
  by_cases fk1 : i < (len : Int)
  rotate_left
  ·skip
   refine J.head (.bool false) (congrArg Value.bool (decide_eq_false fk1)) ?_
   refine J.run 6 K43_6 [(4, .int .i64 (-1))] w1 (by kernel_rfl) ?_
   refine J.ret Try.f43 [.int .i64 (-1)] Try.func43 ⟨by kernel_rfl, trivial⟩ ?_
   refine hR _ _ ?_
   exact ⟨by rw [tup_one, indexF_none 0 fun j hj => hq j (by have := hI.len_eq; omega)], S1.nil⟩
  refine J.head (.bool true) (congrArg Value.bool (decide_eq_true fk1)) ?_
  refine J.run 14 K43_2 [(13, .int .i64 i), (12, .slice la len cap), (11, .func (.func g) #[] #[c1]), (5, .int .i64 i), (8, .int .i64 i), (7, .int .i64 (len : Int)), (0, .slice la len cap), (1, .func (.func g) #[] #[c1])] w1 (by kernel_rfl) ?_
  obtain ⟨p1, hp1, hc1⟩ := hI.at 0 (i).toNat (by omega)
  refine J.ok (OK.index 14 26 1 la p1 len (i).toNat i (p1.add (i).toNat) (by kernel_rfl) (by kernel_rfl) hp1 (by omega) (by omega) (by rw [Nat.mul_one])) ?_
  refine J.ok (OK.ldCell 15 3 (p1.add (i).toNat) (.int .i64 (l.getD (i).toNat 0)) (by kernel_rfl) (by kernel_rfl) (S1.cell hc1)) ?_
  refine J.callF 16 g #[.int .i64 (l.getD (i).toNat 0), c1] hbg (by kernel_rfl) (hcall (i).toNat w1 (by have := hI.len_eq; omega) S1.nil) ?_
  rintro _ w2 ⟨rfl, T1⟩
  have S2 : Sep w [] w2 := S1.trans T1
  clear T1 S1
  refine J.run 1 K43_3 [(16, .bool (q (l.getD (i).toNat 0))), (5, .int .i64 i), (8, .int .i64 i), (7, .int .i64 (len : Int)), (0, .slice la len cap), (1, .func (.func g) #[] #[c1])] w2 (by kernel_rfl) ?_
  rcases Bool.eq_false_or_eq_true (q (l.getD (i).toNat 0)) with fk2 | fk2
  ·skip
   refine J.head (.bool true) (congrArg Value.bool fk2) ?_
   refine J.run 6 K43_4 [(4, .int .i64 i)] w2 (by kernel_rfl) ?_
   refine J.ret Try.f43 [.int .i64 i] Try.func43 ⟨by kernel_rfl, trivial⟩ ?_
   refine hR _ _ ?_
   exact ⟨by rw [tup_one, indexF_some 0 i.toNat (by have := hI.len_eq; omega) hq fk2, Int.toNat_of_nonneg h0], S2.nil⟩
  refine J.head (.bool false) (congrArg Value.bool fk2) ?_
  refine J.run 5 K43_5 [(18, .int .i64 (IntKind.wrap .i64 (i + 1))), (7, .int .i64 (len : Int)), (0, .slice la len cap), (1, .func (.func g) #[] #[c1])] w2 (by kernel_rfl) ?_
  refine J.head (.int .i64 (i + 1)) (congrArg (Value.int .i64) (IntWalk.i64_in _ (by omega))) ?_
  refine J.run 3 K43_0 [(8, .int .i64 (i + 1)), (7, .int .i64 (len : Int)), (0, .slice la len cap), (1, .func (.func g) #[] #[c1])] w2 (by kernel_rfl) ?_
  refine J.run 0 K43_0 [(8, .int .i64 (i + 1)), (7, .int .i64 (len : Int)), (0, .slice la len cap), (1, .func (.func g) #[] #[c1])] w2 (by kernel_rfl) ?_
  exact ih1 _ (show ((len : Int) - (i + 1)).toNat < mm1 from by omega) (i + 1) w2 (by omega) (by omega) (by intro j hj; by_cases e : j = i.toNat; (subst e; exact fk2); exact hq j (by omega)) S2 rfl
 exact L43_1 _ 0 w (by omega) (by omega) (by intro j hj; simp at hj) S0 rfl

theorem hb25 : HasBody Try.prog 25 := fun _ _ => by kernel_rfl
def K25_0 := adv 8 [] (bodyOf Try.f25)
def K25_1 := adv 3 [] (popK K25_0)
set_option maxRecDepth 20000 in
set_option maxHeartbeats 20000000 in
theorem containsI1 (la : Option Addr) (len cap : Nat) (l : List Int) (g : FuncId) (c1 : Value) (q : Int → Bool) (w : World) (hI : Ones (Value.int .i64) w la len l) (hlen : len ≤ 9223372036854775807) (hbg : HasBody Try.prog g) (hcall : ∀ (i : Nat) (w2 : World), i < l.length → Sep w [] w2 → Ret Try.prog g #[.int .i64 (l.getD i 0), c1] w2 (fun v w3 => v = .bool (q (l.getD i 0)) ∧ Sep w2 [] w3)) : Ret Try.prog 25 #[.slice la len cap, .func (.func g) #[] #[c1]] w (fun v w' => v = .bool (l.any q) ∧ Sep w [] w') := by
 have S0 := Sep.refl w
 refine Ret.named fun R hR => ?_
 refine Ret.of_J (N := 9) [(0, .slice la len cap), (1, .func (.func g) #[] #[c1])] Try.func25 rfl rfl (Nat.le_of_ble_eq_true (by kernel_rfl)) (by kernel_rfl) ?_
 refine J.run 8 K25_0 [(6, .func (.func g) #[] #[c1]), (5, .slice la len cap)] w (by kernel_rfl) ?_
 refine J.callF 7 43 #[.slice la len cap, .func (.func g) #[] #[c1]] hb43 (by kernel_rfl) (indexI1 la len cap l g c1 q _ (hI.sep S0) (by first | omega | (simp; omega)) hbg (hcall)) ?_
 rintro _ w1 ⟨rfl, T1⟩
 have S1 : Sep w [] w1 := S0.trans T1
 clear T1
 refine J.run 3 K25_1 [(4, .bool (decide ((indexF q l) ≥ 0)))] w1 (by kernel_rfl) ?_
 refine J.ret Try.f25 [.bool (decide ((indexF q l) ≥ 0))] Try.func25 ⟨by kernel_rfl, trivial⟩ ?_
 refine hR _ _ ?_
 exact ⟨congrArg Value.bool (by first | exact indexF_nonneg), S1.nil⟩

theorem step_at {c : Cht} {s a x i : Int} (h0 : 0 ≤ i) (hi : i < (c.gMoves_l.length : Int)) (hq : ∀ j, j < i.toNat → fitB s a x (c.gMoves_l.getD j (⟨0, 0, 0, 0, 0⟩ : Mv)) = false) (h : fitB s a x (c.gMoves_l.getD i.toNat (⟨0, 0, 0, 0, 0⟩ : Mv)) = true) : stepI c s a x = i ∧ stepS c s a x = (c.gMoves_l.getD i.toNat (⟨0, 0, 0, 0, 0⟩ : Mv)).gTo ∧ stepA c s a x = 0 := by
  have e : stepI c s a x = i := by unfold stepI; rw [indexF_some (⟨0, 0, 0, 0, 0⟩ : Mv) i.toNat (by omega) hq h, Int.toNat_of_nonneg h0]
  refine ⟨e, ?_, ?_⟩
  · unfold stepS; rw [e, if_neg (by omega)]
  · unfold stepA; rw [e, if_neg (by omega)]
theorem step_none {c : Cht} {s a x : Int} (hq : ∀ j, j < c.gMoves_l.length → fitB s a x (c.gMoves_l.getD j (⟨0, 0, 0, 0, 0⟩ : Mv)) = false) : stepI c s a x = -1 ∧ stepS c s a x = s ∧ stepA c s a x = min (a + 1) 1000 := by
  have e : stepI c s a x = -1 := by unfold stepI; rw [indexF_none (⟨0, 0, 0, 0, 0⟩ : Mv) hq]
  refine ⟨e, ?_, ?_⟩
  · unfold stepS; rw [e, if_pos (by omega)]
  · unfold stepA; rw [e, if_pos (by omega)]
theorem stepI_bounds (c : Cht) (s a x : Int) : -1 ≤ stepI c s a x ∧ stepI c s a x < (c.gMoves_l.length : Int) ∨ stepI c s a x = -1 := indexF_bounds _ _
theorem fit_no {s a x : Int} {m : Mv} (h : m.gFrom ≠ s ∨ a < m.gAfter ∨ andF x m.gOn ≠ m.gOn ∨ andF x m.gOff ≠ 0) : fitB s a x m = false := by
  cases hf : fitB s a x m with
  | false => rfl
  | true =>
    simp only [fitB, Bool.and_eq_true, decide_eq_true_eq, beq_iff_eq] at hf
    omega
theorem fit_yes {s a x : Int} {m : Mv} (h : m.gFrom = s ∧ m.gAfter ≤ a ∧ andF x m.gOn = m.gOn ∧ andF x m.gOff = 0) : fitB s a x m = true := by
  simp only [fitB, Bool.and_eq_true, decide_eq_true_eq, beq_iff_eq]; omega
theorem hb35 : HasBody Try.prog 35 := fun _ _ => by kernel_rfl
def K35_0 := adv 2 [] (bodyOf Try.f35)
def K35_1 := adv 6 [] (popK (popK (popK K35_0)))
def K35_2 := adv 5 [] (popK K35_1)
def K35_3 := adv 5 [] K35_2
def K35_4 := adv 7 [true] K35_3
def K35_5 := adv 1 [] (popK (popK (popK K35_4)))
def K35_6 := adv 4 [] (popK K35_5)
def K35_7 := adv 1 [] (popK K35_6)
def K35_8 := adv 2 [] (popK K35_7)
def K35_9 := adv 1 [] K35_8
def K35_10 := adv 1 [] (popK K35_9)
def K35_11 := adv 3 [] (popK K35_10)
def K35_12 := adv 2 [] K35_11
def K35_13 := adv 1 [] (popK K35_12)
def K35_14 := adv 1 [] K35_13
def K35_15 := adv 3 [] (popK K35_14)
def K35_16 := adv 2 [] K35_15
def K35_17 := adv 1 [] (popK K35_16)
def K35_18 := adv 3 [] K35_17
def K35_19 := adv 4 [true] K35_18
def K35_20 := adv 2 [] (popK K35_19)
def K35_21 := adv 2 [] (popK K35_20)
def K35_22 := adv 5 [false] K35_18
def K35_23 := adv 12 [false] K35_15
def K35_24 := adv 21 [false] K35_11
def K35_25 := adv 28 [false] K35_8
def K35_26 := adv 5 [false] K35_3
def K35_27 := adv 1 [] (popK K35_26)
def K35_28 := adv 1 [] K35_27
def K35_29 := adv 1 [] K35_28
def K35_30 := adv 3 [] (popK K35_29)
def K35_31 := adv 2 [] (popK (popK K35_30))
set_option maxRecDepth 20000 in
set_option maxHeartbeats 20000000 in
theorem step_any (c : Cht) (s a x : Int) (w : World) (hc : chtQ w c) (ha : 0 ≤ a ∧ a ≤ 1000) : Ret Try.prog 35 #[.agg #[.slice c.gStates_a c.gStates_n c.gStates_c, .slice c.gInputs_a c.gInputs_n c.gInputs_c, .int .i64 c.gStart, .slice c.gMoves_a c.gMoves_n c.gMoves_c], .agg #[.int .i64 s, .int .i64 a], .int .i64 x] w (fun v w' => v = .tuple #[.agg #[.int .i64 (stepS c s a x), .int .i64 (stepA c s a x)], .int .i64 (stepI c s a x)] ∧ Sep w [] w') := by
 have S0 := Sep.refl w
 refine Ret.named fun R hR => ?_
 refine Ret.of_J (N := 57) [(0, .agg #[.slice c.gStates_a c.gStates_n c.gStates_c, .slice c.gInputs_a c.gInputs_n c.gInputs_c, .int .i64 c.gStart, .slice c.gMoves_a c.gMoves_n c.gMoves_c]), (1, .agg #[.int .i64 s, .int .i64 a]), (2, .int .i64 x)] Try.func35 rfl rfl (Nat.le_of_ble_eq_true (by kernel_rfl)) (by kernel_rfl) ?_
 obtain ⟨q1, q2, q3, q4, q5, q6, q7, q8, q9, q10, _⟩ := id hc
 have ql1 := q2.len_eq
 have ql2 := q5.len_eq
 have ql3 := q9.len_eq
 refine J.run 2 K35_0 [(0, .agg #[.slice c.gStates_a c.gStates_n c.gStates_c, .slice c.gInputs_a c.gInputs_n c.gInputs_c, .int .i64 c.gStart, .slice c.gMoves_a c.gMoves_n c.gMoves_c]), (1, .agg #[.int .i64 s, .int .i64 a]), (2, .int .i64 x)] w (by kernel_rfl) ?_
 refine J.new S0 3 [.slice c.gStates_a c.gStates_n c.gStates_c, .slice c.gInputs_a c.gInputs_n c.gInputs_c, .int .i64 c.gStart, .slice c.gMoves_a c.gMoves_n c.gMoves_c] 25 (by kernel_rfl) ?_
 intro b1 w1 S1
 refine J.new S1 4 [.int .i64 s, .int .i64 a] 37 (by kernel_rfl) ?_
 intro b2 w2 S2
 refine J.new S2 6 [.int .i64 0, .int .i64 0] 37 (by kernel_rfl) ?_
 intro b3 w3 S3
 refine J.run 6 K35_1 [(10, .pointer (some ⟨b1, 3, none⟩)), (6, .pointer (some ⟨b3, 0, none⟩)), (4, .pointer (some ⟨b2, 0, none⟩)), (2, .int .i64 x)] w3 (by kernel_rfl) ?_
 refine J.ok (OK.ldBox S3 2 11 23 3 (.slice c.gMoves_a c.gMoves_n c.gMoves_c) (by kernel_rfl) rfl (by kernel_rfl)) ?_
 refine J.run 5 K35_2 [(13, .int .i64 0), (12, .int .i64 (c.gMoves_n : Int)), (11, .slice c.gMoves_a c.gMoves_n c.gMoves_c), (6, .pointer (some ⟨b3, 0, none⟩)), (4, .pointer (some ⟨b2, 0, none⟩)), (2, .int .i64 x)] w3 (by kernel_rfl) ?_
 have L35_1 : ∀ (mm_ : Nat) (i : Int) (w4 : World), (0 ≤ i) → (i ≤ (c.gMoves_n : Int)) → (∀ j, j < (i).toNat → fitB s a x (c.gMoves_l.getD j (⟨0, 0, 0, 0, 0⟩ : Mv)) = false) → Sep w [box b3 [.int .i64 0, .int .i64 0] 37, box b2 [.int .i64 s, .int .i64 a] 37, box b1 [.slice c.gStates_a c.gStates_n c.gStates_c, .slice c.gInputs_a c.gInputs_n c.gInputs_c, .int .i64 c.gStart, .slice c.gMoves_a c.gMoves_n c.gMoves_c] 25] w4 → ((c.gMoves_n : Int) - i).toNat = mm_ → J Try.prog 35 57 R K35_2 [(13, .int .i64 i), (12, .int .i64 (c.gMoves_n : Int)), (11, .slice c.gMoves_a c.gMoves_n c.gMoves_c), (6, .pointer (some ⟨b3, 0, none⟩)), (4, .pointer (some ⟨b2, 0, none⟩)), (2, .int .i64 x)] w4 := by
  intro mm1
  induction mm1 using Nat.strongRecOn with
  | _ mm1 ih1 =>
  intro i w4 h0 h1 hq S4 hm1
  refine J.run 5 K35_3 [(14, .bool (decide (i < (c.gMoves_n : Int)))), (13, .int .i64 i), (12, .int .i64 (c.gMoves_n : Int)), (11, .slice c.gMoves_a c.gMoves_n c.gMoves_c), (6, .pointer (some ⟨b3, 0, none⟩)), (4, .pointer (some ⟨b2, 0, none⟩)), (2, .int .i64 x)] w4 (by kernel_rfl) ?_
  by_cases fk1 : i < (c.gMoves_n : Int)
  rotate_left
  ·skip
   refine J.head (.bool false) (congrArg Value.bool (decide_eq_false fk1)) ?_
   refine J.run 5 K35_26 [(51, .pointer (some ⟨b2, 1, none⟩)), (6, .pointer (some ⟨b3, 0, none⟩)), (4, .pointer (some ⟨b2, 0, none⟩))] w4 (by kernel_rfl) ?_
   refine J.ok (OK.ldBox S4 1 52 3 1 (.int .i64 a) (by kernel_rfl) rfl (by kernel_rfl)) ?_
   refine J.run 1 K35_27 [(53, .int .i64 (IntKind.wrap .i64 (a + 1))), (6, .pointer (some ⟨b3, 0, none⟩)), (4, .pointer (some ⟨b2, 0, none⟩))] w4 (by kernel_rfl) ?_
   refine J.head (.int .i64 (a + 1)) (congrArg (Value.int .i64) (IntWalk.i64_in _ (by omega))) ?_
   refine J.run 1 K35_28 [(54, .int .i64 (if 1000 < (a + 1) then 1000 else (a + 1))), (6, .pointer (some ⟨b3, 0, none⟩)), (4, .pointer (some ⟨b2, 0, none⟩))] w4 (by kernel_rfl) ?_
   refine J.head (.int .i64 (min (a + 1) 1000)) (congrArg (Value.int .i64) (by omega)) ?_
   refine J.run 1 K35_29 [(55, .pointer (some ⟨b2, 1, none⟩)), (54, .int .i64 (min (a + 1) 1000)), (6, .pointer (some ⟨b3, 0, none⟩)), (4, .pointer (some ⟨b2, 0, none⟩))] w4 (by kernel_rfl) ?_
   refine J.stBox S4 1 3 1 (.int .i64 (min (a + 1) 1000)) [.int .i64 s, .int .i64 (min (a + 1) 1000)] [box b3 [.int .i64 0, .int .i64 0] 37, box b2 [.int .i64 s, .int .i64 (min (a + 1) 1000)] 37, box b1 [.slice c.gStates_a c.gStates_n c.gStates_c, .slice c.gInputs_a c.gInputs_n c.gInputs_c, .int .i64 c.gStart, .slice c.gMoves_a c.gMoves_n c.gMoves_c] 25] (by kernel_rfl) rfl (by kernel_rfl) (by kernel_rfl) rfl ?_
   intro w8 S12
   refine J.run 3 K35_30 [(6, .pointer (some ⟨b3, 0, none⟩)), (4, .pointer (some ⟨b2, 0, none⟩))] w8 (by kernel_rfl) ?_
   refine J.ok (OK.ldBox S12 1 56 37 0 (.agg #[.int .i64 s, .int .i64 (min (a + 1) 1000)]) (by kernel_rfl) rfl (by kernel_rfl)) ?_
   refine J.stBox S12 0 37 0 (.agg #[.int .i64 s, .int .i64 (min (a + 1) 1000)]) [.int .i64 s, .int .i64 (min (a + 1) 1000)] [box b3 [.int .i64 s, .int .i64 (min (a + 1) 1000)] 37, box b2 [.int .i64 s, .int .i64 (min (a + 1) 1000)] 37, box b1 [.slice c.gStates_a c.gStates_n c.gStates_c, .slice c.gInputs_a c.gInputs_n c.gInputs_c, .int .i64 c.gStart, .slice c.gMoves_a c.gMoves_n c.gMoves_c] 25] (by kernel_rfl) rfl (by kernel_rfl) (by kernel_rfl) rfl ?_
   intro w9 S13
   refine J.run 2 K35_31 [(7, .int .i64 (-1)), (6, .pointer (some ⟨b3, 0, none⟩))] w9 (by kernel_rfl) ?_
   refine J.ret Try.f35 [.agg #[.int .i64 s, .int .i64 (min (a + 1) 1000)], .int .i64 (-1)] Try.func35 ⟨⟨⟨b3, 0, none⟩, by kernel_rfl, ldV_run (S13.nth 0 rfl) (by kernel_rfl)⟩, by kernel_rfl, trivial⟩ ?_
   refine hR _ _ ?_
   obtain ⟨e1, e2, e3⟩ := step_none (c := c) (s := s) (a := a) (x := x) fun j hj => hq j (by omega)
   exact ⟨by rw [tup_two, e1, e2, e3], S13.nil⟩
  refine J.head (.bool true) (congrArg Value.bool (decide_eq_true fk1)) ?_
  refine J.run 7 K35_4 [(15, .int .i64 i), (13, .int .i64 i), (12, .int .i64 (c.gMoves_n : Int)), (11, .slice c.gMoves_a c.gMoves_n c.gMoves_c), (6, .pointer (some ⟨b3, 0, none⟩)), (4, .pointer (some ⟨b2, 0, none⟩)), (2, .int .i64 x)] w4 (by kernel_rfl) ?_
  obtain ⟨p1, hp1, hc1⟩ := q9.at (⟨0, 0, 0, 0, 0⟩ : Mv) (i).toNat (by omega)
  have hel1 := getD_Q q10 (⟨0, 0, 0, 0, 0⟩ : Mv) (n := (i).toNat) (by have := q9.len_eq; omega)
  obtain ⟨q11, q12, q13, q14, q15, _⟩ := id hel1
  refine J.ok (OK.index 16 23 5 c.gMoves_a p1 c.gMoves_n (i).toNat i (p1.add ((i).toNat * 5)) (by kernel_rfl) (by kernel_rfl) hp1 (by omega) (by omega) rfl) ?_
  refine J.ok (OK.ldCells 17 42 (p1.add ((i).toNat * 5)) [.int .i64 ((c.gMoves_l.getD (i).toNat (⟨0, 0, 0, 0, 0⟩ : Mv)).gFrom), .int .i64 ((c.gMoves_l.getD (i).toNat (⟨0, 0, 0, 0, 0⟩ : Mv)).gTo), .int .i64 ((c.gMoves_l.getD (i).toNat (⟨0, 0, 0, 0, 0⟩ : Mv)).gOn), .int .i64 ((c.gMoves_l.getD (i).toNat (⟨0, 0, 0, 0, 0⟩ : Mv)).gOff), .int .i64 ((c.gMoves_l.getD (i).toNat (⟨0, 0, 0, 0, 0⟩ : Mv)).gAfter)] (by kernel_rfl) (by kernel_rfl) (by kernel_rfl) (fun j_ v_ hj_ => S4.cell (hc1 j_ v_ hj_))) ?_
  refine J.new S4 9 [.int .i64 0, .int .i64 0, .int .i64 0, .int .i64 0, .int .i64 0] 42 (by kernel_rfl) ?_
  intro b4 w5 S5
  refine J.run 1 K35_5 [(8, .int .i64 i), (9, .pointer (some ⟨b4, 0, none⟩)), (17, .agg #[.int .i64 ((c.gMoves_l.getD (i).toNat (⟨0, 0, 0, 0, 0⟩ : Mv)).gFrom), .int .i64 ((c.gMoves_l.getD (i).toNat (⟨0, 0, 0, 0, 0⟩ : Mv)).gTo), .int .i64 ((c.gMoves_l.getD (i).toNat (⟨0, 0, 0, 0, 0⟩ : Mv)).gOn), .int .i64 ((c.gMoves_l.getD (i).toNat (⟨0, 0, 0, 0, 0⟩ : Mv)).gOff), .int .i64 ((c.gMoves_l.getD (i).toNat (⟨0, 0, 0, 0, 0⟩ : Mv)).gAfter)]), (13, .int .i64 i), (12, .int .i64 (c.gMoves_n : Int)), (11, .slice c.gMoves_a c.gMoves_n c.gMoves_c), (6, .pointer (some ⟨b3, 0, none⟩)), (4, .pointer (some ⟨b2, 0, none⟩)), (2, .int .i64 x)] w5 (by kernel_rfl) ?_
  refine J.stBox S5 0 42 0 (.agg #[.int .i64 ((c.gMoves_l.getD (i).toNat (⟨0, 0, 0, 0, 0⟩ : Mv)).gFrom), .int .i64 ((c.gMoves_l.getD (i).toNat (⟨0, 0, 0, 0, 0⟩ : Mv)).gTo), .int .i64 ((c.gMoves_l.getD (i).toNat (⟨0, 0, 0, 0, 0⟩ : Mv)).gOn), .int .i64 ((c.gMoves_l.getD (i).toNat (⟨0, 0, 0, 0, 0⟩ : Mv)).gOff), .int .i64 ((c.gMoves_l.getD (i).toNat (⟨0, 0, 0, 0, 0⟩ : Mv)).gAfter)]) [.int .i64 ((c.gMoves_l.getD (i).toNat (⟨0, 0, 0, 0, 0⟩ : Mv)).gFrom), .int .i64 ((c.gMoves_l.getD (i).toNat (⟨0, 0, 0, 0, 0⟩ : Mv)).gTo), .int .i64 ((c.gMoves_l.getD (i).toNat (⟨0, 0, 0, 0, 0⟩ : Mv)).gOn), .int .i64 ((c.gMoves_l.getD (i).toNat (⟨0, 0, 0, 0, 0⟩ : Mv)).gOff), .int .i64 ((c.gMoves_l.getD (i).toNat (⟨0, 0, 0, 0, 0⟩ : Mv)).gAfter)] [box b4 [.int .i64 ((c.gMoves_l.getD (i).toNat (⟨0, 0, 0, 0, 0⟩ : Mv)).gFrom), .int .i64 ((c.gMoves_l.getD (i).toNat (⟨0, 0, 0, 0, 0⟩ : Mv)).gTo), .int .i64 ((c.gMoves_l.getD (i).toNat (⟨0, 0, 0, 0, 0⟩ : Mv)).gOn), .int .i64 ((c.gMoves_l.getD (i).toNat (⟨0, 0, 0, 0, 0⟩ : Mv)).gOff), .int .i64 ((c.gMoves_l.getD (i).toNat (⟨0, 0, 0, 0, 0⟩ : Mv)).gAfter)] 42, box b3 [.int .i64 0, .int .i64 0] 37, box b2 [.int .i64 s, .int .i64 a] 37, box b1 [.slice c.gStates_a c.gStates_n c.gStates_c, .slice c.gInputs_a c.gInputs_n c.gInputs_c, .int .i64 c.gStart, .slice c.gMoves_a c.gMoves_n c.gMoves_c] 25] (by kernel_rfl) rfl (by kernel_rfl) (by kernel_rfl) rfl ?_
  intro w6 S6
  refine J.run 4 K35_6 [(18, .pointer (some ⟨b4, 0, none⟩)), (8, .int .i64 i), (9, .pointer (some ⟨b4, 0, none⟩)), (13, .int .i64 i), (12, .int .i64 (c.gMoves_n : Int)), (11, .slice c.gMoves_a c.gMoves_n c.gMoves_c), (6, .pointer (some ⟨b3, 0, none⟩)), (4, .pointer (some ⟨b2, 0, none⟩)), (2, .int .i64 x)] w6 (by kernel_rfl) ?_
  refine J.ok (OK.ldBox S6 0 19 3 0 (.int .i64 ((c.gMoves_l.getD (i).toNat (⟨0, 0, 0, 0, 0⟩ : Mv)).gFrom)) (by kernel_rfl) rfl (by kernel_rfl)) ?_
  refine J.run 1 K35_7 [(20, .pointer (some ⟨b2, 0, none⟩)), (19, .int .i64 ((c.gMoves_l.getD (i).toNat (⟨0, 0, 0, 0, 0⟩ : Mv)).gFrom)), (8, .int .i64 i), (9, .pointer (some ⟨b4, 0, none⟩)), (13, .int .i64 i), (12, .int .i64 (c.gMoves_n : Int)), (11, .slice c.gMoves_a c.gMoves_n c.gMoves_c), (6, .pointer (some ⟨b3, 0, none⟩)), (4, .pointer (some ⟨b2, 0, none⟩)), (2, .int .i64 x)] w6 (by kernel_rfl) ?_
  refine J.ok (OK.ldBox S6 2 21 3 0 (.int .i64 s) (by kernel_rfl) rfl (by kernel_rfl)) ?_
  refine J.run 2 K35_8 [(23, .bool (((c.gMoves_l.getD (i).toNat (⟨0, 0, 0, 0, 0⟩ : Mv)).gFrom) == s)), (8, .int .i64 i), (9, .pointer (some ⟨b4, 0, none⟩)), (13, .int .i64 i), (12, .int .i64 (c.gMoves_n : Int)), (11, .slice c.gMoves_a c.gMoves_n c.gMoves_c), (6, .pointer (some ⟨b3, 0, none⟩)), (4, .pointer (some ⟨b2, 0, none⟩)), (2, .int .i64 x)] w6 (by kernel_rfl) ?_
  by_cases fk2 : ((c.gMoves_l.getD (i).toNat (⟨0, 0, 0, 0, 0⟩ : Mv)).gFrom) = s
  rotate_left
  ·skip
   refine J.head (.bool false) (congrArg Value.bool (beq_eq_false_iff_ne.2 fk2)) ?_
   refine J.run 28 K35_25 [(50, .int .i64 (IntKind.wrap .i64 (i + 1))), (12, .int .i64 (c.gMoves_n : Int)), (11, .slice c.gMoves_a c.gMoves_n c.gMoves_c), (6, .pointer (some ⟨b3, 0, none⟩)), (4, .pointer (some ⟨b2, 0, none⟩)), (2, .int .i64 x)] w6 (by kernel_rfl) ?_
   refine J.head (.int .i64 (i + 1)) (congrArg (Value.int .i64) (IntWalk.i64_in _ (by omega))) ?_
   refine J.run 3 K35_2 [(13, .int .i64 (i + 1)), (12, .int .i64 (c.gMoves_n : Int)), (11, .slice c.gMoves_a c.gMoves_n c.gMoves_c), (6, .pointer (some ⟨b3, 0, none⟩)), (4, .pointer (some ⟨b2, 0, none⟩)), (2, .int .i64 x)] w6 (by kernel_rfl) ?_
   have S11 : Sep w [box b3 [.int .i64 0, .int .i64 0] 37, box b2 [.int .i64 s, .int .i64 a] 37, box b1 [.slice c.gStates_a c.gStates_n c.gStates_c, .slice c.gInputs_a c.gInputs_n c.gInputs_c, .int .i64 c.gStart, .slice c.gMoves_a c.gMoves_n c.gMoves_c] 25] w6 := S6.erase 0
   clear S6
   refine J.run 0 K35_2 [(13, .int .i64 (i + 1)), (12, .int .i64 (c.gMoves_n : Int)), (11, .slice c.gMoves_a c.gMoves_n c.gMoves_c), (6, .pointer (some ⟨b3, 0, none⟩)), (4, .pointer (some ⟨b2, 0, none⟩)), (2, .int .i64 x)] w6 (by kernel_rfl) ?_
   exact ih1 _ (show ((c.gMoves_n : Int) - (i + 1)).toNat < mm1 from by omega) (i + 1) w6 (by omega) (by omega) (by intro j hj; by_cases e : j = i.toNat; (subst e; exact fit_no (by omega)); exact hq j (by omega)) S11 rfl
  refine J.head (.bool true) (congrArg Value.bool (beq_iff_eq.2 fk2)) ?_
  refine J.run 1 K35_9 [(24, .pointer (some ⟨b4, 4, none⟩)), (23, .bool true), (8, .int .i64 i), (9, .pointer (some ⟨b4, 0, none⟩)), (13, .int .i64 i), (12, .int .i64 (c.gMoves_n : Int)), (11, .slice c.gMoves_a c.gMoves_n c.gMoves_c), (6, .pointer (some ⟨b3, 0, none⟩)), (4, .pointer (some ⟨b2, 0, none⟩)), (2, .int .i64 x)] w6 (by kernel_rfl) ?_
  refine J.ok (OK.ldBox S6 0 25 3 4 (.int .i64 ((c.gMoves_l.getD (i).toNat (⟨0, 0, 0, 0, 0⟩ : Mv)).gAfter)) (by kernel_rfl) rfl (by kernel_rfl)) ?_
  refine J.run 1 K35_10 [(26, .pointer (some ⟨b2, 1, none⟩)), (25, .int .i64 ((c.gMoves_l.getD (i).toNat (⟨0, 0, 0, 0, 0⟩ : Mv)).gAfter)), (23, .bool true), (8, .int .i64 i), (9, .pointer (some ⟨b4, 0, none⟩)), (13, .int .i64 i), (12, .int .i64 (c.gMoves_n : Int)), (11, .slice c.gMoves_a c.gMoves_n c.gMoves_c), (6, .pointer (some ⟨b3, 0, none⟩)), (4, .pointer (some ⟨b2, 0, none⟩)), (2, .int .i64 x)] w6 (by kernel_rfl) ?_
  refine J.ok (OK.ldBox S6 2 27 3 1 (.int .i64 a) (by kernel_rfl) rfl (by kernel_rfl)) ?_
  refine J.run 3 K35_11 [(30, .bool (decide (((c.gMoves_l.getD (i).toNat (⟨0, 0, 0, 0, 0⟩ : Mv)).gAfter) ≤ a))), (8, .int .i64 i), (9, .pointer (some ⟨b4, 0, none⟩)), (13, .int .i64 i), (12, .int .i64 (c.gMoves_n : Int)), (11, .slice c.gMoves_a c.gMoves_n c.gMoves_c), (6, .pointer (some ⟨b3, 0, none⟩)), (4, .pointer (some ⟨b2, 0, none⟩)), (2, .int .i64 x)] w6 (by kernel_rfl) ?_
  by_cases fk3 : ((c.gMoves_l.getD (i).toNat (⟨0, 0, 0, 0, 0⟩ : Mv)).gAfter) ≤ a
  rotate_left
  ·skip
   refine J.head (.bool false) (congrArg Value.bool (decide_eq_false fk3)) ?_
   refine J.run 21 K35_24 [(50, .int .i64 (IntKind.wrap .i64 (i + 1))), (12, .int .i64 (c.gMoves_n : Int)), (11, .slice c.gMoves_a c.gMoves_n c.gMoves_c), (6, .pointer (some ⟨b3, 0, none⟩)), (4, .pointer (some ⟨b2, 0, none⟩)), (2, .int .i64 x)] w6 (by kernel_rfl) ?_
   refine J.head (.int .i64 (i + 1)) (congrArg (Value.int .i64) (IntWalk.i64_in _ (by omega))) ?_
   refine J.run 3 K35_2 [(13, .int .i64 (i + 1)), (12, .int .i64 (c.gMoves_n : Int)), (11, .slice c.gMoves_a c.gMoves_n c.gMoves_c), (6, .pointer (some ⟨b3, 0, none⟩)), (4, .pointer (some ⟨b2, 0, none⟩)), (2, .int .i64 x)] w6 (by kernel_rfl) ?_
   have S10 : Sep w [box b3 [.int .i64 0, .int .i64 0] 37, box b2 [.int .i64 s, .int .i64 a] 37, box b1 [.slice c.gStates_a c.gStates_n c.gStates_c, .slice c.gInputs_a c.gInputs_n c.gInputs_c, .int .i64 c.gStart, .slice c.gMoves_a c.gMoves_n c.gMoves_c] 25] w6 := S6.erase 0
   clear S6
   refine J.run 0 K35_2 [(13, .int .i64 (i + 1)), (12, .int .i64 (c.gMoves_n : Int)), (11, .slice c.gMoves_a c.gMoves_n c.gMoves_c), (6, .pointer (some ⟨b3, 0, none⟩)), (4, .pointer (some ⟨b2, 0, none⟩)), (2, .int .i64 x)] w6 (by kernel_rfl) ?_
   exact ih1 _ (show ((c.gMoves_n : Int) - (i + 1)).toNat < mm1 from by omega) (i + 1) w6 (by omega) (by omega) (by intro j hj; by_cases e : j = i.toNat; (subst e; exact fit_no (by omega)); exact hq j (by omega)) S10 rfl
  refine J.head (.bool true) (congrArg Value.bool (decide_eq_true fk3)) ?_
  refine J.run 2 K35_12 [(32, .pointer (some ⟨b4, 2, none⟩)), (31, .int .i64 x), (30, .bool true), (8, .int .i64 i), (9, .pointer (some ⟨b4, 0, none⟩)), (13, .int .i64 i), (12, .int .i64 (c.gMoves_n : Int)), (11, .slice c.gMoves_a c.gMoves_n c.gMoves_c), (6, .pointer (some ⟨b3, 0, none⟩)), (4, .pointer (some ⟨b2, 0, none⟩)), (2, .int .i64 x)] w6 (by kernel_rfl) ?_
  refine J.ok (OK.ldBox S6 0 33 3 2 (.int .i64 ((c.gMoves_l.getD (i).toNat (⟨0, 0, 0, 0, 0⟩ : Mv)).gOn)) (by kernel_rfl) rfl (by kernel_rfl)) ?_
  refine J.run 1 K35_13 [(34, .int .i64 (IntKind.wrap .i64 ((BitVec.ofInt 64 x &&& (BitVec.ofInt 64 ((c.gMoves_l.getD (i).toNat (⟨0, 0, 0, 0, 0⟩ : Mv)).gOn))).toNat : Int))), (30, .bool true), (8, .int .i64 i), (9, .pointer (some ⟨b4, 0, none⟩)), (13, .int .i64 i), (12, .int .i64 (c.gMoves_n : Int)), (11, .slice c.gMoves_a c.gMoves_n c.gMoves_c), (6, .pointer (some ⟨b3, 0, none⟩)), (4, .pointer (some ⟨b2, 0, none⟩)), (2, .int .i64 x)] w6 (by kernel_rfl) ?_
  refine J.head (.int .i64 (andF x ((c.gMoves_l.getD (i).toNat (⟨0, 0, 0, 0, 0⟩ : Mv)).gOn))) (congrArg (Value.int .i64) rfl) ?_
  refine J.run 1 K35_14 [(35, .pointer (some ⟨b4, 2, none⟩)), (34, .int .i64 (andF x ((c.gMoves_l.getD (i).toNat (⟨0, 0, 0, 0, 0⟩ : Mv)).gOn))), (30, .bool true), (8, .int .i64 i), (9, .pointer (some ⟨b4, 0, none⟩)), (13, .int .i64 i), (12, .int .i64 (c.gMoves_n : Int)), (11, .slice c.gMoves_a c.gMoves_n c.gMoves_c), (6, .pointer (some ⟨b3, 0, none⟩)), (4, .pointer (some ⟨b2, 0, none⟩)), (2, .int .i64 x)] w6 (by kernel_rfl) ?_
  refine J.ok (OK.ldBox S6 0 36 3 2 (.int .i64 ((c.gMoves_l.getD (i).toNat (⟨0, 0, 0, 0, 0⟩ : Mv)).gOn)) (by kernel_rfl) rfl (by kernel_rfl)) ?_
  refine J.run 3 K35_15 [(39, .bool ((andF x ((c.gMoves_l.getD (i).toNat (⟨0, 0, 0, 0, 0⟩ : Mv)).gOn)) == ((c.gMoves_l.getD (i).toNat (⟨0, 0, 0, 0, 0⟩ : Mv)).gOn))), (8, .int .i64 i), (9, .pointer (some ⟨b4, 0, none⟩)), (13, .int .i64 i), (12, .int .i64 (c.gMoves_n : Int)), (11, .slice c.gMoves_a c.gMoves_n c.gMoves_c), (6, .pointer (some ⟨b3, 0, none⟩)), (4, .pointer (some ⟨b2, 0, none⟩)), (2, .int .i64 x)] w6 (by kernel_rfl) ?_
  by_cases fk4 : (andF x ((c.gMoves_l.getD (i).toNat (⟨0, 0, 0, 0, 0⟩ : Mv)).gOn)) = ((c.gMoves_l.getD (i).toNat (⟨0, 0, 0, 0, 0⟩ : Mv)).gOn)
  rotate_left
  ·skip
   refine J.head (.bool false) (congrArg Value.bool (beq_eq_false_iff_ne.2 fk4)) ?_
   refine J.run 12 K35_23 [(50, .int .i64 (IntKind.wrap .i64 (i + 1))), (12, .int .i64 (c.gMoves_n : Int)), (11, .slice c.gMoves_a c.gMoves_n c.gMoves_c), (6, .pointer (some ⟨b3, 0, none⟩)), (4, .pointer (some ⟨b2, 0, none⟩)), (2, .int .i64 x)] w6 (by kernel_rfl) ?_
   refine J.head (.int .i64 (i + 1)) (congrArg (Value.int .i64) (IntWalk.i64_in _ (by omega))) ?_
   refine J.run 3 K35_2 [(13, .int .i64 (i + 1)), (12, .int .i64 (c.gMoves_n : Int)), (11, .slice c.gMoves_a c.gMoves_n c.gMoves_c), (6, .pointer (some ⟨b3, 0, none⟩)), (4, .pointer (some ⟨b2, 0, none⟩)), (2, .int .i64 x)] w6 (by kernel_rfl) ?_
   have S9 : Sep w [box b3 [.int .i64 0, .int .i64 0] 37, box b2 [.int .i64 s, .int .i64 a] 37, box b1 [.slice c.gStates_a c.gStates_n c.gStates_c, .slice c.gInputs_a c.gInputs_n c.gInputs_c, .int .i64 c.gStart, .slice c.gMoves_a c.gMoves_n c.gMoves_c] 25] w6 := S6.erase 0
   clear S6
   refine J.run 0 K35_2 [(13, .int .i64 (i + 1)), (12, .int .i64 (c.gMoves_n : Int)), (11, .slice c.gMoves_a c.gMoves_n c.gMoves_c), (6, .pointer (some ⟨b3, 0, none⟩)), (4, .pointer (some ⟨b2, 0, none⟩)), (2, .int .i64 x)] w6 (by kernel_rfl) ?_
   exact ih1 _ (show ((c.gMoves_n : Int) - (i + 1)).toNat < mm1 from by omega) (i + 1) w6 (by omega) (by omega) (by intro j hj; by_cases e : j = i.toNat; (subst e; exact fit_no (by omega)); exact hq j (by omega)) S9 rfl
  refine J.head (.bool true) (congrArg Value.bool (beq_iff_eq.2 fk4)) ?_
  refine J.run 2 K35_16 [(41, .pointer (some ⟨b4, 3, none⟩)), (40, .int .i64 x), (39, .bool true), (8, .int .i64 i), (9, .pointer (some ⟨b4, 0, none⟩)), (13, .int .i64 i), (12, .int .i64 (c.gMoves_n : Int)), (11, .slice c.gMoves_a c.gMoves_n c.gMoves_c), (6, .pointer (some ⟨b3, 0, none⟩)), (4, .pointer (some ⟨b2, 0, none⟩)), (2, .int .i64 x)] w6 (by kernel_rfl) ?_
  refine J.ok (OK.ldBox S6 0 42 3 3 (.int .i64 ((c.gMoves_l.getD (i).toNat (⟨0, 0, 0, 0, 0⟩ : Mv)).gOff)) (by kernel_rfl) rfl (by kernel_rfl)) ?_
  refine J.run 1 K35_17 [(43, .int .i64 (IntKind.wrap .i64 ((BitVec.ofInt 64 x &&& (BitVec.ofInt 64 ((c.gMoves_l.getD (i).toNat (⟨0, 0, 0, 0, 0⟩ : Mv)).gOff))).toNat : Int))), (39, .bool true), (8, .int .i64 i), (9, .pointer (some ⟨b4, 0, none⟩)), (13, .int .i64 i), (12, .int .i64 (c.gMoves_n : Int)), (11, .slice c.gMoves_a c.gMoves_n c.gMoves_c), (6, .pointer (some ⟨b3, 0, none⟩)), (4, .pointer (some ⟨b2, 0, none⟩)), (2, .int .i64 x)] w6 (by kernel_rfl) ?_
  refine J.head (.int .i64 (andF x ((c.gMoves_l.getD (i).toNat (⟨0, 0, 0, 0, 0⟩ : Mv)).gOff))) (congrArg (Value.int .i64) rfl) ?_
  refine J.run 3 K35_18 [(45, .bool ((andF x ((c.gMoves_l.getD (i).toNat (⟨0, 0, 0, 0, 0⟩ : Mv)).gOff)) == 0)), (8, .int .i64 i), (9, .pointer (some ⟨b4, 0, none⟩)), (13, .int .i64 i), (12, .int .i64 (c.gMoves_n : Int)), (11, .slice c.gMoves_a c.gMoves_n c.gMoves_c), (6, .pointer (some ⟨b3, 0, none⟩)), (4, .pointer (some ⟨b2, 0, none⟩)), (2, .int .i64 x)] w6 (by kernel_rfl) ?_
  by_cases fk5 : (andF x ((c.gMoves_l.getD (i).toNat (⟨0, 0, 0, 0, 0⟩ : Mv)).gOff)) = 0
  rotate_left
  ·skip
   refine J.head (.bool false) (congrArg Value.bool (beq_eq_false_iff_ne.2 fk5)) ?_
   refine J.run 5 K35_22 [(50, .int .i64 (IntKind.wrap .i64 (i + 1))), (12, .int .i64 (c.gMoves_n : Int)), (11, .slice c.gMoves_a c.gMoves_n c.gMoves_c), (6, .pointer (some ⟨b3, 0, none⟩)), (4, .pointer (some ⟨b2, 0, none⟩)), (2, .int .i64 x)] w6 (by kernel_rfl) ?_
   refine J.head (.int .i64 (i + 1)) (congrArg (Value.int .i64) (IntWalk.i64_in _ (by omega))) ?_
   refine J.run 3 K35_2 [(13, .int .i64 (i + 1)), (12, .int .i64 (c.gMoves_n : Int)), (11, .slice c.gMoves_a c.gMoves_n c.gMoves_c), (6, .pointer (some ⟨b3, 0, none⟩)), (4, .pointer (some ⟨b2, 0, none⟩)), (2, .int .i64 x)] w6 (by kernel_rfl) ?_
   have S8 : Sep w [box b3 [.int .i64 0, .int .i64 0] 37, box b2 [.int .i64 s, .int .i64 a] 37, box b1 [.slice c.gStates_a c.gStates_n c.gStates_c, .slice c.gInputs_a c.gInputs_n c.gInputs_c, .int .i64 c.gStart, .slice c.gMoves_a c.gMoves_n c.gMoves_c] 25] w6 := S6.erase 0
   clear S6
   refine J.run 0 K35_2 [(13, .int .i64 (i + 1)), (12, .int .i64 (c.gMoves_n : Int)), (11, .slice c.gMoves_a c.gMoves_n c.gMoves_c), (6, .pointer (some ⟨b3, 0, none⟩)), (4, .pointer (some ⟨b2, 0, none⟩)), (2, .int .i64 x)] w6 (by kernel_rfl) ?_
   exact ih1 _ (show ((c.gMoves_n : Int) - (i + 1)).toNat < mm1 from by omega) (i + 1) w6 (by omega) (by omega) (by intro j hj; by_cases e : j = i.toNat; (subst e; exact fit_no (by omega)); exact hq j (by omega)) S8 rfl
  refine J.head (.bool true) (congrArg Value.bool (beq_iff_eq.2 fk5)) ?_
  refine J.run 4 K35_19 [(46, .pointer (some ⟨b4, 1, none⟩)), (8, .int .i64 i), (6, .pointer (some ⟨b3, 0, none⟩))] w6 (by kernel_rfl) ?_
  refine J.ok (OK.ldBox S6 0 47 3 1 (.int .i64 ((c.gMoves_l.getD (i).toNat (⟨0, 0, 0, 0, 0⟩ : Mv)).gTo)) (by kernel_rfl) rfl (by kernel_rfl)) ?_
  refine J.run 2 K35_20 [(49, .int .i64 i), (48, .agg #[.int .i64 ((c.gMoves_l.getD (i).toNat (⟨0, 0, 0, 0, 0⟩ : Mv)).gTo), .int .i64 0]), (6, .pointer (some ⟨b3, 0, none⟩))] w6 (by kernel_rfl) ?_
  refine J.stBox S6 1 37 0 (.agg #[.int .i64 ((c.gMoves_l.getD (i).toNat (⟨0, 0, 0, 0, 0⟩ : Mv)).gTo), .int .i64 0]) [.int .i64 ((c.gMoves_l.getD (i).toNat (⟨0, 0, 0, 0, 0⟩ : Mv)).gTo), .int .i64 0] [box b4 [.int .i64 ((c.gMoves_l.getD (i).toNat (⟨0, 0, 0, 0, 0⟩ : Mv)).gFrom), .int .i64 ((c.gMoves_l.getD (i).toNat (⟨0, 0, 0, 0, 0⟩ : Mv)).gTo), .int .i64 ((c.gMoves_l.getD (i).toNat (⟨0, 0, 0, 0, 0⟩ : Mv)).gOn), .int .i64 ((c.gMoves_l.getD (i).toNat (⟨0, 0, 0, 0, 0⟩ : Mv)).gOff), .int .i64 ((c.gMoves_l.getD (i).toNat (⟨0, 0, 0, 0, 0⟩ : Mv)).gAfter)] 42, box b3 [.int .i64 ((c.gMoves_l.getD (i).toNat (⟨0, 0, 0, 0, 0⟩ : Mv)).gTo), .int .i64 0] 37, box b2 [.int .i64 s, .int .i64 a] 37, box b1 [.slice c.gStates_a c.gStates_n c.gStates_c, .slice c.gInputs_a c.gInputs_n c.gInputs_c, .int .i64 c.gStart, .slice c.gMoves_a c.gMoves_n c.gMoves_c] 25] (by kernel_rfl) rfl (by kernel_rfl) (by kernel_rfl) rfl ?_
  intro w7 S7
  refine J.run 2 K35_21 [(7, .int .i64 i), (6, .pointer (some ⟨b3, 0, none⟩))] w7 (by kernel_rfl) ?_
  refine J.ret Try.f35 [.agg #[.int .i64 ((c.gMoves_l.getD (i).toNat (⟨0, 0, 0, 0, 0⟩ : Mv)).gTo), .int .i64 0], .int .i64 i] Try.func35 ⟨⟨⟨b3, 0, none⟩, by kernel_rfl, ldV_run (S7.nth 1 rfl) (by kernel_rfl)⟩, by kernel_rfl, trivial⟩ ?_
  refine hR _ _ ?_
  obtain ⟨e1, e2, e3⟩ := step_at h0 (by omega) hq (fit_yes (by omega))
  exact ⟨by rw [tup_two, e1, e2, e3], S7.nil⟩
 exact L35_1 _ 0 w3 (by omega) (by omega) (by intro j hj; simp at hj) S3 rfl

theorem list_ext_getD {l m : List Int} (h : l.length = m.length) (h2 : ∀ k, k < l.length → l.getD k 0 = m.getD k 0) : l = m := by
  apply List.ext_getElem h
  intro k h3 h4
  have := h2 k h3
  simpa [List.getD, h3, h4] using this
theorem beq_no {l m : List Int} {n k : Nat} (h : l.length = n) (h2 : m.length = k) (hne : (n : Int) ≠ k) : (l == m) = false := by
  rw [beq_eq_false_iff_ne]; intro e; rw [e] at h; omega
theorem beq_at {l m : List Int} {i : Nat} (h : l.getD i 0 ≠ m.getD i 0) : (l == m) = false := by
  rw [beq_eq_false_iff_ne]; intro e; rw [e] at h; exact h rfl
theorem beq_all {l m : List Int} (h : l.length = m.length) (h2 : ∀ j, j < l.length → l.getD j 0 = m.getD j 0) : (l == m) = true := by rw [beq_iff_eq]; exact list_ext_getD h h2

theorem hb13 : HasBody Try.prog 13 := fun _ _ => by kernel_rfl
def K13_0 := adv 13 [] (bodyOf Try.f13)
def K13_1 := adv 11 [false] K13_0
def K13_2 := adv 5 [] K13_1
def K13_3 := adv 10 [true] K13_2
def K13_4 := adv 5 [false] (rRest K13_3)
def K13_5 := adv 5 [true] (rRest K13_3)
def K13_6 := adv 6 [false] K13_2
def K13_7 := adv 5 [true] K13_0
set_option maxRecDepth 20000 in
set_option maxHeartbeats 20000000 in
theorem equal_any (la : Option Addr) (len cap : Nat) (l : List Int) (ma : Option Addr) (mn mc : Nat) (ml : List Int) (w : World) (hI : Ints w la len l) (hJ : Ints w ma mn ml) (hlen : len ≤ 9223372036854775807) : Ret Try.prog 13 #[.slice la len cap, .slice ma mn mc] w (fun v w' => v = .bool (l == ml) ∧ Sep w [] w') := by
 have S0 := Sep.refl w
 refine Ret.named fun R hR => ?_
 refine Ret.of_J (N := 26) [(0, .slice la len cap), (1, .slice ma mn mc)] Try.func13 rfl rfl (Nat.le_of_ble_eq_true (by kernel_rfl)) (by kernel_rfl) ?_
 have hl2 := hI.len_eq
 have hm2 := hJ.len_eq
 refine J.run 13 K13_0 [(10, .bool ((len : Int) != (mn : Int))), (0, .slice la len cap), (1, .slice ma mn mc)] w (by kernel_rfl) ?_
 by_cases fk1 : (len : Int) = (mn : Int)
 rotate_left
 ·skip
  refine J.head (.bool true) (congrArg Value.bool (bne_iff_ne.2 fk1)) ?_
  refine J.run 5 K13_7 [(4, .bool false)] w (by kernel_rfl) ?_
  refine J.ret Try.f13 [.bool false] Try.func13 ⟨by kernel_rfl, trivial⟩ ?_
  refine hR _ _ ?_
  exact ⟨congrArg Value.bool (beq_no hl2 hm2 (by omega)).symm, S0.nil⟩

 refine J.head (.bool false) (congrArg Value.bool (bne_eq_false_iff_eq.2 fk1)) ?_
 refine J.run 11 K13_1 [(13, .int .i64 0), (12, .int .i64 (len : Int)), (0, .slice la len cap), (1, .slice ma mn mc)] w (by kernel_rfl) ?_
 have L13_1 : ∀ (mm_ : Nat) (i : Int) (w1 : World), (0 ≤ i) → (i ≤ (len : Int)) → (∀ j, j < (i).toNat → l.getD j 0 = ml.getD j 0) → Sep w [] w1 → ((len : Int) - i).toNat = mm_ → J Try.prog 13 26 R K13_1 [(13, .int .i64 i), (12, .int .i64 (len : Int)), (0, .slice la len cap), (1, .slice ma mn mc)] w1 := by
  intro mm1
  induction mm1 using Nat.strongRecOn with
  | _ mm1 ih1 =>
  intro i w1 h0 h1 hq S1 hm1
  refine J.run 5 K13_2 [(14, .bool (decide (i < (len : Int)))), (13, .int .i64 i), (12, .int .i64 (len : Int)), (0, .slice la len cap), (1, .slice ma mn mc)] w1 (by kernel_rfl) ?_
  by_cases fk2 : i < (len : Int)
  rotate_left
  ·skip
   refine J.head (.bool false) (congrArg Value.bool (decide_eq_false fk2)) ?_
   refine J.run 6 K13_6 [(4, .bool true)] w1 (by kernel_rfl) ?_
   refine J.ret Try.f13 [.bool true] Try.func13 ⟨by kernel_rfl, trivial⟩ ?_
   refine hR _ _ ?_
   exact ⟨congrArg Value.bool (beq_all (by omega) fun j hj => hq j (by omega)).symm, S1.nil⟩
  refine J.head (.bool true) (congrArg Value.bool (decide_eq_true fk2)) ?_
  refine J.run 10 K13_3 [(5, .int .i64 i), (13, .int .i64 i), (12, .int .i64 (len : Int)), (0, .slice la len cap), (1, .slice ma mn mc)] w1 (by kernel_rfl) ?_
  obtain ⟨p1, hp1, hc1⟩ := hI.at 0 (i).toNat (by omega)
  obtain ⟨p2, hp2, hc2⟩ := hJ.at 0 (i).toNat (by omega)
  refine J.drawStill S1 9 Try.mixed (by kernel_rfl) (by kernel_rfl) (by kernel_rfl) ?_
  intro w2 S2
  refine SL.ok (by decide) (OK.run 16 (.slice la len cap) (by kernel_rfl)) ?_
  refine SL.ok (by decide) (OK.run 17 (.int .i64 i) (by kernel_rfl)) ?_
  refine SL.ok (by decide) (OK.index 18 26 1 la p1 len (i).toNat i (p1.add (i).toNat) (by kernel_rfl) (by kernel_rfl) hp1 (by omega) (by omega) (by rw [Nat.mul_one])) ?_
  refine SL.ok (by decide) (OK.ldCell 19 3 (p1.add (i).toNat) (.int .i64 (l.getD (i).toNat 0)) (by kernel_rfl) (by kernel_rfl) (S2.cell hc1)) ?_
  refine SL.ok (by decide) (OK.run 20 (.slice ma mn mc) (by kernel_rfl)) ?_
  refine SL.ok (by decide) (OK.run 21 (.int .i64 i) (by kernel_rfl)) ?_
  refine SL.ok (by decide) (OK.index 22 26 1 ma p2 mn (i).toNat i (p2.add (i).toNat) (by kernel_rfl) (by kernel_rfl) hp2 (by omega) (by omega) (by rw [Nat.mul_one])) ?_
  refine SL.ok (by decide) (OK.ldCell 23 3 (p2.add (i).toNat) (.int .i64 (ml.getD (i).toNat 0)) (by kernel_rfl) (by kernel_rfl) (S2.cell hc2)) ?_
  refine SL.ok (by decide) (OK.run 24 (.bool ((l.getD (i).toNat 0) != (ml.getD (i).toNat 0))) (by kernel_rfl)) ?_
  refine SL.done ?_
  refine TL.done (by kernel_rfl) ?_
  refine J.run 0 (rRest K13_3) [(24, .bool ((l.getD (i).toNat 0) != (ml.getD (i).toNat 0))), (13, .int .i64 i), (12, .int .i64 (len : Int)), (0, .slice la len cap), (1, .slice ma mn mc)] w2 (by kernel_rfl) ?_
  by_cases fk3 : (l.getD (i).toNat 0) = (ml.getD (i).toNat 0)
  rotate_left
  ·skip
   refine J.head (.bool true) (congrArg Value.bool (bne_iff_ne.2 fk3)) ?_
   refine J.run 5 K13_5 [(4, .bool false)] w2 (by kernel_rfl) ?_
   refine J.ret Try.f13 [.bool false] Try.func13 ⟨by kernel_rfl, trivial⟩ ?_
   refine hR _ _ ?_
   exact ⟨congrArg Value.bool (beq_at (i := i.toNat) fk3).symm, S2.nil⟩
  refine J.head (.bool false) (congrArg Value.bool (bne_eq_false_iff_eq.2 fk3)) ?_
  refine J.run 5 K13_4 [(25, .int .i64 (IntKind.wrap .i64 (i + 1))), (12, .int .i64 (len : Int)), (0, .slice la len cap), (1, .slice ma mn mc)] w2 (by kernel_rfl) ?_
  refine J.head (.int .i64 (i + 1)) (congrArg (Value.int .i64) (IntWalk.i64_in _ (by omega))) ?_
  refine J.run 3 K13_1 [(13, .int .i64 (i + 1)), (12, .int .i64 (len : Int)), (0, .slice la len cap), (1, .slice ma mn mc)] w2 (by kernel_rfl) ?_
  refine J.run 0 K13_1 [(13, .int .i64 (i + 1)), (12, .int .i64 (len : Int)), (0, .slice la len cap), (1, .slice ma mn mc)] w2 (by kernel_rfl) ?_
  exact ih1 _ (show ((len : Int) - (i + 1)).toNat < mm1 from by omega) (i + 1) w2 (by omega) (by omega) (by intro j hj; by_cases e : j = i.toNat; (subst e; exact fk3); exact hq j (by omega)) S2 rfl
 exact L13_1 _ 0 w (by omega) (by omega) (by intro j hj; simp at hj) S0 rfl
/-- state and age after so many steps -/
def stF (c : Cht) (l : List Int) : Nat → Int × Int
  | 0 => (c.gStart, 0)
  | k + 1 => (stepS c (stF c l k).1 (stF c l k).2 (l.getD k 0), stepA c (stF c l k).1 (stF c l k).2 (l.getD k 0))
def outF (c : Cht) (l : List Int) (k : Nat) : List Int := (List.range k).map fun j => (stF c l (j + 1)).1
def runE (c : Cht) (l : List Int) : Int := if validC c = false then 1 else if 1000 < l.length then 5 else if (l.any fun x => !insideB c x) then 2 else 0
def runO (c : Cht) (l : List Int) : List Int := if runE c l = 0 then outF c l l.length else []
theorem outF_snoc {c : Cht} {l : List Int} {i s a : Int} (h0 : 0 ≤ i) (hs : s = (stF c l i.toNat).1) (ha : a = (stF c l i.toNat).2) : outF c l (i + 1).toNat = outF c l i.toNat ++ [stepS c s a (l.getD i.toNat 0)] := by
  rw [show (i + 1).toNat = i.toNat + 1 by omega, hs, ha]; unfold outF; rw [List.range_succ, List.map_append]; rfl
theorem stF_next {c : Cht} {l : List Int} {i s a : Int} (h0 : 0 ≤ i) (hs : s = (stF c l i.toNat).1) (ha : a = (stF c l i.toNat).2) : stepS c s a (l.getD i.toNat 0) = (stF c l (i + 1).toNat).1 ∧ stepA c s a (l.getD i.toNat 0) = (stF c l (i + 1).toNat).2 := by
  rw [show (i + 1).toNat = i.toNat + 1 by omega, hs, ha]; exact ⟨rfl, rfl⟩
theorem run_ok {c : Cht} {l : List Int} (h1 : validC c = true) (h2 : l.length ≤ 1000) (h3 : (l.any fun x => !insideB c x) = false) : runE c l = 0 ∧ runO c l = outF c l l.length := by
  have e : runE c l = 0 := by unfold runE; rw [if_neg (by rw [h1]; decide), if_neg (by omega), if_neg (by rw [h3]; decide)]
  exact ⟨e, by unfold runO; rw [if_pos e]⟩
theorem run_err {c : Cht} {l : List Int} {e : Int} (h : runE c l = e) (h0 : e ≠ 0) : runO c l = [] := by unfold runO; rw [if_neg (by omega)]
theorem run_e1 {c : Cht} {l : List Int} (h1 : validC c = false) : runE c l = 1 := by unfold runE; rw [if_pos h1]
theorem run_e5 {c : Cht} {l : List Int} (h1 : validC c = true) (h2 : 1000 < l.length) : runE c l = 5 := by unfold runE; rw [if_neg (by rw [h1]; decide), if_pos h2]
theorem run_e2 {c : Cht} {l : List Int} (h1 : validC c = true) (h2 : l.length ≤ 1000) (h3 : (l.any fun x => !insideB c x) = true) : runE c l = 2 := by unfold runE; rw [if_neg (by rw [h1]; decide), if_neg (by omega), if_pos h3]
theorem none_out {c : Cht} {l : List Int} (h : ∀ j, j < l.length → insideB c (l.getD j 0) = true) : (l.any fun x => !insideB c x) = false := by
  rw [List.any_eq_false]
  intro x hx
  obtain ⟨j, hj, rfl⟩ := List.mem_iff_getElem.1 hx
  have := h j hj
  simp [List.getD, hj] at this
  simp [this]
theorem runE_bounds (c : Cht) (l : List Int) : 0 ≤ runE c l ∧ runE c l ≤ 5 := by
  unfold runE
  split
  · omega
  · split
    · omega
    · split <;> omega
theorem stF_bounds {c : Cht} (h : validC c = true) (l : List Int) (k : Nat) : (0 ≤ (stF c l k).1 ∧ (stF c l k).1 < (c.gStates_n : Int)) ∧ 0 ≤ (stF c l k).2 ∧ (stF c l k).2 ≤ 1000 := by
  induction k with
  | zero => have := validC_facts h; simp [stF]; omega
  | succ k ih => exact step_bounds h _ ih.1 ih.2
theorem hb11 : HasBody Try.prog 11 := fun _ _ => by kernel_rfl
def K11_0 := adv 2 [] (bodyOf Try.f11)
def K11_1 := adv 6 [] (popK K11_0)
def K11_2 := adv 2 [] (popK (popK K11_1))
def K11_3 := adv 9 [false] K11_2
def K11_4 := adv 6 [true] K11_3
def K11_5 := adv 7 [false] K11_3
def K11_6 := adv 1 [] (popK K11_5)
def K11_7 := adv 6 [true] K11_6
def K11_8 := adv 5 [false] K11_6
def K11_9 := adv 1 [] (popK K11_8)
def K11_10 := adv 14 [] (popK (popK K11_9))
def K11_11 := adv 5 [] K11_10
def K11_12 := adv 6 [true] K11_11
def K11_13 := adv 4 [] (popK (popK K11_12))
def K11_14 := adv 1 [] (popK (popK K11_13))
def K11_15 := adv 3 [] (popK K11_14)
def K11_16 := adv 4 [] (popK K11_15)
def K11_17 := adv 5 [] (popK (popK (popK K11_16)))
def K11_18 := adv 8 [false] K11_11
def K11_19 := adv 6 [true] K11_2
set_option maxRecDepth 20000 in
set_option maxHeartbeats 20000000 in
theorem run_any (c : Cht) (la : Option Addr) (len cap : Nat) (l : List Int) (w : World) (hc : chtQ w c) (hI : Ints w la len l) (hlen : len ≤ 9223372036854775807) : Ret Try.prog 11 #[.agg #[.slice c.gStates_a c.gStates_n c.gStates_c, .slice c.gInputs_a c.gInputs_n c.gInputs_c, .int .i64 c.gStart, .slice c.gMoves_a c.gMoves_n c.gMoves_c], .slice la len cap] w (fun v w' => ∃ a2 cap2, v = .tuple #[.slice a2 (runO c l).length cap2, .int .i64 (runE c l)] ∧ Sep w [rowOf encI a2 cap2 3 1 (runO c l)] w') := by
 have S0 := Sep.refl w
 refine Ret.named fun R hR => ?_
 refine Ret.of_J (N := 42) [(0, .agg #[.slice c.gStates_a c.gStates_n c.gStates_c, .slice c.gInputs_a c.gInputs_n c.gInputs_c, .int .i64 c.gStart, .slice c.gMoves_a c.gMoves_n c.gMoves_c]), (1, .slice la len cap)] Try.func11 rfl rfl (Nat.le_of_ble_eq_true (by kernel_rfl)) (by kernel_rfl) ?_
 obtain ⟨q1, q2, q3, q4, q5, q6, q7, q8, q9, q10, _⟩ := id hc
 have ql1 := q2.len_eq
 have ql2 := q5.len_eq
 have ql3 := q9.len_eq
 have hll := hI.len_eq
 refine J.run 2 K11_0 [(0, .agg #[.slice c.gStates_a c.gStates_n c.gStates_c, .slice c.gInputs_a c.gInputs_n c.gInputs_c, .int .i64 c.gStart, .slice c.gMoves_a c.gMoves_n c.gMoves_c]), (1, .slice la len cap)] w (by kernel_rfl) ?_
 refine J.new S0 2 [.slice c.gStates_a c.gStates_n c.gStates_c, .slice c.gInputs_a c.gInputs_n c.gInputs_c, .int .i64 c.gStart, .slice c.gMoves_a c.gMoves_n c.gMoves_c] 25 (by kernel_rfl) ?_
 intro b1 w1 S1
 refine J.run 6 K11_1 [(2, .pointer (some ⟨b1, 0, none⟩)), (1, .slice la len cap)] w1 (by kernel_rfl) ?_
 refine J.ok (OK.ldBox S1 0 10 25 0 (.agg #[.slice c.gStates_a c.gStates_n c.gStates_c, .slice c.gInputs_a c.gInputs_n c.gInputs_c, .int .i64 c.gStart, .slice c.gMoves_a c.gMoves_n c.gMoves_c]) (by kernel_rfl) rfl (by kernel_rfl)) ?_
 refine J.callF 11 19 #[.agg #[.slice c.gStates_a c.gStates_n c.gStates_c, .slice c.gInputs_a c.gInputs_n c.gInputs_c, .int .i64 c.gStart, .slice c.gMoves_a c.gMoves_n c.gMoves_c]] hb19 (by kernel_rfl) (valid_any c _ (chtQ_sep hc S1)) ?_
 rintro _ w2 ⟨rfl, T1⟩
 have S2 : Sep w [box b1 [.slice c.gStates_a c.gStates_n c.gStates_c, .slice c.gInputs_a c.gInputs_n c.gInputs_c, .int .i64 c.gStart, .slice c.gMoves_a c.gMoves_n c.gMoves_c] 25] w2 := S1.trans T1
 clear T1 S1
 refine J.run 2 K11_2 [(12, .bool (!(validC c))), (2, .pointer (some ⟨b1, 0, none⟩)), (1, .slice la len cap)] w2 (by kernel_rfl) ?_
 rcases Bool.eq_false_or_eq_true (validC c) with fk1 | fk1
 rotate_left
 ·skip
  refine J.head (.bool true) (congrArg Value.bool (by rw [fk1]; rfl)) ?_
  refine J.run 6 K11_19 [(5, .int .i64 1), (4, .slice none 0 0)] w2 (by kernel_rfl) ?_
  refine J.ret Try.f11 [.slice none 0 0, .int .i64 1] Try.func11 ⟨by kernel_rfl, by kernel_rfl, trivial⟩ ?_
  refine hR _ _ ?_
  have e1 := run_e1 (c := c) (l := l) fk1
  have e2 := run_err e1 (by omega)
  exact ⟨none, 0, by rw [tup_two, e1, e2]; rfl, by rw [e2]; exact (S2.nilRow 3 1).pick 0 rfl⟩
 refine J.head (.bool false) (congrArg Value.bool (by rw [fk1]; rfl)) ?_
 have hvf := validC_facts fk1
 refine J.run 9 K11_3 [(15, .bool (decide ((len : Int) > 1000))), (2, .pointer (some ⟨b1, 0, none⟩)), (1, .slice la len cap)] w2 (by kernel_rfl) ?_
 by_cases fk2 : (len : Int) > 1000
 ·skip
  refine J.head (.bool true) (congrArg Value.bool (decide_eq_true fk2)) ?_
  refine J.run 6 K11_4 [(5, .int .i64 5), (4, .slice none 0 0)] w2 (by kernel_rfl) ?_
  refine J.ret Try.f11 [.slice none 0 0, .int .i64 5] Try.func11 ⟨by kernel_rfl, by kernel_rfl, trivial⟩ ?_
  refine hR _ _ ?_
  have e1 := run_e5 (c := c) (l := l) fk1 (by omega)
  have e2 := run_err e1 (by omega)
  exact ⟨none, 0, by rw [tup_two, e1, e2]; rfl, by rw [e2]; exact (S2.nilRow 3 1).pick 0 rfl⟩
 refine J.head (.bool false) (congrArg Value.bool (decide_eq_false fk2)) ?_
 refine J.run 7 K11_5 [(17, .func (.func 33) #[] #[.pointer (some ⟨b1, 0, none⟩)]), (16, .slice la len cap), (2, .pointer (some ⟨b1, 0, none⟩)), (1, .slice la len cap)] w2 (by kernel_rfl) ?_
 have hch : chtQ w2 c := (chtQ_sep hc S2)
 refine J.callF 18 25 #[.slice la len cap, .func (.func 33) #[] #[.pointer (some ⟨b1, 0, none⟩)]] hb25 (by kernel_rfl) (containsI1 la len cap l 33 (.pointer (some ⟨b1, 0, none⟩)) (fun x => !insideB c x) _ (hI.sep S2) (by first | omega | (simp; omega)) hb33 (fun i_ w_ hi_ S_ => run1_any c b1 _ w_ (chtQ_sep hch S_) (by first | omega | decide) (box_keep (S2.nth 0 rfl) S_))) ?_
 rintro _ w3 ⟨rfl, T2⟩
 have S3 : Sep w [box b1 [.slice c.gStates_a c.gStates_n c.gStates_c, .slice c.gInputs_a c.gInputs_n c.gInputs_c, .int .i64 c.gStart, .slice c.gMoves_a c.gMoves_n c.gMoves_c] 25] w3 := S2.trans T2
 clear T2 S2
 refine J.run 1 K11_6 [(18, .bool (List.any l (fun x => !insideB c x))), (2, .pointer (some ⟨b1, 0, none⟩)), (1, .slice la len cap)] w3 (by kernel_rfl) ?_
 rcases Bool.eq_false_or_eq_true (List.any l (fun x => !insideB c x)) with fk3 | fk3
 ·skip
  refine J.head (.bool true) (congrArg Value.bool fk3) ?_
  refine J.run 6 K11_7 [(5, .int .i64 2), (4, .slice none 0 0)] w3 (by kernel_rfl) ?_
  refine J.ret Try.f11 [.slice none 0 0, .int .i64 2] Try.func11 ⟨by kernel_rfl, by kernel_rfl, trivial⟩ ?_
  refine hR _ _ ?_
  have e1 := run_e2 (c := c) (l := l) fk1 (by omega) fk3
  have e2 := run_err e1 (by omega)
  exact ⟨none, 0, by rw [tup_two, e1, e2]; rfl, by rw [e2]; exact (S3.nilRow 3 1).pick 0 rfl⟩
 refine J.head (.bool false) (congrArg Value.bool fk3) ?_
 refine J.run 5 K11_8 [(19, .pointer (some ⟨b1, 2, none⟩)), (2, .pointer (some ⟨b1, 0, none⟩)), (1, .slice la len cap)] w3 (by kernel_rfl) ?_
 refine J.ok (OK.ldBox S3 0 20 3 2 (.int .i64 c.gStart) (by kernel_rfl) rfl (by kernel_rfl)) ?_
 refine J.run 1 K11_9 [(21, .agg #[.int .i64 c.gStart, .int .i64 0]), (2, .pointer (some ⟨b1, 0, none⟩)), (1, .slice la len cap)] w3 (by kernel_rfl) ?_
 refine J.new S3 6 [.int .i64 0, .int .i64 0] 37 (by kernel_rfl) ?_
 intro b2 w4 S4
 refine J.stBox S4 0 37 0 (.agg #[.int .i64 c.gStart, .int .i64 0]) [.int .i64 c.gStart, .int .i64 0] [box b2 [.int .i64 c.gStart, .int .i64 0] 37, box b1 [.slice c.gStates_a c.gStates_n c.gStates_c, .slice c.gInputs_a c.gInputs_n c.gInputs_c, .int .i64 c.gStart, .slice c.gMoves_a c.gMoves_n c.gMoves_c] 25] (by kernel_rfl) rfl (by kernel_rfl) (by kernel_rfl) rfl ?_
 intro w5 S5
 refine J.run 14 K11_10 [(24, .int .i64 0), (23, .int .i64 (len : Int)), (22, .slice la len cap), (7, .slice none 0 0), (6, .pointer (some ⟨b2, 0, none⟩)), (2, .pointer (some ⟨b1, 0, none⟩))] w5 (by kernel_rfl) ?_
 have S6 : Sep w [rowOf encI none 0 3 1 ([]), box b2 [.int .i64 c.gStart, .int .i64 0] 37, box b1 [.slice c.gStates_a c.gStates_n c.gStates_c, .slice c.gInputs_a c.gInputs_n c.gInputs_c, .int .i64 c.gStart, .slice c.gMoves_a c.gMoves_n c.gMoves_c] 25] w5 := S5.nilRow 3 1
 have L11_1 : ∀ (mm_ : Nat) (ra : Option Addr) (rc : Nat) (ls : List Int) (s : Int) (a : Int) (i : Int) (w6 : World), (0 ≤ i) → (i ≤ (len : Int)) → ((ls).length = (i).toNat) → (s = (stF c l (i).toNat).1) → (a = (stF c l (i).toNat).2) → (ls = outF c l (i).toNat) → Sep w [rowOf encI ra rc 3 1 ls, box b2 [.int .i64 s, .int .i64 a] 37, box b1 [.slice c.gStates_a c.gStates_n c.gStates_c, .slice c.gInputs_a c.gInputs_n c.gInputs_c, .int .i64 c.gStart, .slice c.gMoves_a c.gMoves_n c.gMoves_c] 25] w6 → ((len : Int) - i).toNat = mm_ → J Try.prog 11 42 R K11_10 [(24, .int .i64 i), (23, .int .i64 (len : Int)), (22, .slice la len cap), (7, .slice ra ls.length rc), (6, .pointer (some ⟨b2, 0, none⟩)), (2, .pointer (some ⟨b1, 0, none⟩))] w6 := by
  intro mm1
  induction mm1 using Nat.strongRecOn with
  | _ mm1 ih1 =>
  intro ra rc ls s a i w6 h0 h1 hn hs ha hls S7 hm1
  have hsb := stF_bounds fk1 l i.toNat; rw [← hs, ← ha] at hsb
  refine J.run 5 K11_11 [(25, .bool (decide (i < (len : Int)))), (24, .int .i64 i), (23, .int .i64 (len : Int)), (22, .slice la len cap), (7, .slice ra ls.length rc), (6, .pointer (some ⟨b2, 0, none⟩)), (2, .pointer (some ⟨b1, 0, none⟩))] w6 (by kernel_rfl) ?_
  by_cases fk4 : i < (len : Int)
  rotate_left
  ·skip
   refine J.head (.bool false) (congrArg Value.bool (decide_eq_false fk4)) ?_
   refine J.run 8 K11_18 [(5, .int .i64 0), (4, .slice ra ls.length rc)] w6 (by kernel_rfl) ?_
   refine J.ret Try.f11 [.slice ra ls.length rc, .int .i64 0] Try.func11 ⟨by kernel_rfl, by kernel_rfl, trivial⟩ ?_
   refine hR _ _ ?_
   obtain ⟨e1, e2⟩ := run_ok (c := c) (l := l) fk1 (by omega) fk3
   have e3 : ls = runO c l := by rw [e2, hls, show i.toNat = l.length by omega]
   subst e3
   exact ⟨ra, rc, by rw [tup_two, e1], S7.pick 0 rfl⟩
  refine J.head (.bool true) (congrArg Value.bool (decide_eq_true fk4)) ?_
  refine J.run 6 K11_12 [(24, .int .i64 i), (23, .int .i64 (len : Int)), (22, .slice la len cap), (7, .slice ra ls.length rc), (6, .pointer (some ⟨b2, 0, none⟩)), (2, .pointer (some ⟨b1, 0, none⟩))] w6 (by kernel_rfl) ?_
  obtain ⟨p1, hp1, hc1⟩ := hI.at 0 (i).toNat (by omega)
  refine J.ok (OK.index 26 26 1 la p1 len (i).toNat i (p1.add (i).toNat) (by kernel_rfl) (by kernel_rfl) hp1 (by omega) (by omega) (by rw [Nat.mul_one])) ?_
  refine J.ok (OK.ldCell 27 3 (p1.add (i).toNat) (.int .i64 (l.getD (i).toNat 0)) (by kernel_rfl) (by kernel_rfl) (S7.cell hc1)) ?_
  refine J.run 4 K11_13 [(9, .int .i64 (l.getD (i).toNat 0)), (24, .int .i64 i), (23, .int .i64 (len : Int)), (22, .slice la len cap), (7, .slice ra ls.length rc), (6, .pointer (some ⟨b2, 0, none⟩)), (2, .pointer (some ⟨b1, 0, none⟩))] w6 (by kernel_rfl) ?_
  refine J.ok (OK.ldBox S7 2 29 25 0 (.agg #[.slice c.gStates_a c.gStates_n c.gStates_c, .slice c.gInputs_a c.gInputs_n c.gInputs_c, .int .i64 c.gStart, .slice c.gMoves_a c.gMoves_n c.gMoves_c]) (by kernel_rfl) rfl (by kernel_rfl)) ?_
  refine J.ok (OK.ldBox S7 1 30 37 0 (.agg #[.int .i64 s, .int .i64 a]) (by kernel_rfl) rfl (by kernel_rfl)) ?_
  refine J.run 1 K11_14 [(31, .int .i64 (l.getD (i).toNat 0)), (30, .agg #[.int .i64 s, .int .i64 a]), (29, .agg #[.slice c.gStates_a c.gStates_n c.gStates_c, .slice c.gInputs_a c.gInputs_n c.gInputs_c, .int .i64 c.gStart, .slice c.gMoves_a c.gMoves_n c.gMoves_c]), (24, .int .i64 i), (23, .int .i64 (len : Int)), (22, .slice la len cap), (7, .slice ra ls.length rc), (6, .pointer (some ⟨b2, 0, none⟩)), (2, .pointer (some ⟨b1, 0, none⟩))] w6 (by kernel_rfl) ?_
  refine J.callF 32 35 #[.agg #[.slice c.gStates_a c.gStates_n c.gStates_c, .slice c.gInputs_a c.gInputs_n c.gInputs_c, .int .i64 c.gStart, .slice c.gMoves_a c.gMoves_n c.gMoves_c], .agg #[.int .i64 s, .int .i64 a], .int .i64 (l.getD (i).toNat 0)] hb35 (by kernel_rfl) (step_any c s a (l.getD (i).toNat 0) _ (chtQ_sep hc S7) (by omega)) ?_
  rintro _ w7 ⟨rfl, T3⟩
  have S8 : Sep w [rowOf encI ra rc 3 1 ls, box b2 [.int .i64 s, .int .i64 a] 37, box b1 [.slice c.gStates_a c.gStates_n c.gStates_c, .slice c.gInputs_a c.gInputs_n c.gInputs_c, .int .i64 c.gStart, .slice c.gMoves_a c.gMoves_n c.gMoves_c] 25] w7 := S7.trans T3
  clear T3 S7
  have := stepI_bounds c s a (l.getD (i).toNat 0)
  refine J.run 3 K11_15 [(33, .agg #[.int .i64 (stepS c s a (l.getD (i).toNat 0)), .int .i64 (stepA c s a (l.getD (i).toNat 0))]), (24, .int .i64 i), (23, .int .i64 (len : Int)), (22, .slice la len cap), (7, .slice ra ls.length rc), (6, .pointer (some ⟨b2, 0, none⟩)), (2, .pointer (some ⟨b1, 0, none⟩))] w7 (by kernel_rfl) ?_
  refine J.stBox S8 1 37 0 (.agg #[.int .i64 (stepS c s a (l.getD (i).toNat 0)), .int .i64 (stepA c s a (l.getD (i).toNat 0))]) [.int .i64 (stepS c s a (l.getD (i).toNat 0)), .int .i64 (stepA c s a (l.getD (i).toNat 0))] [rowOf encI ra rc 3 1 ls, box b2 [.int .i64 (stepS c s a (l.getD (i).toNat 0)), .int .i64 (stepA c s a (l.getD (i).toNat 0))] 37, box b1 [.slice c.gStates_a c.gStates_n c.gStates_c, .slice c.gInputs_a c.gInputs_n c.gInputs_c, .int .i64 c.gStart, .slice c.gMoves_a c.gMoves_n c.gMoves_c] 25] (by kernel_rfl) rfl (by kernel_rfl) (by kernel_rfl) rfl ?_
  intro w8 S9
  refine J.run 4 K11_16 [(36, .pointer (some ⟨b2, 0, none⟩)), (35, .slice ra ls.length rc), (24, .int .i64 i), (23, .int .i64 (len : Int)), (22, .slice la len cap), (6, .pointer (some ⟨b2, 0, none⟩)), (2, .pointer (some ⟨b1, 0, none⟩))] w8 (by kernel_rfl) ?_
  refine J.ok (OK.ldBox S9 1 37 3 0 (.int .i64 (stepS c s a (l.getD (i).toNat 0))) (by kernel_rfl) rfl (by kernel_rfl)) ?_
  refine J.newSlice S9 38 1 [.int .i64 (stepS c s a (l.getD (i).toNat 0))] 3 (by kernel_rfl) ?_
  intro b3 w9 S10
  refine J.append encI S10 1 ls (stepS c s a (l.getD (i).toNat 0)) 39 26 (.int .i64 0) 8 ⟨b3, 0, none⟩ 1 rfl (by kernel_rfl) (by kernel_rfl) (by kernel_rfl) (by kernel_rfl) (by decide) (box_cells (S10.nth 0 rfl)) (by kernel_rfl) (by kernel_rfl) (⟨by omega, by omega⟩) ?_
  intro ra1 rc1 w10 S11
  replace S11 : Sep w [box b3 [.int .i64 (stepS c s a (l.getD (i).toNat 0))] 3, rowOf encI ra1 rc1 3 1 (ls ++ [stepS c s a (l.getD (i).toNat 0)]), box b2 [.int .i64 (stepS c s a (l.getD (i).toNat 0)), .int .i64 (stepA c s a (l.getD (i).toNat 0))] 37, box b1 [.slice c.gStates_a c.gStates_n c.gStates_c, .slice c.gInputs_a c.gInputs_n c.gInputs_c, .int .i64 c.gStart, .slice c.gMoves_a c.gMoves_n c.gMoves_c] 25] w10 := S11
  have S12 : Sep w [rowOf encI ra1 rc1 3 1 (ls ++ [stepS c s a (l.getD (i).toNat 0)]), box b2 [.int .i64 (stepS c s a (l.getD (i).toNat 0)), .int .i64 (stepA c s a (l.getD (i).toNat 0))] 37, box b1 [.slice c.gStates_a c.gStates_n c.gStates_c, .slice c.gInputs_a c.gInputs_n c.gInputs_c, .int .i64 c.gStart, .slice c.gMoves_a c.gMoves_n c.gMoves_c] 25] w10 := S11.erase 0
  clear S11
  refine J.run 5 K11_17 [(40, .int .i64 (IntKind.wrap .i64 (i + 1))), (7, .slice ra1 ((ls ++ [stepS c s a (l.getD (i).toNat 0)]).length) rc1), (23, .int .i64 (len : Int)), (22, .slice la len cap), (6, .pointer (some ⟨b2, 0, none⟩)), (2, .pointer (some ⟨b1, 0, none⟩))] w10 (by kernel_rfl) ?_
  refine J.head (.int .i64 (i + 1)) (congrArg (Value.int .i64) (IntWalk.i64_in _ (by omega))) ?_
  refine J.run 3 K11_10 [(24, .int .i64 (i + 1)), (7, .slice ra1 ((ls ++ [stepS c s a (l.getD (i).toNat 0)]).length) rc1), (23, .int .i64 (len : Int)), (22, .slice la len cap), (6, .pointer (some ⟨b2, 0, none⟩)), (2, .pointer (some ⟨b1, 0, none⟩))] w10 (by kernel_rfl) ?_
  refine J.run 0 K11_10 [(24, .int .i64 (i + 1)), (23, .int .i64 (len : Int)), (22, .slice la len cap), (7, .slice ra1 ((ls ++ [stepS c s a (l.getD (i).toNat 0)]).length) rc1), (6, .pointer (some ⟨b2, 0, none⟩)), (2, .pointer (some ⟨b1, 0, none⟩))] w10 (by kernel_rfl) ?_
  exact ih1 _ (show ((len : Int) - (i + 1)).toNat < mm1 from by omega) ra1 rc1 (ls ++ [stepS c s a (l.getD (i).toNat 0)]) (stepS c s a (l.getD (i).toNat 0)) (stepA c s a (l.getD (i).toNat 0)) (i + 1) w10 (by omega) (by omega) (by simp; omega) ((stF_next h0 hs ha).1) ((stF_next h0 hs ha).2) (by rw [outF_snoc h0 hs ha, ← hls]) S12 rfl
 exact L11_1 _ none 0 ([]) c.gStart 0 0 w5 (by omega) (by omega) (rfl) (rfl) (rfl) (rfl) S6 rfl

end
end Go.Proofs.Ytbbpgidmadlgmaa

