/- Walks of functions of this seat, printed by a program over the engine. Conditions: as each theorem says. -/
import Derived.Test.YtbbpgidmadlgmaaZdX10
namespace Go.Proofs.Ytbbpgidmadlgmaa
noncomputable section
open Go.Eng Go.RowKit
set_option linter.unusedSimpArgs false
set_option linter.unusedVariables false
def K15a_0 := adv 13 [] (bodyOf Try.f15)
def K15a_1 := adv 5 [] K15a_0
def K15a_2 := adv 14 [true] K15a_1
def K15a_3 := adv 1 [] (popK (popK (popK K15a_2)))
def K15a_4 := adv 6 [true] K15a_3
def K15a_5 := adv 5 [false] K15a_3
def K15a_6 := adv 6 [false] K15a_1
set_option maxRecDepth 20000 in
set_option maxHeartbeats 20000000 in
theorem indexM0 (la : Option Addr) (len cap : Nat) (l : List Mv) (g : FuncId) (q : Mv → Bool) (w : World) (hI : Recs mvE 5 w la len l) (hlen : len ≤ 9223372036854775807) (hbg : HasBody Try.prog g) (hcall : ∀ (i : Nat) (w2 : World), i < l.length → Sep w [] w2 → Ret Try.prog g #[.agg #[.int .i64 ((l.getD i (⟨0, 0, 0, 0, 0⟩ : Mv)).gFrom), .int .i64 ((l.getD i (⟨0, 0, 0, 0, 0⟩ : Mv)).gTo), .int .i64 ((l.getD i (⟨0, 0, 0, 0, 0⟩ : Mv)).gOn), .int .i64 ((l.getD i (⟨0, 0, 0, 0, 0⟩ : Mv)).gOff), .int .i64 ((l.getD i (⟨0, 0, 0, 0, 0⟩ : Mv)).gAfter)]] w2 (fun v w3 => v = .bool (q (l.getD i (⟨0, 0, 0, 0, 0⟩ : Mv))) ∧ Sep w2 [] w3)) : Ret Try.prog 15 #[.slice la len cap, .func (.func g) #[] #[]] w (fun v w' => v = .int .i64 (indexF q l) ∧ Sep w [] w') := by
 have S0 := Sep.refl w
 refine Ret.named fun R hR => ?_
 refine Ret.of_J (N := 19) [(0, .slice la len cap), (1, .func (.func g) #[] #[])] Try.func15 rfl rfl (Nat.le_of_ble_eq_true (by kernel_rfl)) (by kernel_rfl) ?_
 refine J.run 13 K15a_0 [(8, .int .i64 0), (7, .int .i64 (len : Int)), (0, .slice la len cap), (1, .func (.func g) #[] #[])] w (by kernel_rfl) ?_
 have L15_1 : ∀ (mm_ : Nat) (i : Int) (w1 : World), (0 ≤ i) → (i ≤ (len : Int)) → (∀ j, j < (i).toNat → q (l.getD j (⟨0, 0, 0, 0, 0⟩ : Mv)) = false) → Sep w [] w1 → ((len : Int) - i).toNat = mm_ → J Try.prog 15 19 R K15a_0 [(8, .int .i64 i), (7, .int .i64 (len : Int)), (0, .slice la len cap), (1, .func (.func g) #[] #[])] w1 := by
  intro mm1
  induction mm1 using Nat.strongRecOn with
  | _ mm1 ih1 =>
  intro i w1 h0 h1 hq S1 hm1
  refine J.run 5 K15a_1 [(9, .bool (decide (i < (len : Int)))), (8, .int .i64 i), (7, .int .i64 (len : Int)), (0, .slice la len cap), (1, .func (.func g) #[] #[])] w1 (by kernel_rfl) ?_
  by_cases fk1 : i < (len : Int)
  rotate_left
  ·skip
   refine J.head (.bool false) (congrArg Value.bool (decide_eq_false fk1)) ?_
   refine J.run 6 K15a_6 [(4, .int .i64 (-1))] w1 (by kernel_rfl) ?_
   refine J.ret Try.f15 [.int .i64 (-1)] Try.func15 ⟨by kernel_rfl, trivial⟩ ?_
   refine hR _ _ ?_
   exact ⟨by rw [tup_one, indexF_none (⟨0, 0, 0, 0, 0⟩ : Mv) fun j hj => hq j (by have := hI.len_eq; omega)], S1.nil⟩
  refine J.head (.bool true) (congrArg Value.bool (decide_eq_true fk1)) ?_
  refine J.run 14 K15a_2 [(13, .int .i64 i), (12, .slice la len cap), (11, .func (.func g) #[] #[]), (5, .int .i64 i), (8, .int .i64 i), (7, .int .i64 (len : Int)), (0, .slice la len cap), (1, .func (.func g) #[] #[])] w1 (by kernel_rfl) ?_
  obtain ⟨p1, hp1, hc1⟩ := hI.at (⟨0, 0, 0, 0, 0⟩ : Mv) (i).toNat (by omega)
  refine J.ok (OK.index 14 23 5 la p1 len (i).toNat i (p1.add ((i).toNat * 5)) (by kernel_rfl) (by kernel_rfl) hp1 (by omega) (by omega) rfl) ?_
  refine J.ok (OK.ldCells 15 42 (p1.add ((i).toNat * 5)) [.int .i64 ((l.getD (i).toNat (⟨0, 0, 0, 0, 0⟩ : Mv)).gFrom), .int .i64 ((l.getD (i).toNat (⟨0, 0, 0, 0, 0⟩ : Mv)).gTo), .int .i64 ((l.getD (i).toNat (⟨0, 0, 0, 0, 0⟩ : Mv)).gOn), .int .i64 ((l.getD (i).toNat (⟨0, 0, 0, 0, 0⟩ : Mv)).gOff), .int .i64 ((l.getD (i).toNat (⟨0, 0, 0, 0, 0⟩ : Mv)).gAfter)] (by kernel_rfl) (by kernel_rfl) (by kernel_rfl) (fun j_ v_ hj_ => S1.cell (hc1 j_ v_ hj_))) ?_
  refine J.callF 16 g #[.agg #[.int .i64 ((l.getD (i).toNat (⟨0, 0, 0, 0, 0⟩ : Mv)).gFrom), .int .i64 ((l.getD (i).toNat (⟨0, 0, 0, 0, 0⟩ : Mv)).gTo), .int .i64 ((l.getD (i).toNat (⟨0, 0, 0, 0, 0⟩ : Mv)).gOn), .int .i64 ((l.getD (i).toNat (⟨0, 0, 0, 0, 0⟩ : Mv)).gOff), .int .i64 ((l.getD (i).toNat (⟨0, 0, 0, 0, 0⟩ : Mv)).gAfter)]] hbg (by kernel_rfl) (hcall (i).toNat w1 (by have := hI.len_eq; omega) S1.nil) ?_
  rintro _ w2 ⟨rfl, T1⟩
  have S2 : Sep w [] w2 := S1.trans T1
  clear T1 S1
  refine J.run 1 K15a_3 [(16, .bool (q (l.getD (i).toNat (⟨0, 0, 0, 0, 0⟩ : Mv)))), (5, .int .i64 i), (8, .int .i64 i), (7, .int .i64 (len : Int)), (0, .slice la len cap), (1, .func (.func g) #[] #[])] w2 (by kernel_rfl) ?_
  rcases Bool.eq_false_or_eq_true (q (l.getD (i).toNat (⟨0, 0, 0, 0, 0⟩ : Mv))) with fk2 | fk2
  ·skip
   refine J.head (.bool true) (congrArg Value.bool fk2) ?_
   refine J.run 6 K15a_4 [(4, .int .i64 i)] w2 (by kernel_rfl) ?_
   refine J.ret Try.f15 [.int .i64 i] Try.func15 ⟨by kernel_rfl, trivial⟩ ?_
   refine hR _ _ ?_
   exact ⟨by rw [tup_one, indexF_some (⟨0, 0, 0, 0, 0⟩ : Mv) i.toNat (by have := hI.len_eq; omega) hq fk2, Int.toNat_of_nonneg h0], S2.nil⟩
  refine J.head (.bool false) (congrArg Value.bool fk2) ?_
  refine J.run 5 K15a_5 [(18, .int .i64 (IntKind.wrap .i64 (i + 1))), (7, .int .i64 (len : Int)), (0, .slice la len cap), (1, .func (.func g) #[] #[])] w2 (by kernel_rfl) ?_
  refine J.head (.int .i64 (i + 1)) (congrArg (Value.int .i64) (IntWalk.i64_in _ (by omega))) ?_
  refine J.run 3 K15a_0 [(8, .int .i64 (i + 1)), (7, .int .i64 (len : Int)), (0, .slice la len cap), (1, .func (.func g) #[] #[])] w2 (by kernel_rfl) ?_
  refine J.run 0 K15a_0 [(8, .int .i64 (i + 1)), (7, .int .i64 (len : Int)), (0, .slice la len cap), (1, .func (.func g) #[] #[])] w2 (by kernel_rfl) ?_
  exact ih1 _ (show ((len : Int) - (i + 1)).toNat < mm1 from by omega) (i + 1) w2 (by omega) (by omega) (by intro j hj; by_cases e : j = i.toNat; (subst e; exact fk2); exact hq j (by omega)) S2 rfl
 exact L15_1 _ 0 w (by omega) (by omega) (by intro j hj; simp at hj) S0 rfl

def K38a_0 := adv 8 [] (bodyOf Try.f38)
def K38a_1 := adv 3 [] (popK K38a_0)
set_option maxRecDepth 20000 in
set_option maxHeartbeats 20000000 in
theorem containsM0 (la : Option Addr) (len cap : Nat) (l : List Mv) (g : FuncId) (q : Mv → Bool) (w : World) (hI : Recs mvE 5 w la len l) (hlen : len ≤ 9223372036854775807) (hbg : HasBody Try.prog g) (hcall : ∀ (i : Nat) (w2 : World), i < l.length → Sep w [] w2 → Ret Try.prog g #[.agg #[.int .i64 ((l.getD i (⟨0, 0, 0, 0, 0⟩ : Mv)).gFrom), .int .i64 ((l.getD i (⟨0, 0, 0, 0, 0⟩ : Mv)).gTo), .int .i64 ((l.getD i (⟨0, 0, 0, 0, 0⟩ : Mv)).gOn), .int .i64 ((l.getD i (⟨0, 0, 0, 0, 0⟩ : Mv)).gOff), .int .i64 ((l.getD i (⟨0, 0, 0, 0, 0⟩ : Mv)).gAfter)]] w2 (fun v w3 => v = .bool (q (l.getD i (⟨0, 0, 0, 0, 0⟩ : Mv))) ∧ Sep w2 [] w3)) : Ret Try.prog 38 #[.slice la len cap, .func (.func g) #[] #[]] w (fun v w' => v = .bool (l.any q) ∧ Sep w [] w') := by
 have S0 := Sep.refl w
 refine Ret.named fun R hR => ?_
 refine Ret.of_J (N := 9) [(0, .slice la len cap), (1, .func (.func g) #[] #[])] Try.func38 rfl rfl (Nat.le_of_ble_eq_true (by kernel_rfl)) (by kernel_rfl) ?_
 refine J.run 8 K38a_0 [(6, .func (.func g) #[] #[]), (5, .slice la len cap)] w (by kernel_rfl) ?_
 refine J.callF 7 15 #[.slice la len cap, .func (.func g) #[] #[]] hb15 (by kernel_rfl) (indexM0 la len cap l g  q _ (hI.sep S0) (by first | omega | (simp; omega)) hbg (hcall)) ?_
 rintro _ w1 ⟨rfl, T1⟩
 have S1 : Sep w [] w1 := S0.trans T1
 clear T1
 refine J.run 3 K38a_1 [(4, .bool (decide ((indexF q l) ≥ 0)))] w1 (by kernel_rfl) ?_
 refine J.ret Try.f38 [.bool (decide ((indexF q l) ≥ 0))] Try.func38 ⟨by kernel_rfl, trivial⟩ ?_
 refine hR _ _ ?_
 exact ⟨congrArg Value.bool (by first | exact indexF_nonneg), S1.nil⟩

theorem hb41 : HasBody Try.prog 41 := fun _ _ => by kernel_rfl
def K41_0 := adv 2 [] (bodyOf Try.f41)
def K41_1 := adv 5 [] (popK K41_0)
def K41_2 := adv 3 [] (popK K41_1)
set_option maxRecDepth 20000 in
set_option maxHeartbeats 20000000 in
theorem late_any (m : Mv) (w : World) : Ret Try.prog 41 #[.agg #[.int .i64 m.gFrom, .int .i64 m.gTo, .int .i64 m.gOn, .int .i64 m.gOff, .int .i64 m.gAfter]] w (fun v w' => v = .bool (decide (m.gAfter > 50)) ∧ Sep w [] w') := by
 have S0 := Sep.refl w
 refine Ret.named fun R hR => ?_
 refine Ret.of_J (N := 6) [(0, .agg #[.int .i64 m.gFrom, .int .i64 m.gTo, .int .i64 m.gOn, .int .i64 m.gOff, .int .i64 m.gAfter])] Try.func41 rfl rfl (Nat.le_of_ble_eq_true (by kernel_rfl)) (by kernel_rfl) ?_
 refine J.run 2 K41_0 [(0, .agg #[.int .i64 m.gFrom, .int .i64 m.gTo, .int .i64 m.gOn, .int .i64 m.gOff, .int .i64 m.gAfter])] w (by kernel_rfl) ?_
 refine J.new S0 1 [.int .i64 m.gFrom, .int .i64 m.gTo, .int .i64 m.gOn, .int .i64 m.gOff, .int .i64 m.gAfter] 42 (by kernel_rfl) ?_
 intro b1 w1 S1
 refine J.run 5 K41_1 [(3, .pointer (some ⟨b1, 4, none⟩))] w1 (by kernel_rfl) ?_
 refine J.ok (OK.ldBox S1 0 4 3 4 (.int .i64 m.gAfter) (by kernel_rfl) rfl (by kernel_rfl)) ?_
 refine J.run 3 K41_2 [(2, .bool (decide (m.gAfter > 50)))] w1 (by kernel_rfl) ?_
 refine J.ret Try.f41 [.bool (decide (m.gAfter > 50))] Try.func41 ⟨by kernel_rfl, trivial⟩ ?_
 refine hR _ _ ?_
 exact ⟨rfl, S1.nil⟩

theorem hb21 : HasBody Try.prog 21 := fun _ _ => by kernel_rfl
def K21_0 := adv 2 [] (bodyOf Try.f21)
def K21_1 := adv 4 [] (popK K21_0)
def K21_2 := adv 1 [] (popK (popK K21_1))
def K21_3 := adv 1 [] K21_2
def K21_4 := adv 4 [] (popK K21_3)
def K21_5 := adv 1 [] K21_4
def K21_6 := adv 4 [] (popK K21_5)
def K21_7 := adv 1 [] K21_6
def K21_8 := adv 4 [] (popK (popK K21_7))
def K21_9 := adv 7 [] K21_6
def K21_10 := adv 13 [] K21_4
def K21_11 := adv 19 [] K21_2
set_option maxRecDepth 20000 in
set_option maxHeartbeats 20000000 in
theorem tiny_any (c : Cht) (w : World) (hc : chtQ w c) : Ret Try.prog 21 #[.agg #[.slice c.gStates_a c.gStates_n c.gStates_c, .slice c.gInputs_a c.gInputs_n c.gInputs_c, .int .i64 c.gStart, .slice c.gMoves_a c.gMoves_n c.gMoves_c]] w (fun v w' => ∃ b, v = .bool b ∧ Sep w [] w') := by
 have S0 := Sep.refl w
 refine Ret.named fun R hR => ?_
 refine Ret.of_J (N := 23) [(0, .agg #[.slice c.gStates_a c.gStates_n c.gStates_c, .slice c.gInputs_a c.gInputs_n c.gInputs_c, .int .i64 c.gStart, .slice c.gMoves_a c.gMoves_n c.gMoves_c])] Try.func21 rfl rfl (Nat.le_of_ble_eq_true (by kernel_rfl)) (by kernel_rfl) ?_
 obtain ⟨q1, q2, q3, q4, q5, q6, q7, q8, q9, q10, _⟩ := id hc
 have ql1 := q2.len_eq
 have ql2 := q5.len_eq
 have ql3 := q9.len_eq
 refine J.run 2 K21_0 [(0, .agg #[.slice c.gStates_a c.gStates_n c.gStates_c, .slice c.gInputs_a c.gInputs_n c.gInputs_c, .int .i64 c.gStart, .slice c.gMoves_a c.gMoves_n c.gMoves_c])] w (by kernel_rfl) ?_
 refine J.new S0 1 [.slice c.gStates_a c.gStates_n c.gStates_c, .slice c.gInputs_a c.gInputs_n c.gInputs_c, .int .i64 c.gStart, .slice c.gMoves_a c.gMoves_n c.gMoves_c] 25 (by kernel_rfl) ?_
 intro b1 w1 S1
 refine J.run 4 K21_1 [(1, .pointer (some ⟨b1, 0, none⟩))] w1 (by kernel_rfl) ?_
 refine J.ok (OK.ldBox S1 0 3 25 0 (.agg #[.slice c.gStates_a c.gStates_n c.gStates_c, .slice c.gInputs_a c.gInputs_n c.gInputs_c, .int .i64 c.gStart, .slice c.gMoves_a c.gMoves_n c.gMoves_c]) (by kernel_rfl) rfl (by kernel_rfl)) ?_
 refine J.callF 4 10 #[.agg #[.slice c.gStates_a c.gStates_n c.gStates_c, .slice c.gInputs_a c.gInputs_n c.gInputs_c, .int .i64 c.gStart, .slice c.gMoves_a c.gMoves_n c.gMoves_c]] hb10 (by kernel_rfl) (small_any c _ (chtQ_sep hc S1)) ?_
 rintro _ w2 ⟨rfl, T1⟩
 have S2 : Sep w [box b1 [.slice c.gStates_a c.gStates_n c.gStates_c, .slice c.gInputs_a c.gInputs_n c.gInputs_c, .int .i64 c.gStart, .slice c.gMoves_a c.gMoves_n c.gMoves_c] 25] w2 := S1.trans T1
 clear T1 S1
 refine J.run 1 K21_2 [(5, .bool (smallB c)), (1, .pointer (some ⟨b1, 0, none⟩))] w2 (by kernel_rfl) ?_
 rcases Bool.eq_false_or_eq_true (smallB c) with fk1 | fk1
 rotate_left
 ·skip
  refine J.head (.bool false) (congrArg Value.bool fk1) ?_
  refine J.run 19 K21_11 [(2, .bool false)] w2 (by kernel_rfl) ?_
  refine J.ret Try.f21 [.bool false] Try.func21 ⟨by kernel_rfl, trivial⟩ ?_
  refine hR _ _ ?_
  exact ⟨_, rfl, S2.nil⟩
 refine J.head (.bool true) (congrArg Value.bool fk1) ?_
 refine J.run 1 K21_3 [(6, .pointer (some ⟨b1, 1, none⟩)), (5, .bool true), (1, .pointer (some ⟨b1, 0, none⟩))] w2 (by kernel_rfl) ?_
 refine J.ok (OK.ldBox S2 0 7 22 1 (.slice c.gInputs_a c.gInputs_n c.gInputs_c) (by kernel_rfl) rfl (by kernel_rfl)) ?_
 refine J.run 4 K21_4 [(11, .bool (decide ((c.gInputs_n : Int) ≤ 6))), (1, .pointer (some ⟨b1, 0, none⟩))] w2 (by kernel_rfl) ?_
 by_cases fk2 : (c.gInputs_n : Int) ≤ 6
 rotate_left
 ·skip
  refine J.head (.bool false) (congrArg Value.bool (decide_eq_false fk2)) ?_
  refine J.run 13 K21_10 [(2, .bool false)] w2 (by kernel_rfl) ?_
  refine J.ret Try.f21 [.bool false] Try.func21 ⟨by kernel_rfl, trivial⟩ ?_
  refine hR _ _ ?_
  exact ⟨_, rfl, S2.nil⟩
 refine J.head (.bool true) (congrArg Value.bool (decide_eq_true fk2)) ?_
 refine J.run 1 K21_5 [(12, .pointer (some ⟨b1, 3, none⟩)), (11, .bool true), (1, .pointer (some ⟨b1, 0, none⟩))] w2 (by kernel_rfl) ?_
 refine J.ok (OK.ldBox S2 0 13 23 3 (.slice c.gMoves_a c.gMoves_n c.gMoves_c) (by kernel_rfl) rfl (by kernel_rfl)) ?_
 refine J.run 4 K21_6 [(17, .bool (decide ((c.gMoves_n : Int) ≤ 30))), (1, .pointer (some ⟨b1, 0, none⟩))] w2 (by kernel_rfl) ?_
 by_cases fk3 : (c.gMoves_n : Int) ≤ 30
 rotate_left
 ·skip
  refine J.head (.bool false) (congrArg Value.bool (decide_eq_false fk3)) ?_
  refine J.run 7 K21_9 [(2, .bool false)] w2 (by kernel_rfl) ?_
  refine J.ret Try.f21 [.bool false] Try.func21 ⟨by kernel_rfl, trivial⟩ ?_
  refine hR _ _ ?_
  exact ⟨_, rfl, S2.nil⟩
 refine J.head (.bool true) (congrArg Value.bool (decide_eq_true fk3)) ?_
 refine J.run 1 K21_7 [(18, .pointer (some ⟨b1, 3, none⟩)), (17, .bool true)] w2 (by kernel_rfl) ?_
 refine J.ok (OK.ldBox S2 0 19 23 3 (.slice c.gMoves_a c.gMoves_n c.gMoves_c) (by kernel_rfl) rfl (by kernel_rfl)) ?_
 refine J.callF 20 38 #[.slice c.gMoves_a c.gMoves_n c.gMoves_c, .func (.func 41) #[] #[]] hb38 (by kernel_rfl) (containsM0 c.gMoves_a c.gMoves_n c.gMoves_c c.gMoves_l 41  (fun m => decide (m.gAfter > 50)) _ (q9.sep S2) (by first | omega | (simp; omega)) hb41 (fun i_ w_ hi_ S_ => late_any _ w_)) ?_
 rintro _ w3 ⟨rfl, T2⟩
 have S3 : Sep w [box b1 [.slice c.gStates_a c.gStates_n c.gStates_c, .slice c.gInputs_a c.gInputs_n c.gInputs_c, .int .i64 c.gStart, .slice c.gMoves_a c.gMoves_n c.gMoves_c] 25] w3 := S2.trans T2
 clear T2 S2
 refine J.run 4 K21_8 [(2, .bool (!(List.any c.gMoves_l (fun m => decide (m.gAfter > 50)))))] w3 (by kernel_rfl) ?_
 refine J.ret Try.f21 [.bool (!(List.any c.gMoves_l (fun m => decide (m.gAfter > 50))))] Try.func21 ⟨by kernel_rfl, trivial⟩ ?_
 refine hR _ _ ?_
 exact ⟨_, rfl, S3.nil⟩

theorem reach_valid {c : Cht} (h : validC c = true) : reachL c = selL (RS c) c.gStates_n ∧ deadL c = selL (fun i => ¬ RM c i) c.gMoves_n := by unfold reachL deadL; rw [h]; exact ⟨rfl, rfl⟩
end
end Go.Proofs.Ytbbpgidmadlgmaa

