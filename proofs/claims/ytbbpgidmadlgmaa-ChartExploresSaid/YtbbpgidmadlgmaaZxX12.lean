/- Walks of functions of this seat, printed by a program over the engine. Conditions: as each theorem says. -/
import Derived.Test.YtbbpgidmadlgmaaZxX11
namespace Go.Proofs.Ytbbpgidmadlgmaa
noncomputable section
open Go.Eng Go.RowKit
set_option linter.unusedSimpArgs false
set_option linter.unusedVariables false
def K15a_0 := adv 13 [] (bodyOf Try.f15)
def K15a_1 := adv 5 [] K15a_0
def K15a_2 := adv 14 [true] K15a_1
def K15a_3 := adv 1 [] (popK (popK (popK K15a_2)))
def K15a_4 := adv 6 [true] K15a_3
def K15a_5 := adv 5 [false] K15a_3
def K15a_6 := adv 6 [false] K15a_1
set_option maxRecDepth 20000 in
set_option maxHeartbeats 20000000 in
theorem indexM0 (la : Option Addr) (len cap : Nat) (l : List Mv) (g : FuncId) (q : Mv → Bool) (w : World) (hI : Recs mvE 5 w la len l) (hlen : len ≤ 9223372036854775807) (hbg : HasBody Try.prog g) (hcall : ∀ (i : Nat) (w2 : World), i < l.length → Sep w [] w2 → Ret Try.prog g #[.agg #[.int .i64 ((l.getD i (⟨0, 0, 0, 0, 0⟩ : Mv)).gFrom), .int .i64 ((l.getD i (⟨0, 0, 0, 0, 0⟩ : Mv)).gTo), .int .i64 ((l.getD i (⟨0, 0, 0, 0, 0⟩ : Mv)).gOn), .int .i64 ((l.getD i (⟨0, 0, 0, 0, 0⟩ : Mv)).gOff), .int .i64 ((l.getD i (⟨0, 0, 0, 0, 0⟩ : Mv)).gAfter)]] w2 (fun v w3 => v = .bool (q (l.getD i (⟨0, 0, 0, 0, 0⟩ : Mv))) ∧ Sep w2 [] w3)) : Ret Try.prog 15 #[.slice la len cap, .func (.func g) #[] #[]] w (fun v w' => v = .int .i64 (indexF q l) ∧ Sep w [] w') := by
 have S0 := Sep.refl w
 refine Ret.named fun R hR => ?_
 refine Ret.of_J (N := 19) [(0, .slice la len cap), (1, .func (.func g) #[] #[])] Try.func15 rfl rfl (Nat.le_of_ble_eq_true (by kernel_rfl)) (by kernel_rfl) ?_
 refine J.run 13 K15a_0 [(8, .int .i64 0), (7, .int .i64 (len : Int)), (0, .slice la len cap), (1, .func (.func g) #[] #[])] w (by kernel_rfl) ?_
 have L15_1 : ∀ (mm_ : Nat) (i : Int) (w1 : World), (0 ≤ i) → (i ≤ (len : Int)) → (∀ j, j < (i).toNat → q (l.getD j (⟨0, 0, 0, 0, 0⟩ : Mv)) = false) → Sep w [] w1 → ((len : Int) - i).toNat = mm_ → J Try.prog 15 19 R K15a_0 [(8, .int .i64 i), (7, .int .i64 (len : Int)), (0, .slice la len cap), (1, .func (.func g) #[] #[])] w1 := by
  intro mm1
  induction mm1 using Nat.strongRecOn with
  | _ mm1 ih1 =>
  intro i w1 h0 h1 hq S1 hm1
  refine J.run 5 K15a_1 [(9, .bool (decide (i < (len : Int)))), (8, .int .i64 i), (7, .int .i64 (len : Int)), (0, .slice la len cap), (1, .func (.func g) #[] #[])] w1 (by kernel_rfl) ?_
  by_cases fk1 : i < (len : Int)
  rotate_left
  ·skip
   refine J.head (.bool false) (congrArg Value.bool (decide_eq_false fk1)) ?_
   refine J.run 6 K15a_6 [(4, .int .i64 (-1))] w1 (by kernel_rfl) ?_
   refine J.ret Try.f15 [.int .i64 (-1)] Try.func15 ⟨by kernel_rfl, trivial⟩ ?_
   refine hR _ _ ?_
   exact ⟨by rw [tup_one, indexF_none (⟨0, 0, 0, 0, 0⟩ : Mv) fun j hj => hq j (by have := hI.len_eq; omega)], S1.nil⟩
  refine J.head (.bool true) (congrArg Value.bool (decide_eq_true fk1)) ?_
  refine J.run 14 K15a_2 [(13, .int .i64 i), (12, .slice la len cap), (11, .func (.func g) #[] #[]), (5, .int .i64 i), (8, .int .i64 i), (7, .int .i64 (len : Int)), (0, .slice la len cap), (1, .func (.func g) #[] #[])] w1 (by kernel_rfl) ?_
  obtain ⟨p1, hp1, hc1⟩ := hI.at (⟨0, 0, 0, 0, 0⟩ : Mv) (i).toNat (by omega)
  refine J.ok (OK.index 14 23 5 la p1 len (i).toNat i (p1.add ((i).toNat * 5)) (by kernel_rfl) (by kernel_rfl) hp1 (by omega) (by omega) rfl) ?_
  refine J.ok (OK.ldCells 15 42 (p1.add ((i).toNat * 5)) [.int .i64 ((l.getD (i).toNat (⟨0, 0, 0, 0, 0⟩ : Mv)).gFrom), .int .i64 ((l.getD (i).toNat (⟨0, 0, 0, 0, 0⟩ : Mv)).gTo), .int .i64 ((l.getD (i).toNat (⟨0, 0, 0, 0, 0⟩ : Mv)).gOn), .int .i64 ((l.getD (i).toNat (⟨0, 0, 0, 0, 0⟩ : Mv)).gOff), .int .i64 ((l.getD (i).toNat (⟨0, 0, 0, 0, 0⟩ : Mv)).gAfter)] (by kernel_rfl) (by kernel_rfl) (by kernel_rfl) (fun j_ v_ hj_ => S1.cell (hc1 j_ v_ hj_))) ?_
  refine J.callF 16 g #[.agg #[.int .i64 ((l.getD (i).toNat (⟨0, 0, 0, 0, 0⟩ : Mv)).gFrom), .int .i64 ((l.getD (i).toNat (⟨0, 0, 0, 0, 0⟩ : Mv)).gTo), .int .i64 ((l.getD (i).toNat (⟨0, 0, 0, 0, 0⟩ : Mv)).gOn), .int .i64 ((l.getD (i).toNat (⟨0, 0, 0, 0, 0⟩ : Mv)).gOff), .int .i64 ((l.getD (i).toNat (⟨0, 0, 0, 0, 0⟩ : Mv)).gAfter)]] hbg (by kernel_rfl) (hcall (i).toNat w1 (by have := hI.len_eq; omega) S1.nil) ?_
  rintro _ w2 ⟨rfl, T1⟩
  have S2 : Sep w [] w2 := S1.trans T1
  clear T1 S1
  refine J.run 1 K15a_3 [(16, .bool (q (l.getD (i).toNat (⟨0, 0, 0, 0, 0⟩ : Mv)))), (5, .int .i64 i), (8, .int .i64 i), (7, .int .i64 (len : Int)), (0, .slice la len cap), (1, .func (.func g) #[] #[])] w2 (by kernel_rfl) ?_
  rcases Bool.eq_false_or_eq_true (q (l.getD (i).toNat (⟨0, 0, 0, 0, 0⟩ : Mv))) with fk2 | fk2
  ·skip
   refine J.head (.bool true) (congrArg Value.bool fk2) ?_
   refine J.run 6 K15a_4 [(4, .int .i64 i)] w2 (by kernel_rfl) ?_
   refine J.ret Try.f15 [.int .i64 i] Try.func15 ⟨by kernel_rfl, trivial⟩ ?_
   refine hR _ _ ?_
   exact ⟨by rw [tup_one, indexF_some (⟨0, 0, 0, 0, 0⟩ : Mv) i.toNat (by have := hI.len_eq; omega) hq fk2, Int.toNat_of_nonneg h0], S2.nil⟩
  refine J.head (.bool false) (congrArg Value.bool fk2) ?_
  refine J.run 5 K15a_5 [(18, .int .i64 (IntKind.wrap .i64 (i + 1))), (7, .int .i64 (len : Int)), (0, .slice la len cap), (1, .func (.func g) #[] #[])] w2 (by kernel_rfl) ?_
  refine J.head (.int .i64 (i + 1)) (congrArg (Value.int .i64) (IntWalk.i64_in _ (by omega))) ?_
  refine J.run 3 K15a_0 [(8, .int .i64 (i + 1)), (7, .int .i64 (len : Int)), (0, .slice la len cap), (1, .func (.func g) #[] #[])] w2 (by kernel_rfl) ?_
  refine J.run 0 K15a_0 [(8, .int .i64 (i + 1)), (7, .int .i64 (len : Int)), (0, .slice la len cap), (1, .func (.func g) #[] #[])] w2 (by kernel_rfl) ?_
  exact ih1 _ (show ((len : Int) - (i + 1)).toNat < mm1 from by omega) (i + 1) w2 (by omega) (by omega) (by intro j hj; by_cases e : j = i.toNat; (subst e; exact fk2); exact hq j (by omega)) S2 rfl
 exact L15_1 _ 0 w (by omega) (by omega) (by intro j hj; simp at hj) S0 rfl

def K38a_0 := adv 8 [] (bodyOf Try.f38)
def K38a_1 := adv 3 [] (popK K38a_0)
set_option maxRecDepth 20000 in
set_option maxHeartbeats 20000000 in
theorem containsM0 (la : Option Addr) (len cap : Nat) (l : List Mv) (g : FuncId) (q : Mv → Bool) (w : World) (hI : Recs mvE 5 w la len l) (hlen : len ≤ 9223372036854775807) (hbg : HasBody Try.prog g) (hcall : ∀ (i : Nat) (w2 : World), i < l.length → Sep w [] w2 → Ret Try.prog g #[.agg #[.int .i64 ((l.getD i (⟨0, 0, 0, 0, 0⟩ : Mv)).gFrom), .int .i64 ((l.getD i (⟨0, 0, 0, 0, 0⟩ : Mv)).gTo), .int .i64 ((l.getD i (⟨0, 0, 0, 0, 0⟩ : Mv)).gOn), .int .i64 ((l.getD i (⟨0, 0, 0, 0, 0⟩ : Mv)).gOff), .int .i64 ((l.getD i (⟨0, 0, 0, 0, 0⟩ : Mv)).gAfter)]] w2 (fun v w3 => v = .bool (q (l.getD i (⟨0, 0, 0, 0, 0⟩ : Mv))) ∧ Sep w2 [] w3)) : Ret Try.prog 38 #[.slice la len cap, .func (.func g) #[] #[]] w (fun v w' => v = .bool (l.any q) ∧ Sep w [] w') := by
 have S0 := Sep.refl w
 refine Ret.named fun R hR => ?_
 refine Ret.of_J (N := 9) [(0, .slice la len cap), (1, .func (.func g) #[] #[])] Try.func38 rfl rfl (Nat.le_of_ble_eq_true (by kernel_rfl)) (by kernel_rfl) ?_
 refine J.run 8 K38a_0 [(6, .func (.func g) #[] #[]), (5, .slice la len cap)] w (by kernel_rfl) ?_
 refine J.callF 7 15 #[.slice la len cap, .func (.func g) #[] #[]] hb15 (by kernel_rfl) (indexM0 la len cap l g  q _ (hI.sep S0) (by first | omega | (simp; omega)) hbg (hcall)) ?_
 rintro _ w1 ⟨rfl, T1⟩
 have S1 : Sep w [] w1 := S0.trans T1
 clear T1
 refine J.run 3 K38a_1 [(4, .bool (decide ((indexF q l) ≥ 0)))] w1 (by kernel_rfl) ?_
 refine J.ret Try.f38 [.bool (decide ((indexF q l) ≥ 0))] Try.func38 ⟨by kernel_rfl, trivial⟩ ?_
 refine hR _ _ ?_
 exact ⟨congrArg Value.bool (by first | exact indexF_nonneg), S1.nil⟩

theorem hb41 : HasBody Try.prog 41 := fun _ _ => by kernel_rfl
def K41_0 := adv 2 [] (bodyOf Try.f41)
def K41_1 := adv 5 [] (popK K41_0)
def K41_2 := adv 3 [] (popK K41_1)
set_option maxRecDepth 20000 in
set_option maxHeartbeats 20000000 in
theorem late_any (m : Mv) (w : World) : Ret Try.prog 41 #[.agg #[.int .i64 m.gFrom, .int .i64 m.gTo, .int .i64 m.gOn, .int .i64 m.gOff, .int .i64 m.gAfter]] w (fun v w' => v = .bool (decide (m.gAfter > 50)) ∧ Sep w [] w') := by
 have S0 := Sep.refl w
 refine Ret.named fun R hR => ?_
 refine Ret.of_J (N := 6) [(0, .agg #[.int .i64 m.gFrom, .int .i64 m.gTo, .int .i64 m.gOn, .int .i64 m.gOff, .int .i64 m.gAfter])] Try.func41 rfl rfl (Nat.le_of_ble_eq_true (by kernel_rfl)) (by kernel_rfl) ?_
 refine J.run 2 K41_0 [(0, .agg #[.int .i64 m.gFrom, .int .i64 m.gTo, .int .i64 m.gOn, .int .i64 m.gOff, .int .i64 m.gAfter])] w (by kernel_rfl) ?_
 refine J.new S0 1 [.int .i64 m.gFrom, .int .i64 m.gTo, .int .i64 m.gOn, .int .i64 m.gOff, .int .i64 m.gAfter] 42 (by kernel_rfl) ?_
 intro b1 w1 S1
 refine J.run 5 K41_1 [(3, .pointer (some ⟨b1, 4, none⟩))] w1 (by kernel_rfl) ?_
 refine J.ok (OK.ldBox S1 0 4 3 4 (.int .i64 m.gAfter) (by kernel_rfl) rfl (by kernel_rfl)) ?_
 refine J.run 3 K41_2 [(2, .bool (decide (m.gAfter > 50)))] w1 (by kernel_rfl) ?_
 refine J.ret Try.f41 [.bool (decide (m.gAfter > 50))] Try.func41 ⟨by kernel_rfl, trivial⟩ ?_
 refine hR _ _ ?_
 exact ⟨rfl, S1.nil⟩

theorem hb21 : HasBody Try.prog 21 := fun _ _ => by kernel_rfl
def K21_0 := adv 2 [] (bodyOf Try.f21)
def K21_1 := adv 4 [] (popK K21_0)
def K21_2 := adv 1 [] (popK (popK K21_1))
def K21_3 := adv 1 [] K21_2
def K21_4 := adv 4 [] (popK K21_3)
def K21_5 := adv 1 [] K21_4
def K21_6 := adv 4 [] (popK K21_5)
def K21_7 := adv 1 [] K21_6
def K21_8 := adv 4 [] (popK (popK K21_7))
def K21_9 := adv 7 [] K21_6
def K21_10 := adv 13 [] K21_4
def K21_11 := adv 19 [] K21_2
set_option maxRecDepth 20000 in
set_option maxHeartbeats 20000000 in
theorem tiny_any (c : Cht) (w : World) (hc : chtQ w c) : Ret Try.prog 21 #[.agg #[.slice c.gStates_a c.gStates_n c.gStates_c, .slice c.gInputs_a c.gInputs_n c.gInputs_c, .int .i64 c.gStart, .slice c.gMoves_a c.gMoves_n c.gMoves_c]] w (fun v w' => ∃ b, v = .bool b ∧ Sep w [] w') := by
 have S0 := Sep.refl w
 refine Ret.named fun R hR => ?_
 refine Ret.of_J (N := 23) [(0, .agg #[.slice c.gStates_a c.gStates_n c.gStates_c, .slice c.gInputs_a c.gInputs_n c.gInputs_c, .int .i64 c.gStart, .slice c.gMoves_a c.gMoves_n c.gMoves_c])] Try.func21 rfl rfl (Nat.le_of_ble_eq_true (by kernel_rfl)) (by kernel_rfl) ?_
 obtain ⟨q1, q2, q3, q4, q5, q6, q7, q8, q9, q10, _⟩ := id hc
 have ql1 := q2.len_eq
 have ql2 := q5.len_eq
 have ql3 := q9.len_eq
 refine J.run 2 K21_0 [(0, .agg #[.slice c.gStates_a c.gStates_n c.gStates_c, .slice c.gInputs_a c.gInputs_n c.gInputs_c, .int .i64 c.gStart, .slice c.gMoves_a c.gMoves_n c.gMoves_c])] w (by kernel_rfl) ?_
 refine J.new S0 1 [.slice c.gStates_a c.gStates_n c.gStates_c, .slice c.gInputs_a c.gInputs_n c.gInputs_c, .int .i64 c.gStart, .slice c.gMoves_a c.gMoves_n c.gMoves_c] 25 (by kernel_rfl) ?_
 intro b1 w1 S1
 refine J.run 4 K21_1 [(1, .pointer (some ⟨b1, 0, none⟩))] w1 (by kernel_rfl) ?_
 refine J.ok (OK.ldBox S1 0 3 25 0 (.agg #[.slice c.gStates_a c.gStates_n c.gStates_c, .slice c.gInputs_a c.gInputs_n c.gInputs_c, .int .i64 c.gStart, .slice c.gMoves_a c.gMoves_n c.gMoves_c]) (by kernel_rfl) rfl (by kernel_rfl)) ?_
 refine J.callF 4 10 #[.agg #[.slice c.gStates_a c.gStates_n c.gStates_c, .slice c.gInputs_a c.gInputs_n c.gInputs_c, .int .i64 c.gStart, .slice c.gMoves_a c.gMoves_n c.gMoves_c]] hb10 (by kernel_rfl) (small_any c _ (chtQ_sep hc S1)) ?_
 rintro _ w2 ⟨rfl, T1⟩
 have S2 : Sep w [box b1 [.slice c.gStates_a c.gStates_n c.gStates_c, .slice c.gInputs_a c.gInputs_n c.gInputs_c, .int .i64 c.gStart, .slice c.gMoves_a c.gMoves_n c.gMoves_c] 25] w2 := S1.trans T1
 clear T1 S1
 refine J.run 1 K21_2 [(5, .bool (smallB c)), (1, .pointer (some ⟨b1, 0, none⟩))] w2 (by kernel_rfl) ?_
 rcases Bool.eq_false_or_eq_true (smallB c) with fk1 | fk1
 rotate_left
 ·skip
  refine J.head (.bool false) (congrArg Value.bool fk1) ?_
  refine J.run 19 K21_11 [(2, .bool false)] w2 (by kernel_rfl) ?_
  refine J.ret Try.f21 [.bool false] Try.func21 ⟨by kernel_rfl, trivial⟩ ?_
  refine hR _ _ ?_
  exact ⟨_, rfl, S2.nil⟩
 refine J.head (.bool true) (congrArg Value.bool fk1) ?_
 refine J.run 1 K21_3 [(6, .pointer (some ⟨b1, 1, none⟩)), (5, .bool true), (1, .pointer (some ⟨b1, 0, none⟩))] w2 (by kernel_rfl) ?_
 refine J.ok (OK.ldBox S2 0 7 22 1 (.slice c.gInputs_a c.gInputs_n c.gInputs_c) (by kernel_rfl) rfl (by kernel_rfl)) ?_
 refine J.run 4 K21_4 [(11, .bool (decide ((c.gInputs_n : Int) ≤ 6))), (1, .pointer (some ⟨b1, 0, none⟩))] w2 (by kernel_rfl) ?_
 by_cases fk2 : (c.gInputs_n : Int) ≤ 6
 rotate_left
 ·skip
  refine J.head (.bool false) (congrArg Value.bool (decide_eq_false fk2)) ?_
  refine J.run 13 K21_10 [(2, .bool false)] w2 (by kernel_rfl) ?_
  refine J.ret Try.f21 [.bool false] Try.func21 ⟨by kernel_rfl, trivial⟩ ?_
  refine hR _ _ ?_
  exact ⟨_, rfl, S2.nil⟩
 refine J.head (.bool true) (congrArg Value.bool (decide_eq_true fk2)) ?_
 refine J.run 1 K21_5 [(12, .pointer (some ⟨b1, 3, none⟩)), (11, .bool true), (1, .pointer (some ⟨b1, 0, none⟩))] w2 (by kernel_rfl) ?_
 refine J.ok (OK.ldBox S2 0 13 23 3 (.slice c.gMoves_a c.gMoves_n c.gMoves_c) (by kernel_rfl) rfl (by kernel_rfl)) ?_
 refine J.run 4 K21_6 [(17, .bool (decide ((c.gMoves_n : Int) ≤ 30))), (1, .pointer (some ⟨b1, 0, none⟩))] w2 (by kernel_rfl) ?_
 by_cases fk3 : (c.gMoves_n : Int) ≤ 30
 rotate_left
 ·skip
  refine J.head (.bool false) (congrArg Value.bool (decide_eq_false fk3)) ?_
  refine J.run 7 K21_9 [(2, .bool false)] w2 (by kernel_rfl) ?_
  refine J.ret Try.f21 [.bool false] Try.func21 ⟨by kernel_rfl, trivial⟩ ?_
  refine hR _ _ ?_
  exact ⟨_, rfl, S2.nil⟩
 refine J.head (.bool true) (congrArg Value.bool (decide_eq_true fk3)) ?_
 refine J.run 1 K21_7 [(18, .pointer (some ⟨b1, 3, none⟩)), (17, .bool true)] w2 (by kernel_rfl) ?_
 refine J.ok (OK.ldBox S2 0 19 23 3 (.slice c.gMoves_a c.gMoves_n c.gMoves_c) (by kernel_rfl) rfl (by kernel_rfl)) ?_
 refine J.callF 20 38 #[.slice c.gMoves_a c.gMoves_n c.gMoves_c, .func (.func 41) #[] #[]] hb38 (by kernel_rfl) (containsM0 c.gMoves_a c.gMoves_n c.gMoves_c c.gMoves_l 41  (fun m => decide (m.gAfter > 50)) _ (q9.sep S2) (by first | omega | (simp; omega)) hb41 (fun i_ w_ hi_ S_ => late_any _ w_)) ?_
 rintro _ w3 ⟨rfl, T2⟩
 have S3 : Sep w [box b1 [.slice c.gStates_a c.gStates_n c.gStates_c, .slice c.gInputs_a c.gInputs_n c.gInputs_c, .int .i64 c.gStart, .slice c.gMoves_a c.gMoves_n c.gMoves_c] 25] w3 := S2.trans T2
 clear T2 S2
 refine J.run 4 K21_8 [(2, .bool (!(List.any c.gMoves_l (fun m => decide (m.gAfter > 50)))))] w3 (by kernel_rfl) ?_
 refine J.ret Try.f21 [.bool (!(List.any c.gMoves_l (fun m => decide (m.gAfter > 50))))] Try.func21 ⟨by kernel_rfl, trivial⟩ ?_
 refine hR _ _ ?_
 exact ⟨_, rfl, S3.nil⟩

theorem reach_none {c : Cht} (h : validC c = false) : reachL c = [] ∧ deadL c = [] := by unfold reachL deadL; rw [h]; exact ⟨rfl, rfl⟩
theorem reach_valid {c : Cht} (h : validC c = true) : reachL c = selL (RS c) c.gStates_n ∧ deadL c = selL (fun i => ¬ RM c i) c.gMoves_n := by unfold reachL deadL; rw [h]; exact ⟨rfl, rfl⟩
theorem got_yes {P : Int → Prop} {l : List Bool} (h : ∀ s, getT l s ↔ P s) {i : Int} (h0 : 0 ≤ i) (hb : l.getD i.toNat false = true) : P i := (h i).1 ⟨h0, hb⟩
theorem got_no {P : Int → Prop} {l : List Bool} (h : ∀ s, getT l s ↔ P s) {i : Int} (hb : l.getD i.toNat false = false) : ¬ P i := fun hp => by have := ((h i).2 hp).2; rw [hb] at this; cases this
def K7_0 := adv 2 [] (bodyOf Try.f7)
def K7_1 := adv 5 [] (popK K7_0)
def K7_2 := adv 2 [] (popK K7_1)
def K7_3 := adv 3 [] (popK (popK K7_2))
def K7_4 := adv 3 [false] K7_3
def K7_5 := adv 3 [] (rRest K7_4)
def K7_6 := adv 2 [] (popK (popK K7_5))
def K7_7 := adv 4 [false] K7_6
def K7_8 := adv 10 [] (popK (popK (popK (popK K7_7))))
def K7_9 := adv 5 [] (popK K7_8)
def K7_10 := adv 5 [] K7_9
def K7_11 := adv 7 [true] K7_10
def K7_12 := adv 7 [] (popK (popK K7_11))
def K7_13 := adv 4 [true] K7_12
def K7_14 := adv 5 [] (popK (popK K7_13))
def K7_15 := adv 5 [false] K7_12
def K7_16 := adv 6 [false] K7_10
def K7_17 := adv 5 [] (popK K7_16)
def K7_18 := adv 5 [] K7_17
def K7_19 := adv 7 [true] K7_18
def K7_20 := adv 8 [] (popK (popK K7_19))
def K7_21 := adv 5 [false] K7_20
def K7_22 := adv 4 [true] K7_20
def K7_23 := adv 5 [] (popK (popK K7_22))
def K7_24 := adv 6 [false] K7_18
def K7_25 := adv 1 [] (popK K7_24)
def K7_26 := adv 2 [] K7_25
def K7_27 := adv 3 [] (popK K7_26)
def K7_28 := adv 7 [true] K7_6
def K7_29 := adv 6 [] K7_28
def K7_30 := adv 3 [true] K7_3
def K7_31 := adv 2 [] (popK K7_30)
set_option maxRecDepth 20000 in
set_option maxHeartbeats 20000000 in
theorem lawexplores_any (c : Cht) (w : World) (hc : chtQ w c) : Ret Try.prog 7 #[.agg #[.slice c.gStates_a c.gStates_n c.gStates_c, .slice c.gInputs_a c.gInputs_n c.gInputs_c, .int .i64 c.gStart, .slice c.gMoves_a c.gMoves_n c.gMoves_c]] w (fun v w' => v = .bool true ∧ Sep w [] w') := by
 have S0 := Sep.refl w
 refine Ret.named fun R hR => ?_
 refine Ret.of_J (N := 74) [(0, .agg #[.slice c.gStates_a c.gStates_n c.gStates_c, .slice c.gInputs_a c.gInputs_n c.gInputs_c, .int .i64 c.gStart, .slice c.gMoves_a c.gMoves_n c.gMoves_c])] Try.func7 rfl rfl (Nat.le_of_ble_eq_true (by kernel_rfl)) (by kernel_rfl) ?_
 obtain ⟨q1, q2, q3, q4, q5, q6, q7, q8, q9, q10, _⟩ := id hc
 have ql1 := q2.len_eq
 have ql2 := q5.len_eq
 have ql3 := q9.len_eq
 have hrl : (reachL c).length ≤ c.gStates_n := by unfold reachL; split; exact selL_len _ _; exact Nat.zero_le _
 have hdl : (deadL c).length ≤ c.gMoves_n := by unfold deadL; split; exact selL_len _ _; exact Nat.zero_le _
 refine J.run 2 K7_0 [(0, .agg #[.slice c.gStates_a c.gStates_n c.gStates_c, .slice c.gInputs_a c.gInputs_n c.gInputs_c, .int .i64 c.gStart, .slice c.gMoves_a c.gMoves_n c.gMoves_c])] w (by kernel_rfl) ?_
 refine J.new S0 1 [.slice c.gStates_a c.gStates_n c.gStates_c, .slice c.gInputs_a c.gInputs_n c.gInputs_c, .int .i64 c.gStart, .slice c.gMoves_a c.gMoves_n c.gMoves_c] 25 (by kernel_rfl) ?_
 intro b1 w1 S1
 refine J.run 5 K7_1 [(1, .pointer (some ⟨b1, 0, none⟩))] w1 (by kernel_rfl) ?_
 refine J.callF 12 9 #[] hb9 (by kernel_rfl) (awake_any  _) ?_
 rintro _ w2 ⟨rfl, T1⟩
 have S2 : Sep w [box b1 [.slice c.gStates_a c.gStates_n c.gStates_c, .slice c.gInputs_a c.gInputs_n c.gInputs_c, .int .i64 c.gStart, .slice c.gMoves_a c.gMoves_n c.gMoves_c] 25] w2 := S1.trans T1
 clear T1 S1
 refine J.run 2 K7_2 [(14, .bool false), (1, .pointer (some ⟨b1, 0, none⟩))] w2 (by kernel_rfl) ?_
 refine J.ok (OK.ldBox S2 0 15 25 0 (.agg #[.slice c.gStates_a c.gStates_n c.gStates_c, .slice c.gInputs_a c.gInputs_n c.gInputs_c, .int .i64 c.gStart, .slice c.gMoves_a c.gMoves_n c.gMoves_c]) (by kernel_rfl) rfl (by kernel_rfl)) ?_
 refine J.callF 16 21 #[.agg #[.slice c.gStates_a c.gStates_n c.gStates_c, .slice c.gInputs_a c.gInputs_n c.gInputs_c, .int .i64 c.gStart, .slice c.gMoves_a c.gMoves_n c.gMoves_c]] hb21 (by kernel_rfl) (tiny_any c _ (chtQ_sep hc S2)) ?_
 rintro _ w3 ⟨tb1, rfl, T2⟩
 have S3 : Sep w [box b1 [.slice c.gStates_a c.gStates_n c.gStates_c, .slice c.gInputs_a c.gInputs_n c.gInputs_c, .int .i64 c.gStart, .slice c.gMoves_a c.gMoves_n c.gMoves_c] 25] w3 := S2.trans T2
 clear T2
 refine J.run 3 K7_3 [(18, .bool (!tb1)), (1, .pointer (some ⟨b1, 0, none⟩))] w3 (by kernel_rfl) ?_
 rcases Bool.eq_false_or_eq_true tb1 with fk1 | fk1
 rotate_left
 ·skip
  refine J.head (.bool true) (congrArg Value.bool (by rw [fk1]; rfl)) ?_
  refine J.run 3 K7_30 [] w3 (by kernel_rfl) ?_
  refine J.callF 19 9 #[] hb9 (by kernel_rfl) (awake_any  _) ?_
  rintro _ w19 ⟨rfl, T9⟩
  have S24 : Sep w [box b1 [.slice c.gStates_a c.gStates_n c.gStates_c, .slice c.gInputs_a c.gInputs_n c.gInputs_c, .int .i64 c.gStart, .slice c.gMoves_a c.gMoves_n c.gMoves_c] 25] w19 := S3.trans T9
  clear T9 S3
  refine J.run 2 K7_31 [(2, .bool true)] w19 (by kernel_rfl) ?_
  refine J.ret Try.f7 [.bool true] Try.func7 ⟨by kernel_rfl, trivial⟩ ?_
  refine hR _ _ ?_
  exact ⟨rfl, S24.nil⟩
 refine J.head (.bool false) (congrArg Value.bool (by rw [fk1]; rfl)) ?_
 refine J.run 3 K7_4 [(1, .pointer (some ⟨b1, 0, none⟩))] w3 (by kernel_rfl) ?_
 refine J.drawPlan (fun w_ => Sep w [box b1 [.slice c.gStates_a c.gStates_n c.gStates_c, .slice c.gInputs_a c.gInputs_n c.gInputs_c, .int .i64 c.gStart, .slice c.gMoves_a c.gMoves_n c.gMoves_c] 25] w_) [(0, true), (2, true), (1, false), (3, false), (4, true), (5, true)] S3 Try.mixed (by kernel_rfl) (planOK_of (T := [(0, some 20, 2), (1, some 21, 1048576), (0, some 22, 2), (6, some 23, 4194304), (11, some 3, 2097152), (31, some 4, 8388608)]) (by kernel_rfl) (by kernel_rfl)) ?_
 intro w4 S4
 refine PB.mk S4 ?_
 refine PL.takeOK 0 (fun w_ S_ => OK.ldBox S_ 0 20 25 0 (.agg #[.slice c.gStates_a c.gStates_n c.gStates_c, .slice c.gInputs_a c.gInputs_n c.gInputs_c, .int .i64 c.gStart, .slice c.gMoves_a c.gMoves_n c.gMoves_c]) (by kernel_rfl) rfl (by kernel_rfl)) rfl ?_
 refine PL.takeOK 2 (fun w_ S_ => OK.ldBox S_ 0 22 25 0 (.agg #[.slice c.gStates_a c.gStates_n c.gStates_c, .slice c.gInputs_a c.gInputs_n c.gInputs_c, .int .i64 c.gStart, .slice c.gMoves_a c.gMoves_n c.gMoves_c]) (by kernel_rfl) rfl (by kernel_rfl)) rfl ?_
 refine PL.callF 21 22 #[.agg #[.slice c.gStates_a c.gStates_n c.gStates_c, .slice c.gInputs_a c.gInputs_n c.gInputs_c, .int .i64 c.gStart, .slice c.gMoves_a c.gMoves_n c.gMoves_c]] hb22 (by kernel_rfl) (reach_any c _ (chtQ_sep hc S4)) ?_
 rintro _ w5 ⟨ra1, rc1, rfl, T3⟩
 have S5 : Sep w [rowOf encI ra1 rc1 3 1 (reachL c), box b1 [.slice c.gStates_a c.gStates_n c.gStates_c, .slice c.gInputs_a c.gInputs_n c.gInputs_c, .int .i64 c.gStart, .slice c.gMoves_a c.gMoves_n c.gMoves_c] 25] w5 := S4.trans T3
 clear T3 S4
 refine PB.mk (S5.erase 0) ?_
 refine PL.callF 23 23 #[.agg #[.slice c.gStates_a c.gStates_n c.gStates_c, .slice c.gInputs_a c.gInputs_n c.gInputs_c, .int .i64 c.gStart, .slice c.gMoves_a c.gMoves_n c.gMoves_c]] hb23 (by kernel_rfl) (dead_any c _ (chtQ_sep hc S5)) ?_
 rintro _ w6 ⟨ra2, rc2, rfl, T4⟩
 have S6 : Sep w [rowOf encI ra2 rc2 3 1 (deadL c), rowOf encI ra1 rc1 3 1 (reachL c), box b1 [.slice c.gStates_a c.gStates_n c.gStates_c, .slice c.gInputs_a c.gInputs_n c.gInputs_c, .int .i64 c.gStart, .slice c.gMoves_a c.gMoves_n c.gMoves_c] 25] w6 := S5.trans T4
 clear T4 S5
 refine PB.mk ((S6.erase 1).erase 0) ?_
 refine PL.take 4 3 (.slice ra1 ((reachL c).length) rc1) (fun _ _ => by kernel_rfl) ?_
 refine PL.take 5 4 (.slice ra2 ((deadL c).length) rc2) (fun _ _ => by kernel_rfl) ?_
 refine PL.done ?_
 refine J.run 0 (rRest K7_4) [(4, .slice ra2 ((deadL c).length) rc2), (3, .slice ra1 ((reachL c).length) rc1), (1, .pointer (some ⟨b1, 0, none⟩))] w6 (by kernel_rfl) ?_
 refine J.run 3 K7_5 [(4, .slice ra2 ((deadL c).length) rc2), (3, .slice ra1 ((reachL c).length) rc1), (1, .pointer (some ⟨b1, 0, none⟩))] w6 (by kernel_rfl) ?_
 refine J.ok (OK.ldBox S6 2 24 25 0 (.agg #[.slice c.gStates_a c.gStates_n c.gStates_c, .slice c.gInputs_a c.gInputs_n c.gInputs_c, .int .i64 c.gStart, .slice c.gMoves_a c.gMoves_n c.gMoves_c]) (by kernel_rfl) rfl (by kernel_rfl)) ?_
 refine J.callF 25 20 #[.agg #[.slice c.gStates_a c.gStates_n c.gStates_c, .slice c.gInputs_a c.gInputs_n c.gInputs_c, .int .i64 c.gStart, .slice c.gMoves_a c.gMoves_n c.gMoves_c]] hb20 (by kernel_rfl) (rvalid_any c _ (chtQ_sep hc S6)) ?_
 rintro _ w7 ⟨rfl, T5⟩
 have S7 : Sep w [rowOf encI ra2 rc2 3 1 (deadL c), rowOf encI ra1 rc1 3 1 (reachL c), box b1 [.slice c.gStates_a c.gStates_n c.gStates_c, .slice c.gInputs_a c.gInputs_n c.gInputs_c, .int .i64 c.gStart, .slice c.gMoves_a c.gMoves_n c.gMoves_c] 25] w7 := S6.trans T5
 clear T5 S6
 refine J.run 2 K7_6 [(26, .bool (!(validC c))), (4, .slice ra2 ((deadL c).length) rc2), (3, .slice ra1 ((reachL c).length) rc1), (1, .pointer (some ⟨b1, 0, none⟩))] w7 (by kernel_rfl) ?_
 rcases Bool.eq_false_or_eq_true (validC c) with fk2 | fk2
 rotate_left
 ·skip
  refine J.head (.bool true) (congrArg Value.bool (by rw [fk2]; rfl)) ?_
  have hnv := fk2
  refine J.run 7 K7_28 [(30, .bool (((reachL c).length : Int) == 0)), (4, .slice ra2 ((deadL c).length) rc2)] w7 (by kernel_rfl) ?_
  have fk10 : ((reachL c).length : Int) = 0 := by rw [(reach_none hnv).1]; rfl
  refine J.head (.bool true) (congrArg Value.bool (beq_iff_eq.2 fk10)) ?_
  refine J.run 6 K7_29 [(2, .bool (((deadL c).length : Int) == 0))] w7 (by kernel_rfl) ?_
  refine J.ret Try.f7 [.bool (((deadL c).length : Int) == 0)] Try.func7 ⟨by kernel_rfl, trivial⟩ ?_
  refine hR _ _ ?_
  exact ⟨congrArg Value.bool (by first | (rw [(reach_none hnv).2]; rfl) | (rw [hed]; exact beq_self_eq_true _) | exact beq_self_eq_true _), S7.nil⟩
 refine J.head (.bool false) (congrArg Value.bool (by rw [fk2]; rfl)) ?_
 have hv := fk2
 have hvf := validC_facts hv
 refine J.run 4 K7_7 [(4, .slice ra2 ((deadL c).length) rc2), (3, .slice ra1 ((reachL c).length) rc1), (1, .pointer (some ⟨b1, 0, none⟩))] w7 (by kernel_rfl) ?_
 refine J.ok (OK.ldBox S7 2 35 25 0 (.agg #[.slice c.gStates_a c.gStates_n c.gStates_c, .slice c.gInputs_a c.gInputs_n c.gInputs_c, .int .i64 c.gStart, .slice c.gMoves_a c.gMoves_n c.gMoves_c]) (by kernel_rfl) rfl (by kernel_rfl)) ?_
 refine J.callF 36 24 #[.agg #[.slice c.gStates_a c.gStates_n c.gStates_c, .slice c.gInputs_a c.gInputs_n c.gInputs_c, .int .i64 c.gStart, .slice c.gMoves_a c.gMoves_n c.gMoves_c]] hb24 (by kernel_rfl) (explore_any c _ (chtQ_sep hc S7) hv) ?_
 rintro _ w8 ⟨ea1, ec1, ea2, ec2, lS, lM, her, rfl, T6⟩
 have S8 : Sep w [rowOf (enc1 Value.bool) ea1 ec1 4 1 lS, rowOf (enc1 Value.bool) ea2 ec2 4 1 lM, rowOf encI ra2 rc2 3 1 (deadL c), rowOf encI ra1 rc1 3 1 (reachL c), box b1 [.slice c.gStates_a c.gStates_n c.gStates_c, .slice c.gInputs_a c.gInputs_n c.gInputs_c, .int .i64 c.gStart, .slice c.gMoves_a c.gMoves_n c.gMoves_c] 25] w8 := S7.trans T6
 clear T6
 refine J.new S8 5 [.slice none 0 0, .slice none 0 0] 53 (by kernel_rfl) ?_
 intro b2 w9 S9
 refine J.stBox S9 0 53 0 (.agg #[.slice ea1 lS.length ec1, .slice ea2 lM.length ec2]) [.slice ea1 lS.length ec1, .slice ea2 lM.length ec2] [box b2 [.slice ea1 lS.length ec1, .slice ea2 lM.length ec2] 53, rowOf (enc1 Value.bool) ea1 ec1 4 1 lS, rowOf (enc1 Value.bool) ea2 ec2 4 1 lM, rowOf encI ra2 rc2 3 1 (deadL c), rowOf encI ra1 rc1 3 1 (reachL c), box b1 [.slice c.gStates_a c.gStates_n c.gStates_c, .slice c.gInputs_a c.gInputs_n c.gInputs_c, .int .i64 c.gStart, .slice c.gMoves_a c.gMoves_n c.gMoves_c] 25] (by kernel_rfl) rfl (by kernel_rfl) (by kernel_rfl) rfl ?_
 intro w10 S10
 refine J.run 10 K7_8 [(37, .pointer (some ⟨b2, 0, none⟩)), (7, .slice none 0 0), (6, .slice none 0 0), (5, .pointer (some ⟨b2, 0, none⟩)), (4, .slice ra2 ((deadL c).length) rc2), (3, .slice ra1 ((reachL c).length) rc1)] w10 (by kernel_rfl) ?_
 refine J.ok (OK.ldBox S10 0 38 51 0 (.slice ea1 lS.length ec1) (by kernel_rfl) rfl (by kernel_rfl)) ?_
 refine J.run 5 K7_9 [(40, .int .i64 0), (39, .int .i64 (lS.length : Int)), (38, .slice ea1 lS.length ec1), (7, .slice none 0 0), (6, .slice none 0 0), (5, .pointer (some ⟨b2, 0, none⟩)), (4, .slice ra2 ((deadL c).length) rc2), (3, .slice ra1 ((reachL c).length) rc1)] w10 (by kernel_rfl) ?_
 have S11 : Sep w [rowOf encI none 0 3 1 ([]), box b2 [.slice ea1 lS.length ec1, .slice ea2 lM.length ec2] 53, rowOf (enc1 Value.bool) ea1 ec1 4 1 lS, rowOf (enc1 Value.bool) ea2 ec2 4 1 lM, rowOf encI ra2 rc2 3 1 (deadL c), rowOf encI ra1 rc1 3 1 (reachL c), box b1 [.slice c.gStates_a c.gStates_n c.gStates_c, .slice c.gInputs_a c.gInputs_n c.gInputs_c, .int .i64 c.gStart, .slice c.gMoves_a c.gMoves_n c.gMoves_c] 25] w10 := S10.nilRow 3 1
 have L7_1 : ∀ (mm_ : Nat) (ra : Option Addr) (rc : Nat) (ls : List Int) (i : Int) (w11 : World), (0 ≤ i) → (i ≤ (lS.length : Int)) → (ls = selL (RS c) (i).toNat) → Sep w [rowOf encI ra rc 3 1 ls, box b2 [.slice ea1 lS.length ec1, .slice ea2 lM.length ec2] 53, rowOf (enc1 Value.bool) ea1 ec1 4 1 lS, rowOf (enc1 Value.bool) ea2 ec2 4 1 lM, rowOf encI ra2 rc2 3 1 (deadL c), rowOf encI ra1 rc1 3 1 (reachL c), box b1 [.slice c.gStates_a c.gStates_n c.gStates_c, .slice c.gInputs_a c.gInputs_n c.gInputs_c, .int .i64 c.gStart, .slice c.gMoves_a c.gMoves_n c.gMoves_c] 25] w11 → ((lS.length : Int) - i).toNat = mm_ → J Try.prog 7 74 R K7_9 [(40, .int .i64 i), (39, .int .i64 (lS.length : Int)), (38, .slice ea1 lS.length ec1), (7, .slice none 0 0), (6, .slice ra ls.length rc), (5, .pointer (some ⟨b2, 0, none⟩)), (4, .slice ra2 ((deadL c).length) rc2), (3, .slice ra1 ((reachL c).length) rc1)] w11 := by
  intro mm1
  induction mm1 using Nat.strongRecOn with
  | _ mm1 ih1 =>
  intro ra rc ls i w11 h0 h1 hls S12 hm1
  have hel := her.1
  have hem := her.2.1
  have hsl := selL_len (RS c) i.toNat; rw [← hls] at hsl
  refine J.run 5 K7_10 [(41, .bool (decide (i < (lS.length : Int)))), (40, .int .i64 i), (39, .int .i64 (lS.length : Int)), (38, .slice ea1 lS.length ec1), (7, .slice none 0 0), (6, .slice ra ls.length rc), (5, .pointer (some ⟨b2, 0, none⟩)), (4, .slice ra2 ((deadL c).length) rc2), (3, .slice ra1 ((reachL c).length) rc1)] w11 (by kernel_rfl) ?_
  by_cases fk3 : i < (lS.length : Int)
  ·skip
   refine J.head (.bool true) (congrArg Value.bool (decide_eq_true fk3)) ?_
   refine J.run 7 K7_11 [(42, .int .i64 i), (40, .int .i64 i), (39, .int .i64 (lS.length : Int)), (38, .slice ea1 lS.length ec1), (7, .slice none 0 0), (6, .slice ra ls.length rc), (5, .pointer (some ⟨b2, 0, none⟩)), (4, .slice ra2 ((deadL c).length) rc2), (3, .slice ra1 ((reachL c).length) rc1)] w11 (by kernel_rfl) ?_
   obtain ⟨p1, hp1⟩ := row1_addr (S12.nth 2 rfl) (show 0 < (lS).length by first | omega | (simp; omega))
   refine J.ok (OK.index 43 51 1 ea1 p1 lS.length (i).toNat i (p1.add (i).toNat) (by kernel_rfl) (by kernel_rfl) hp1 (by omega) (by first | omega | (simp; omega)) (by rw [Nat.mul_one])) ?_
   refine J.ok (OK.ldCell 44 4 (p1.add (i).toNat) (.bool (lS.getD (i).toNat false)) (by kernel_rfl) (by kernel_rfl) (row1_cell (g := Value.bool) S12 2 rfl hp1 false (i).toNat (by first | omega | (simp; omega)))) ?_
   refine J.run 7 K7_12 [(45, .bool (lS.getD (i).toNat false)), (8, .int .i64 i), (40, .int .i64 i), (39, .int .i64 (lS.length : Int)), (38, .slice ea1 lS.length ec1), (7, .slice none 0 0), (6, .slice ra ls.length rc), (5, .pointer (some ⟨b2, 0, none⟩)), (4, .slice ra2 ((deadL c).length) rc2), (3, .slice ra1 ((reachL c).length) rc1)] w11 (by kernel_rfl) ?_
   rcases Bool.eq_false_or_eq_true (lS.getD (i).toNat false) with fk4 | fk4
   rotate_left
   ·skip
    refine J.head (.bool false) (congrArg Value.bool fk4) ?_
    refine J.run 5 K7_15 [(50, .int .i64 (IntKind.wrap .i64 (i + 1))), (39, .int .i64 (lS.length : Int)), (38, .slice ea1 lS.length ec1), (7, .slice none 0 0), (6, .slice ra ls.length rc), (5, .pointer (some ⟨b2, 0, none⟩)), (4, .slice ra2 ((deadL c).length) rc2), (3, .slice ra1 ((reachL c).length) rc1)] w11 (by kernel_rfl) ?_
    refine J.head (.int .i64 (i + 1)) (congrArg (Value.int .i64) (IntWalk.i64_in _ (by omega))) ?_
    refine J.run 3 K7_9 [(40, .int .i64 (i + 1)), (39, .int .i64 (lS.length : Int)), (38, .slice ea1 lS.length ec1), (7, .slice none 0 0), (6, .slice ra ls.length rc), (5, .pointer (some ⟨b2, 0, none⟩)), (4, .slice ra2 ((deadL c).length) rc2), (3, .slice ra1 ((reachL c).length) rc1)] w11 (by kernel_rfl) ?_
    refine J.run 0 K7_9 [(40, .int .i64 (i + 1)), (39, .int .i64 (lS.length : Int)), (38, .slice ea1 lS.length ec1), (7, .slice none 0 0), (6, .slice ra ls.length rc), (5, .pointer (some ⟨b2, 0, none⟩)), (4, .slice ra2 ((deadL c).length) rc2), (3, .slice ra1 ((reachL c).length) rc1)] w11 (by kernel_rfl) ?_
    exact ih1 _ (show ((lS.length : Int) - (i + 1)).toNat < mm1 from by omega) ra rc ls (i + 1) w11 (by omega) (by omega) (selL_no hls h0 (got_no her.2.2.1 fk4)) S12 rfl
   refine J.head (.bool true) (congrArg Value.bool fk4) ?_
   refine J.run 4 K7_13 [(47, .int .i64 i), (46, .slice ra ls.length rc), (40, .int .i64 i), (39, .int .i64 (lS.length : Int)), (38, .slice ea1 lS.length ec1), (7, .slice none 0 0), (5, .pointer (some ⟨b2, 0, none⟩)), (4, .slice ra2 ((deadL c).length) rc2), (3, .slice ra1 ((reachL c).length) rc1)] w11 (by kernel_rfl) ?_
   refine J.newSlice S12 48 1 [.int .i64 i] 3 (by kernel_rfl) ?_
   intro b3 w12 S13
   refine J.append encI S13 1 ls i 49 26 (.int .i64 0) 8 ⟨b3, 0, none⟩ 1 rfl (by kernel_rfl) (by kernel_rfl) (by kernel_rfl) (by kernel_rfl) (by decide) (box_cells (S13.nth 0 rfl)) (by kernel_rfl) (by kernel_rfl) (⟨by omega, by omega⟩) ?_
   intro ra3 rc3 w13 S14
   replace S14 : Sep w [box b3 [.int .i64 i] 3, rowOf encI ra3 rc3 3 1 (ls ++ [i]), box b2 [.slice ea1 lS.length ec1, .slice ea2 lM.length ec2] 53, rowOf (enc1 Value.bool) ea1 ec1 4 1 lS, rowOf (enc1 Value.bool) ea2 ec2 4 1 lM, rowOf encI ra2 rc2 3 1 (deadL c), rowOf encI ra1 rc1 3 1 (reachL c), box b1 [.slice c.gStates_a c.gStates_n c.gStates_c, .slice c.gInputs_a c.gInputs_n c.gInputs_c, .int .i64 c.gStart, .slice c.gMoves_a c.gMoves_n c.gMoves_c] 25] w13 := S14
   have S15 : Sep w [rowOf encI ra3 rc3 3 1 (ls ++ [i]), box b2 [.slice ea1 lS.length ec1, .slice ea2 lM.length ec2] 53, rowOf (enc1 Value.bool) ea1 ec1 4 1 lS, rowOf (enc1 Value.bool) ea2 ec2 4 1 lM, rowOf encI ra2 rc2 3 1 (deadL c), rowOf encI ra1 rc1 3 1 (reachL c), box b1 [.slice c.gStates_a c.gStates_n c.gStates_c, .slice c.gInputs_a c.gInputs_n c.gInputs_c, .int .i64 c.gStart, .slice c.gMoves_a c.gMoves_n c.gMoves_c] 25] w13 := S14.erase 0
   clear S14
   refine J.run 5 K7_14 [(50, .int .i64 (IntKind.wrap .i64 (i + 1))), (6, .slice ra3 ((ls ++ [i]).length) rc3), (39, .int .i64 (lS.length : Int)), (38, .slice ea1 lS.length ec1), (7, .slice none 0 0), (5, .pointer (some ⟨b2, 0, none⟩)), (4, .slice ra2 ((deadL c).length) rc2), (3, .slice ra1 ((reachL c).length) rc1)] w13 (by kernel_rfl) ?_
   refine J.head (.int .i64 (i + 1)) (congrArg (Value.int .i64) (IntWalk.i64_in _ (by omega))) ?_
   refine J.run 3 K7_9 [(40, .int .i64 (i + 1)), (6, .slice ra3 ((ls ++ [i]).length) rc3), (39, .int .i64 (lS.length : Int)), (38, .slice ea1 lS.length ec1), (7, .slice none 0 0), (5, .pointer (some ⟨b2, 0, none⟩)), (4, .slice ra2 ((deadL c).length) rc2), (3, .slice ra1 ((reachL c).length) rc1)] w13 (by kernel_rfl) ?_
   refine J.run 0 K7_9 [(40, .int .i64 (i + 1)), (39, .int .i64 (lS.length : Int)), (38, .slice ea1 lS.length ec1), (7, .slice none 0 0), (6, .slice ra3 ((ls ++ [i]).length) rc3), (5, .pointer (some ⟨b2, 0, none⟩)), (4, .slice ra2 ((deadL c).length) rc2), (3, .slice ra1 ((reachL c).length) rc1)] w13 (by kernel_rfl) ?_
   exact ih1 _ (show ((lS.length : Int) - (i + 1)).toNat < mm1 from by omega) ra3 rc3 (ls ++ [i]) (i + 1) w13 (by omega) (by omega) (selL_yes hls h0 (got_yes her.2.2.1 h0 fk4)) S15 rfl
  refine J.head (.bool false) (congrArg Value.bool (decide_eq_false fk3)) ?_
  refine J.run 6 K7_16 [(51, .pointer (some ⟨b2, 1, none⟩)), (7, .slice none 0 0), (6, .slice ra ls.length rc), (4, .slice ra2 ((deadL c).length) rc2), (3, .slice ra1 ((reachL c).length) rc1)] w11 (by kernel_rfl) ?_
  refine J.ok (OK.ldBox S12 1 52 51 1 (.slice ea2 lM.length ec2) (by kernel_rfl) rfl (by kernel_rfl)) ?_
  refine J.run 5 K7_17 [(54, .int .i64 0), (53, .int .i64 (lM.length : Int)), (52, .slice ea2 lM.length ec2), (7, .slice none 0 0), (6, .slice ra ls.length rc), (4, .slice ra2 ((deadL c).length) rc2), (3, .slice ra1 ((reachL c).length) rc1)] w11 (by kernel_rfl) ?_
  have hea : ls = reachL c := by rw [(reach_valid hv).1, hls, show i.toNat = c.gStates_n by have := her.1; omega]
  have S16 : Sep w [rowOf encI ra rc 3 1 (reachL c), box b2 [.slice ea1 lS.length ec1, .slice ea2 lM.length ec2] 53, rowOf (enc1 Value.bool) ea1 ec1 4 1 lS, rowOf (enc1 Value.bool) ea2 ec2 4 1 lM, rowOf encI ra2 rc2 3 1 (deadL c), rowOf encI ra1 rc1 3 1 (reachL c), box b1 [.slice c.gStates_a c.gStates_n c.gStates_c, .slice c.gInputs_a c.gInputs_n c.gInputs_c, .int .i64 c.gStart, .slice c.gMoves_a c.gMoves_n c.gMoves_c] 25] w11 := by have h_ := S12; rw [hea] at h_; exact h_
  refine J.cast (env' := [(54, .int .i64 0), (53, .int .i64 (lM.length : Int)), (52, .slice ea2 lM.length ec2), (7, .slice none 0 0), (6, .slice ra ((reachL c).length) rc), (4, .slice ra2 ((deadL c).length) rc2), (3, .slice ra1 ((reachL c).length) rc1)]) (by rw [hea]) ?_
  clear hls
  have S17 : Sep w [rowOf encI none 0 3 1 ([]), rowOf encI ra rc 3 1 (reachL c), box b2 [.slice ea1 lS.length ec1, .slice ea2 lM.length ec2] 53, rowOf (enc1 Value.bool) ea1 ec1 4 1 lS, rowOf (enc1 Value.bool) ea2 ec2 4 1 lM, rowOf encI ra2 rc2 3 1 (deadL c), rowOf encI ra1 rc1 3 1 (reachL c), box b1 [.slice c.gStates_a c.gStates_n c.gStates_c, .slice c.gInputs_a c.gInputs_n c.gInputs_c, .int .i64 c.gStart, .slice c.gMoves_a c.gMoves_n c.gMoves_c] 25] w11 := S16.nilRow 3 1
  have L7_2 : ∀ (mm_ : Nat) (raz : Option Addr) (rcz : Nat) (lsz : List Int) (iz : Int) (w14 : World), (0 ≤ iz) → (iz ≤ (lM.length : Int)) → (lsz = selL (fun i => ¬ RM c i) (iz).toNat) → Sep w [rowOf encI raz rcz 3 1 lsz, rowOf encI ra rc 3 1 (reachL c), box b2 [.slice ea1 lS.length ec1, .slice ea2 lM.length ec2] 53, rowOf (enc1 Value.bool) ea1 ec1 4 1 lS, rowOf (enc1 Value.bool) ea2 ec2 4 1 lM, rowOf encI ra2 rc2 3 1 (deadL c), rowOf encI ra1 rc1 3 1 (reachL c), box b1 [.slice c.gStates_a c.gStates_n c.gStates_c, .slice c.gInputs_a c.gInputs_n c.gInputs_c, .int .i64 c.gStart, .slice c.gMoves_a c.gMoves_n c.gMoves_c] 25] w14 → ((lM.length : Int) - iz).toNat = mm_ → J Try.prog 7 74 R K7_17 [(54, .int .i64 iz), (53, .int .i64 (lM.length : Int)), (52, .slice ea2 lM.length ec2), (7, .slice raz lsz.length rcz), (6, .slice ra ((reachL c).length) rc), (4, .slice ra2 ((deadL c).length) rc2), (3, .slice ra1 ((reachL c).length) rc1)] w14 := by
   intro mm2
   induction mm2 using Nat.strongRecOn with
   | _ mm2 ih2 =>
   intro raz rcz lsz iz w14 h0z h1z hlsz S18 hm2
   have hel := her.1
   have hem := her.2.1
   have hsl := selL_len (fun i => ¬ RM c i) iz.toNat; rw [← hlsz] at hsl
   refine J.run 5 K7_18 [(55, .bool (decide (iz < (lM.length : Int)))), (54, .int .i64 iz), (53, .int .i64 (lM.length : Int)), (52, .slice ea2 lM.length ec2), (7, .slice raz lsz.length rcz), (6, .slice ra ((reachL c).length) rc), (4, .slice ra2 ((deadL c).length) rc2), (3, .slice ra1 ((reachL c).length) rc1)] w14 (by kernel_rfl) ?_
   by_cases fk5 : iz < (lM.length : Int)
   rotate_left
   ·skip
    refine J.head (.bool false) (congrArg Value.bool (decide_eq_false fk5)) ?_
    refine J.run 6 K7_24 [(67, .slice ra ((reachL c).length) rc), (66, .slice ra1 ((reachL c).length) rc1), (7, .slice raz lsz.length rcz), (4, .slice ra2 ((deadL c).length) rc2)] w14 (by kernel_rfl) ?_
    have := rowOf_len (S18.nth 6 rfl)
    have := rowOf_len (S18.nth 1 rfl)
    refine J.callF 68 13 #[.slice ra1 ((reachL c).length) rc1, .slice ra ((reachL c).length) rc] hb13 (by kernel_rfl) (equal_any ra1 ((reachL c).length) rc1 (reachL c) ra ((reachL c).length) rc (reachL c) _ ((row1_ones (S18.nth 6 rfl) ((reachL c).length) (by first | rfl | omega | simp))) ((row1_ones (S18.nth 1 rfl) ((reachL c).length) (by first | rfl | omega | simp))) (by first | omega | (simp; omega))) ?_
    rintro _ w17 ⟨rfl, T7⟩
    have S22 : Sep w [rowOf encI raz rcz 3 1 lsz, rowOf encI ra rc 3 1 (reachL c), box b2 [.slice ea1 lS.length ec1, .slice ea2 lM.length ec2] 53, rowOf (enc1 Value.bool) ea1 ec1 4 1 lS, rowOf (enc1 Value.bool) ea2 ec2 4 1 lM, rowOf encI ra2 rc2 3 1 (deadL c), rowOf encI ra1 rc1 3 1 (reachL c), box b1 [.slice c.gStates_a c.gStates_n c.gStates_c, .slice c.gInputs_a c.gInputs_n c.gInputs_c, .int .i64 c.gStart, .slice c.gMoves_a c.gMoves_n c.gMoves_c] 25] w17 := S18.trans T7
    clear T7 S18
    refine J.run 1 K7_25 [(69, .bool ((reachL c) == (reachL c))), (7, .slice raz lsz.length rcz), (4, .slice ra2 ((deadL c).length) rc2)] w17 (by kernel_rfl) ?_
    have fk8 : ((reachL c) == (reachL c)) = true := beq_self_eq_true _
    refine J.head (.bool true) (congrArg Value.bool fk8) ?_
    refine J.run 2 K7_26 [(71, .slice raz lsz.length rcz), (70, .slice ra2 ((deadL c).length) rc2), (69, .bool true)] w17 (by kernel_rfl) ?_
    have hed : lsz = deadL c := by rw [(reach_valid hv).2, hlsz, show iz.toNat = c.gMoves_n by have := her.2.1; omega]
    have := rowOf_len (S22.nth 5 rfl)
    have := rowOf_len (S22.nth 0 rfl)
    refine J.callF 72 13 #[.slice ra2 ((deadL c).length) rc2, .slice raz lsz.length rcz] hb13 (by kernel_rfl) (equal_any ra2 ((deadL c).length) rc2 (deadL c) raz lsz.length rcz lsz _ ((row1_ones (S22.nth 5 rfl) ((deadL c).length) (by first | rfl | omega | simp))) ((row1_ones (S22.nth 0 rfl) lsz.length (by first | rfl | omega | simp))) (by first | omega | (simp; omega))) ?_
    rintro _ w18 ⟨rfl, T8⟩
    have S23 : Sep w [rowOf encI raz rcz 3 1 lsz, rowOf encI ra rc 3 1 (reachL c), box b2 [.slice ea1 lS.length ec1, .slice ea2 lM.length ec2] 53, rowOf (enc1 Value.bool) ea1 ec1 4 1 lS, rowOf (enc1 Value.bool) ea2 ec2 4 1 lM, rowOf encI ra2 rc2 3 1 (deadL c), rowOf encI ra1 rc1 3 1 (reachL c), box b1 [.slice c.gStates_a c.gStates_n c.gStates_c, .slice c.gInputs_a c.gInputs_n c.gInputs_c, .int .i64 c.gStart, .slice c.gMoves_a c.gMoves_n c.gMoves_c] 25] w18 := S22.trans T8
    clear T8 S22
    refine J.run 3 K7_27 [(2, .bool ((deadL c) == lsz))] w18 (by kernel_rfl) ?_
    refine J.ret Try.f7 [.bool ((deadL c) == lsz)] Try.func7 ⟨by kernel_rfl, trivial⟩ ?_
    refine hR _ _ ?_
    exact ⟨congrArg Value.bool (by first | (rw [(reach_none hnv).2]; rfl) | (rw [hed]; exact beq_self_eq_true _) | exact beq_self_eq_true _), S23.nil⟩
   refine J.head (.bool true) (congrArg Value.bool (decide_eq_true fk5)) ?_
   refine J.run 7 K7_19 [(56, .int .i64 iz), (54, .int .i64 iz), (53, .int .i64 (lM.length : Int)), (52, .slice ea2 lM.length ec2), (7, .slice raz lsz.length rcz), (6, .slice ra ((reachL c).length) rc), (4, .slice ra2 ((deadL c).length) rc2), (3, .slice ra1 ((reachL c).length) rc1)] w14 (by kernel_rfl) ?_
   obtain ⟨p2, hp2⟩ := row1_addr (S18.nth 4 rfl) (show 0 < (lM).length by first | omega | (simp; omega))
   refine J.ok (OK.index 57 51 1 ea2 p2 lM.length (iz).toNat iz (p2.add (iz).toNat) (by kernel_rfl) (by kernel_rfl) hp2 (by omega) (by first | omega | (simp; omega)) (by rw [Nat.mul_one])) ?_
   refine J.ok (OK.ldCell 58 4 (p2.add (iz).toNat) (.bool (lM.getD (iz).toNat false)) (by kernel_rfl) (by kernel_rfl) (row1_cell (g := Value.bool) S18 4 rfl hp2 false (iz).toNat (by first | omega | (simp; omega)))) ?_
   refine J.run 8 K7_20 [(60, .bool (!(lM.getD (iz).toNat false))), (10, .int .i64 iz), (54, .int .i64 iz), (53, .int .i64 (lM.length : Int)), (52, .slice ea2 lM.length ec2), (7, .slice raz lsz.length rcz), (6, .slice ra ((reachL c).length) rc), (4, .slice ra2 ((deadL c).length) rc2), (3, .slice ra1 ((reachL c).length) rc1)] w14 (by kernel_rfl) ?_
   rcases Bool.eq_false_or_eq_true (lM.getD (iz).toNat false) with fk6 | fk6
   ·skip
    refine J.head (.bool false) (congrArg Value.bool (by rw [fk6]; rfl)) ?_
    refine J.run 5 K7_21 [(65, .int .i64 (IntKind.wrap .i64 (iz + 1))), (53, .int .i64 (lM.length : Int)), (52, .slice ea2 lM.length ec2), (7, .slice raz lsz.length rcz), (6, .slice ra ((reachL c).length) rc), (4, .slice ra2 ((deadL c).length) rc2), (3, .slice ra1 ((reachL c).length) rc1)] w14 (by kernel_rfl) ?_
    refine J.head (.int .i64 (iz + 1)) (congrArg (Value.int .i64) (IntWalk.i64_in _ (by omega))) ?_
    refine J.run 3 K7_17 [(54, .int .i64 (iz + 1)), (53, .int .i64 (lM.length : Int)), (52, .slice ea2 lM.length ec2), (7, .slice raz lsz.length rcz), (6, .slice ra ((reachL c).length) rc), (4, .slice ra2 ((deadL c).length) rc2), (3, .slice ra1 ((reachL c).length) rc1)] w14 (by kernel_rfl) ?_
    refine J.run 0 K7_17 [(54, .int .i64 (iz + 1)), (53, .int .i64 (lM.length : Int)), (52, .slice ea2 lM.length ec2), (7, .slice raz lsz.length rcz), (6, .slice ra ((reachL c).length) rc), (4, .slice ra2 ((deadL c).length) rc2), (3, .slice ra1 ((reachL c).length) rc1)] w14 (by kernel_rfl) ?_
    exact ih2 _ (show ((lM.length : Int) - (iz + 1)).toNat < mm2 from by omega) raz rcz lsz (iz + 1) w14 (by omega) (by omega) (selL_no hlsz h0z (fun h_ => h_ (got_yes her.2.2.2 h0z fk6))) S18 rfl
   refine J.head (.bool true) (congrArg Value.bool (by rw [fk6]; rfl)) ?_
   refine J.run 4 K7_22 [(62, .int .i64 iz), (61, .slice raz lsz.length rcz), (54, .int .i64 iz), (53, .int .i64 (lM.length : Int)), (52, .slice ea2 lM.length ec2), (6, .slice ra ((reachL c).length) rc), (4, .slice ra2 ((deadL c).length) rc2), (3, .slice ra1 ((reachL c).length) rc1)] w14 (by kernel_rfl) ?_
   refine J.newSlice S18 63 1 [.int .i64 iz] 3 (by kernel_rfl) ?_
   intro b4 w15 S19
   refine J.append encI S19 1 lsz iz 64 26 (.int .i64 0) 8 ⟨b4, 0, none⟩ 1 rfl (by kernel_rfl) (by kernel_rfl) (by kernel_rfl) (by kernel_rfl) (by decide) (box_cells (S19.nth 0 rfl)) (by kernel_rfl) (by kernel_rfl) (⟨by omega, by omega⟩) ?_
   intro ra4 rc4 w16 S20
   replace S20 : Sep w [box b4 [.int .i64 iz] 3, rowOf encI ra4 rc4 3 1 (lsz ++ [iz]), rowOf encI ra rc 3 1 (reachL c), box b2 [.slice ea1 lS.length ec1, .slice ea2 lM.length ec2] 53, rowOf (enc1 Value.bool) ea1 ec1 4 1 lS, rowOf (enc1 Value.bool) ea2 ec2 4 1 lM, rowOf encI ra2 rc2 3 1 (deadL c), rowOf encI ra1 rc1 3 1 (reachL c), box b1 [.slice c.gStates_a c.gStates_n c.gStates_c, .slice c.gInputs_a c.gInputs_n c.gInputs_c, .int .i64 c.gStart, .slice c.gMoves_a c.gMoves_n c.gMoves_c] 25] w16 := S20
   have S21 : Sep w [rowOf encI ra4 rc4 3 1 (lsz ++ [iz]), rowOf encI ra rc 3 1 (reachL c), box b2 [.slice ea1 lS.length ec1, .slice ea2 lM.length ec2] 53, rowOf (enc1 Value.bool) ea1 ec1 4 1 lS, rowOf (enc1 Value.bool) ea2 ec2 4 1 lM, rowOf encI ra2 rc2 3 1 (deadL c), rowOf encI ra1 rc1 3 1 (reachL c), box b1 [.slice c.gStates_a c.gStates_n c.gStates_c, .slice c.gInputs_a c.gInputs_n c.gInputs_c, .int .i64 c.gStart, .slice c.gMoves_a c.gMoves_n c.gMoves_c] 25] w16 := S20.erase 0
   clear S20
   refine J.run 5 K7_23 [(65, .int .i64 (IntKind.wrap .i64 (iz + 1))), (7, .slice ra4 ((lsz ++ [iz]).length) rc4), (53, .int .i64 (lM.length : Int)), (52, .slice ea2 lM.length ec2), (6, .slice ra ((reachL c).length) rc), (4, .slice ra2 ((deadL c).length) rc2), (3, .slice ra1 ((reachL c).length) rc1)] w16 (by kernel_rfl) ?_
   refine J.head (.int .i64 (iz + 1)) (congrArg (Value.int .i64) (IntWalk.i64_in _ (by omega))) ?_
   refine J.run 3 K7_17 [(54, .int .i64 (iz + 1)), (7, .slice ra4 ((lsz ++ [iz]).length) rc4), (53, .int .i64 (lM.length : Int)), (52, .slice ea2 lM.length ec2), (6, .slice ra ((reachL c).length) rc), (4, .slice ra2 ((deadL c).length) rc2), (3, .slice ra1 ((reachL c).length) rc1)] w16 (by kernel_rfl) ?_
   refine J.run 0 K7_17 [(54, .int .i64 (iz + 1)), (53, .int .i64 (lM.length : Int)), (52, .slice ea2 lM.length ec2), (7, .slice ra4 ((lsz ++ [iz]).length) rc4), (6, .slice ra ((reachL c).length) rc), (4, .slice ra2 ((deadL c).length) rc2), (3, .slice ra1 ((reachL c).length) rc1)] w16 (by kernel_rfl) ?_
   exact ih2 _ (show ((lM.length : Int) - (iz + 1)).toNat < mm2 from by omega) ra4 rc4 (lsz ++ [iz]) (iz + 1) w16 (by omega) (by omega) (selL_yes hlsz h0z (got_no her.2.2.2 fk6)) S21 rfl
  exact L7_2 _ none 0 ([]) 0 w11 (by omega) (by omega) (selL_zero _) S17 rfl
 exact L7_1 _ none 0 ([]) 0 w10 (by omega) (by omega) (selL_zero _) S11 rfl

end
end Go.Proofs.Ytbbpgidmadlgmaa

