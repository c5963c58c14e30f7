/- Walks of functions of this seat, printed by a program over the engine. Conditions: as each theorem says. -/
import Derived.Test.YtbbpgidmadlgmaaZdX13
namespace Go.Proofs.Ytbbpgidmadlgmaa
noncomputable section
open Go.Eng Go.RowKit
set_option linter.unusedSimpArgs false
set_option linter.unusedVariables false
theorem hb45 : HasBody Try.prog 45 := fun _ _ => by kernel_rfl
def K45_0 := adv 10 [] (bodyOf Try.f45)
def K45_1 := adv 12 [false] K45_0
def K45_2 := adv 7 [] K45_1
def K45_3 := adv 5 [true] K45_2
def K45_4 := adv 1 [] (popK K45_3)
def K45_5 := adv 2 [] (popK K45_4)
def K45_6 := adv 7 [] (popK K45_5)
def K45_7 := adv 7 [false] K45_2
set_option maxRecDepth 20000 in
set_option maxHeartbeats 20000000 in
theorem grow_any (n : Int) (w : World) (hn : 0 ≤ n ∧ n ≤ 1099511627776) : Ret Try.prog 45 #[.slice none 0 0, .int .i64 n] w (fun v w' => ∃ a cap, v = .slice a 0 cap ∧ Sep w [rowOf mvE a cap 42 5 []] w') := by
 have S0 := Sep.refl w
 refine Ret.named fun R hR => ?_
 refine Ret.of_J (N := 27) [(0, .slice none 0 0), (1, .int .i64 n)] Try.func45 rfl rfl (Nat.le_of_ble_eq_true (by kernel_rfl)) (by kernel_rfl) ?_
 refine J.run 10 K45_0 [(6, .bool (decide (n < 0))), (0, .slice none 0 0), (1, .int .i64 n)] w (by kernel_rfl) ?_
 have fk2 : ¬ (n < 0) := by omega
 refine J.head (.bool false) (congrArg Value.bool (decide_eq_false fk2)) ?_
 refine J.run 12 K45_1 [(14, .int .i64 (IntKind.wrap .i64 (n - 0))), (0, .slice none 0 0)] w (by kernel_rfl) ?_
 refine J.head (.int .i64 (n - 0)) (congrArg (Value.int .i64) (IntWalk.i64_in _ (by omega))) ?_
 refine J.run 7 K45_2 [(16, .bool (decide ((n - 0) > 0))), (1, .int .i64 (n - 0)), (0, .slice none 0 0)] w (by kernel_rfl) ?_
 by_cases fk3 : (n - 0) > 0
 rotate_left
 ·skip
  refine J.head (.bool false) (congrArg Value.bool (decide_eq_false fk3)) ?_
  refine J.run 7 K45_7 [(4, .slice none 0 0)] w (by kernel_rfl) ?_
  refine J.ret Try.f45 [.slice none 0 0] Try.func45 ⟨by kernel_rfl, trivial⟩ ?_
  refine hR _ _ ?_
  exact ⟨none, 0, rfl, S0.nil.nilRow 42 5⟩
 refine J.head (.bool true) (congrArg Value.bool (decide_eq_true fk3)) ?_
 refine J.run 5 K45_3 [(19, .int .i64 0), (17, .slice none 0 0), (1, .int .i64 (n - 0)), (0, .slice none 0 0)] w (by kernel_rfl) ?_
 refine J.ok (OK.slice 20 23 5 none 0 0 none (some (.int .i64 0)) 0 0 (by kernel_rfl) (by kernel_rfl) (.inl ⟨rfl, rfl⟩) (.inr ⟨_, _, rfl, rfl⟩) (by first | omega | (simp; omega)) (by first | omega | (simp; omega))) ?_
 refine J.head (.slice none 0 0) (by rw [subA_zero]; try rfl) ?_
 refine J.run 1 K45_4 [(21, .int .i64 (n - 0)), (20, .slice none 0 0), (0, .slice none 0 0)] w (by kernel_rfl) ?_
 refine J.appz mvE (⟨0, 0, 0, 0, 0⟩ : Mv) S0 22 23 3 42 5 .i64 .i64 (n - 0) (n - 0).toNat (.agg #[.int .i64 0, .int .i64 0, .int .i64 0, .int .i64 0, .int .i64 0]) 40 (by kernel_rfl) (by omega) (by omega) (by kernel_rfl) (by kernel_rfl) (by kernel_rfl) (by kernel_rfl) (by decide) (by rfl) (⟨by omega, by omega⟩) ?_
 intro b1 rc1 w1 S1
 refine J.run 2 K45_5 [(24, .int .i64 0), (22, .slice (some ⟨b1, 0, none⟩) ((List.replicate (n - 0).toNat (⟨0, 0, 0, 0, 0⟩ : Mv)).length) rc1)] w1 (by kernel_rfl) ?_
 have := (rowOf_cells (S1.nth 0 rfl)).2.2
 refine J.ok (OK.slice 25 23 5 (some ⟨b1, 0, none⟩) ((List.replicate (n - 0).toNat (⟨0, 0, 0, 0, 0⟩ : Mv)).length) rc1 none (some (.int .i64 0)) 0 0 (by kernel_rfl) (by kernel_rfl) (.inl ⟨rfl, rfl⟩) (.inr ⟨_, _, rfl, rfl⟩) (by first | omega | (simp; omega)) (by first | omega | (simp; omega))) ?_
 refine J.head (.slice (some ⟨b1, 0, none⟩) 0 rc1) (by rw [subA_zero]; try rfl) ?_
 refine J.run 7 K45_6 [(4, .slice (some ⟨b1, 0, none⟩) 0 rc1)] w1 (by kernel_rfl) ?_
 refine J.ret Try.f45 [.slice (some ⟨b1, 0, none⟩) 0 rc1] Try.func45 ⟨by kernel_rfl, trivial⟩ ?_
 refine hR _ _ ?_
 exact ⟨_, _, rfl, (S1.cut 0 rfl (fun _ => rfl) 0 (Nat.zero_le _)).pick 0 rfl⟩

theorem hb29 : HasBody Try.prog 29 := fun _ _ => by kernel_rfl
def K29_0 := adv 28 [true] (bodyOf Try.f29)
def K29_1 := adv 8 [] (popK (popK K29_0))
def K29_2 := adv 7 [] K29_1
def K29_3 := adv 8 [false] K29_2
def K29_4 := adv 11 [true] K29_3
def K29_5 := adv 8 [] (popK (popK K29_4))
def K29_6 := adv 7 [] K29_5
def K29_7 := adv 8 [false] K29_6
def K29_8 := adv 10 [false] K29_7
def K29_9 := adv 22 [true] (popK K29_8)
def K29_10 := adv 5 [] (popK (popK K29_9))
def K29_11 := adv 8 [] (popK K29_10)
def K29_12 := adv 11 [true] K29_11
def K29_13 := adv 5 [] (popK (popK K29_12))
def K29_14 := adv 8 [] (popK K29_13)
def K29_15 := adv 12 [false] K29_14
set_option maxRecDepth 20000 in
set_option maxHeartbeats 20000000 in
theorem concat_any (a1 : Option Addr) (n1 c1 : Nat) (l1 : List Mv) (a2 : Option Addr) (n2 c2 : Nat) (l2 : List Mv) (bx : Nat) (w : World) (hI1 : Recs mvE 5 w a1 n1 l1) (hI2 : Recs mvE 5 w a2 n2 l2) (hm : n1 ≤ 1000 ∧ n2 ≤ 1000) (hb : (box bx [.slice a1 n1 c1, .slice a2 n2 c2] 23).holds w) : Ret Try.prog 29 #[.slice (some ⟨bx, 0, none⟩) 2 2] w (fun v w' => ∃ a cap, v = .slice a (l1 ++ l2).length cap ∧ Sep w [rowOf mvE a cap 42 5 (l1 ++ l2)] w') := by
 have S0 := Sep.refl w
 refine Ret.named fun R hR => ?_
 refine Ret.of_J (N := 36) [(0, .slice (some ⟨bx, 0, none⟩) 2 2)] Try.func29 rfl rfl (Nat.le_of_ble_eq_true (by kernel_rfl)) (by kernel_rfl) ?_
 have hl1 := hI1.len_eq
 have hl2 := hI2.len_eq
 refine J.run 28 K29_0 [(11, .int .i64 0), (10, .int .i64 2), (9, .slice (some ⟨bx, 0, none⟩) 2 2), (3, .int .i64 0), (0, .slice (some ⟨bx, 0, none⟩) 2 2)] w (by kernel_rfl) ?_
 refine J.ok (OK.index 13 73 1 (some ⟨bx, 0, none⟩) ⟨bx, 0, none⟩ 2 0 0 ⟨bx, 0, none⟩ (by kernel_rfl) (by kernel_rfl) rfl (by omega) (by omega) (by rfl)) ?_
 refine J.ok (OK.ldRo S0 hb 14 23 0 (.slice a1 n1 c1) (by kernel_rfl) (by kernel_rfl)) ?_
 refine J.run 8 K29_1 [(18, .int .i64 (IntKind.wrap .i64 (0 + (n1 : Int)))), (11, .int .i64 0), (10, .int .i64 2), (9, .slice (some ⟨bx, 0, none⟩) 2 2), (0, .slice (some ⟨bx, 0, none⟩) 2 2)] w (by kernel_rfl) ?_
 refine J.head (.int .i64 (0 + (n1 : Int))) (congrArg (Value.int .i64) (IntWalk.i64_in _ (by omega))) ?_
 refine J.run 7 K29_2 [(20, .bool (decide ((0 + (n1 : Int)) < 0))), (3, .int .i64 (0 + (n1 : Int))), (11, .int .i64 0), (10, .int .i64 2), (9, .slice (some ⟨bx, 0, none⟩) 2 2), (0, .slice (some ⟨bx, 0, none⟩) 2 2)] w (by kernel_rfl) ?_
 have fk2 : ¬ ((0 + (n1 : Int)) < 0) := by omega
 refine J.head (.bool false) (congrArg Value.bool (decide_eq_false fk2)) ?_
 refine J.run 8 K29_3 [(11, .int .i64 1), (3, .int .i64 (0 + (n1 : Int))), (10, .int .i64 2), (9, .slice (some ⟨bx, 0, none⟩) 2 2), (0, .slice (some ⟨bx, 0, none⟩) 2 2)] w (by kernel_rfl) ?_
 refine J.run 11 K29_4 [(11, .int .i64 1), (3, .int .i64 (0 + (n1 : Int))), (10, .int .i64 2), (9, .slice (some ⟨bx, 0, none⟩) 2 2), (0, .slice (some ⟨bx, 0, none⟩) 2 2)] w (by kernel_rfl) ?_
 refine J.ok (OK.index 13 73 1 (some ⟨bx, 0, none⟩) ⟨bx, 0, none⟩ 2 1 1 ⟨bx, 1, none⟩ (by kernel_rfl) (by kernel_rfl) rfl (by omega) (by omega) (by rfl)) ?_
 refine J.ok (OK.ldRo S0 hb 14 23 1 (.slice a2 n2 c2) (by kernel_rfl) (by kernel_rfl)) ?_
 refine J.run 8 K29_5 [(18, .int .i64 (IntKind.wrap .i64 ((0 + (n1 : Int)) + (n2 : Int)))), (11, .int .i64 1), (10, .int .i64 2), (9, .slice (some ⟨bx, 0, none⟩) 2 2), (0, .slice (some ⟨bx, 0, none⟩) 2 2)] w (by kernel_rfl) ?_
 refine J.head (.int .i64 ((0 + (n1 : Int)) + (n2 : Int))) (congrArg (Value.int .i64) (IntWalk.i64_in _ (by omega))) ?_
 refine J.run 7 K29_6 [(20, .bool (decide (((0 + (n1 : Int)) + (n2 : Int)) < 0))), (3, .int .i64 ((0 + (n1 : Int)) + (n2 : Int))), (11, .int .i64 1), (10, .int .i64 2), (9, .slice (some ⟨bx, 0, none⟩) 2 2), (0, .slice (some ⟨bx, 0, none⟩) 2 2)] w (by kernel_rfl) ?_
 have fk4 : ¬ (((0 + (n1 : Int)) + (n2 : Int)) < 0) := by omega
 refine J.head (.bool false) (congrArg Value.bool (decide_eq_false fk4)) ?_
 refine J.run 8 K29_7 [(11, .int .i64 2), (3, .int .i64 ((0 + (n1 : Int)) + (n2 : Int))), (10, .int .i64 2), (9, .slice (some ⟨bx, 0, none⟩) 2 2), (0, .slice (some ⟨bx, 0, none⟩) 2 2)] w (by kernel_rfl) ?_
 refine J.run 10 K29_8 [(23, .int .i64 ((0 + (n1 : Int)) + (n2 : Int))), (0, .slice (some ⟨bx, 0, none⟩) 2 2)] w (by kernel_rfl) ?_
 refine J.callF 24 45 #[.slice none 0 0, .int .i64 ((0 + (n1 : Int)) + (n2 : Int))] hb45 (by kernel_rfl) (grow_any ((0 + (n1 : Int)) + (n2 : Int)) _ (by omega)) ?_
 rintro _ w1 ⟨ra1, rc1, rfl, T1⟩
 have S1 : Sep w [rowOf mvE ra1 rc1 42 5 ([])] w1 := S0.trans T1
 clear T1
 refine J.run 22 K29_9 [(27, .int .i64 0), (26, .int .i64 2), (25, .slice (some ⟨bx, 0, none⟩) 2 2), (6, .slice ra1 0 rc1)] w1 (by kernel_rfl) ?_
 refine J.ok (OK.index 29 73 1 (some ⟨bx, 0, none⟩) ⟨bx, 0, none⟩ 2 0 0 ⟨bx, 0, none⟩ (by kernel_rfl) (by kernel_rfl) rfl (by omega) (by omega) (by rfl)) ?_
 refine J.ok (OK.ldRo S1 hb 30 23 0 (.slice a1 n1 c1) (by kernel_rfl) (by kernel_rfl)) ?_
 refine J.run 5 K29_10 [(32, .slice a1 n1 c1), (31, .slice ra1 0 rc1), (27, .int .i64 0), (26, .int .i64 2), (25, .slice (some ⟨bx, 0, none⟩) 2 2)] w1 (by kernel_rfl) ?_
 have hz1 := hI1.sep S1
 have := hz1.len_eq
 refine J.appendN mvE S1 0 ([]) l1 n1 (by first | omega | (simp; omega)) 33 23 (.agg #[.int .i64 0, .int .i64 0, .int .i64 0, .int .i64 0, .int .i64 0]) 40 a1 c1 rfl (by kernel_rfl) (by kernel_rfl) (by kernel_rfl) (by kernel_rfl) (by decide) (hI1.sep S1).cells (fun h_ => Recs.nil' (h_ ▸ hz1)) (fun _ => rfl) (fun _ => rfl) (⟨by first | omega | (simp; omega), by first | omega | (simp; omega)⟩) ?_
 intro ra2 rc2 w2 S2
 replace S2 : Sep w [rowOf mvE ra2 rc2 42 5 l1] w2 := S2
 refine J.run 8 K29_11 [(27, .int .i64 1), (6, .slice ra2 l1.length rc2), (26, .int .i64 2), (25, .slice (some ⟨bx, 0, none⟩) 2 2)] w2 (by kernel_rfl) ?_
 refine J.run 11 K29_12 [(27, .int .i64 1), (6, .slice ra2 l1.length rc2), (26, .int .i64 2), (25, .slice (some ⟨bx, 0, none⟩) 2 2)] w2 (by kernel_rfl) ?_
 refine J.ok (OK.index 29 73 1 (some ⟨bx, 0, none⟩) ⟨bx, 0, none⟩ 2 1 1 ⟨bx, 1, none⟩ (by kernel_rfl) (by kernel_rfl) rfl (by omega) (by omega) (by rfl)) ?_
 refine J.ok (OK.ldRo S2 hb 30 23 1 (.slice a2 n2 c2) (by kernel_rfl) (by kernel_rfl)) ?_
 refine J.run 5 K29_13 [(32, .slice a2 n2 c2), (31, .slice ra2 l1.length rc2), (27, .int .i64 1), (26, .int .i64 2), (25, .slice (some ⟨bx, 0, none⟩) 2 2)] w2 (by kernel_rfl) ?_
 have hz2 := hI2.sep S2
 have := hz2.len_eq
 refine J.appendN mvE S2 0 l1 l2 n2 (by first | omega | (simp; omega)) 33 23 (.agg #[.int .i64 0, .int .i64 0, .int .i64 0, .int .i64 0, .int .i64 0]) 40 a2 c2 rfl (by kernel_rfl) (by kernel_rfl) (by kernel_rfl) (by kernel_rfl) (by decide) (hI2.sep S2).cells (fun h_ => Recs.nil' (h_ ▸ hz2)) (fun _ => rfl) (fun _ => rfl) (⟨by first | omega | (simp; omega), by first | omega | (simp; omega)⟩) ?_
 intro ra3 rc3 w3 S3
 replace S3 : Sep w [rowOf mvE ra3 rc3 42 5 (l1 ++ l2)] w3 := S3
 refine J.run 8 K29_14 [(27, .int .i64 2), (6, .slice ra3 ((l1 ++ l2).length) rc3), (26, .int .i64 2), (25, .slice (some ⟨bx, 0, none⟩) 2 2)] w3 (by kernel_rfl) ?_
 refine J.run 12 K29_15 [(2, .slice ra3 ((l1 ++ l2).length) rc3)] w3 (by kernel_rfl) ?_
 refine J.ret Try.f29 [.slice ra3 ((l1 ++ l2).length) rc3] Try.func29 ⟨by kernel_rfl, trivial⟩ ?_
 refine hR _ _ ?_
 exact ⟨_, _, rfl, S3.pick 0 rfl⟩

theorem hb26 : HasBody Try.prog 26 := fun _ _ => by kernel_rfl
def K26_0 := adv 9 [] (bodyOf Try.f26)
def K26_1 := adv 8 [] K26_0
def K26_2 := adv 2 [] K26_0
def K26_3 := adv 5 [] (popK K26_2)
set_option maxRecDepth 20000 in
set_option maxHeartbeats 20000000 in
theorem dead1_any (c : Cht) (bx1 : Nat) (i : Int) (w : World) (hb1 : (box bx1 [.slice c.gStates_a c.gStates_n c.gStates_c, .slice c.gInputs_a c.gInputs_n c.gInputs_c, .int .i64 c.gStart, .slice c.gMoves_a c.gMoves_n c.gMoves_c] 25).holds w) : Ret Try.prog 26 #[.int .i64 i, .pointer (some ⟨bx1, 0, none⟩)] w (fun v w' => v = .bool (decide (i < 0) || decide ((c.gMoves_n : Int) ≤ i)) ∧ Sep w [] w') := by
 have S0 := Sep.refl w
 refine Ret.named fun R hR => ?_
 refine Ret.of_J (N := 13) [(0, .int .i64 i), (1, .pointer (some ⟨bx1, 0, none⟩))] Try.func26 rfl rfl (Nat.le_of_ble_eq_true (by kernel_rfl)) (by kernel_rfl) ?_
 refine J.run 9 K26_0 [(6, .bool (decide (i < 0))), (0, .int .i64 i), (1, .pointer (some ⟨bx1, 0, none⟩))] w (by kernel_rfl) ?_
 by_cases fk1 : i < 0
 ·skip
  refine J.head (.bool true) (congrArg Value.bool (decide_eq_true fk1)) ?_
  refine J.run 8 K26_1 [(3, .bool true)] w (by kernel_rfl) ?_
  refine J.ret Try.f26 [.bool true] Try.func26 ⟨by kernel_rfl, trivial⟩ ?_
  refine hR _ _ ?_
  exact ⟨congrArg Value.bool (by rw [Bool.eq_iff_iff]; simp only [Bool.or_eq_true, decide_eq_true_eq, Bool.true_eq, true_iff]; omega), S0.nil⟩
 refine J.head (.bool false) (congrArg Value.bool (decide_eq_false fk1)) ?_
 refine J.run 2 K26_2 [(8, .pointer (some ⟨bx1, 3, none⟩)), (7, .int .i64 i), (6, .bool false)] w (by kernel_rfl) ?_
 refine J.ok (OK.ldRo S0 hb1 9 23 3 (.slice c.gMoves_a c.gMoves_n c.gMoves_c) (by kernel_rfl) (by kernel_rfl)) ?_
 refine J.run 5 K26_3 [(3, .bool (decide (i ≥ (c.gMoves_n : Int))))] w (by kernel_rfl) ?_
 refine J.ret Try.f26 [.bool (decide (i ≥ (c.gMoves_n : Int)))] Try.func26 ⟨by kernel_rfl, trivial⟩ ?_
 refine hR _ _ ?_
 exact ⟨congrArg Value.bool (by rw [Bool.eq_iff_iff]; simp only [Bool.or_eq_true, decide_eq_true_eq, ge_iff_le]; omega), S0.nil⟩

theorem hb28 : HasBody Try.prog 28 := fun _ _ => by kernel_rfl
def K28_0 := adv 6 [] (bodyOf Try.f28)
def K28_1 := adv 1 [] (popK K28_0)
def K28_2 := adv 3 [] (popK K28_1)
set_option maxRecDepth 20000 in
set_option maxHeartbeats 20000000 in
theorem dead2_any (la : Option Addr) (len cap : Nat) (l : List Int) (bx1 : Nat) (x : Int) (w : World) (hI : Ints w la len l) (hlen : len ≤ 9223372036854775807) (hb1 : (box bx1 [.slice la len cap] 26).holds w) : Ret Try.prog 28 #[.int .i64 x, .pointer (some ⟨bx1, 0, none⟩)] w (fun v w' => v = .bool (!(l.any fun y => decide (x = y))) ∧ Sep w [] w') := by
 have S0 := Sep.refl w
 refine Ret.named fun R hR => ?_
 refine Ret.of_J (N := 8) [(0, .int .i64 x), (1, .pointer (some ⟨bx1, 0, none⟩))] Try.func28 rfl rfl (Nat.le_of_ble_eq_true (by kernel_rfl)) (by kernel_rfl) ?_
 refine J.run 6 K28_0 [(0, .int .i64 x), (1, .pointer (some ⟨bx1, 0, none⟩))] w (by kernel_rfl) ?_
 refine J.ok (OK.ldRo S0 hb1 4 26 0 (.slice la len cap) (by kernel_rfl) (by kernel_rfl)) ?_
 refine J.run 1 K28_1 [(5, .int .i64 x), (4, .slice la len cap)] w (by kernel_rfl) ?_
 refine J.callF 6 27 #[.slice la len cap, .int .i64 x] hb27 (by kernel_rfl) (containsI la len cap l x _ (hI.sep S0) (by first | omega | (simp; omega))) ?_
 rintro _ w1 ⟨rfl, T1⟩
 have S1 : Sep w [] w1 := S0.trans T1
 clear T1
 refine J.run 3 K28_2 [(3, .bool (!(List.any l fun y => decide (x = y))))] w1 (by kernel_rfl) ?_
 refine J.ret Try.f28 [.bool (!(List.any l fun y => decide (x = y)))] Try.func28 ⟨by kernel_rfl, trivial⟩ ?_
 refine hR _ _ ?_
 exact ⟨rfl, S1.nil⟩

end
end Go.Proofs.Ytbbpgidmadlgmaa

