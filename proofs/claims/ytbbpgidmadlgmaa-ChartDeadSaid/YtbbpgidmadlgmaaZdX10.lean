/- Walks of functions of this seat, printed by a program over the engine. Conditions: as each theorem says. -/
import Derived.Test.YtbbpgidmadlgmaaZdX9
namespace Go.Proofs.Ytbbpgidmadlgmaa
noncomputable section
open Go.Eng Go.RowKit
set_option linter.unusedSimpArgs false
set_option linter.unusedVariables false
theorem hb22 : HasBody Try.prog 22 := fun _ _ => by kernel_rfl
def K22_0 := adv 2 [] (bodyOf Try.f22)
def K22_1 := adv 5 [] (popK K22_0)
def K22_2 := adv 2 [] (popK (popK K22_1))
def K22_3 := adv 4 [false] K22_2
def K22_4 := adv 14 [] (popK (popK K22_3))
def K22_5 := adv 5 [] (popK K22_4)
def K22_6 := adv 5 [] K22_5
def K22_7 := adv 13 [true] K22_6
def K22_8 := adv 1 [] (popK K22_7)
def K22_9 := adv 4 [true] K22_8
def K22_10 := adv 5 [] (popK (popK K22_9))
def K22_11 := adv 5 [false] K22_8
def K22_12 := adv 7 [false] K22_6
def K22_13 := adv 5 [true] K22_2
set_option maxRecDepth 20000 in
set_option maxHeartbeats 20000000 in
theorem reach_any (c : Cht) (w : World) (hc : chtQ w c) : Ret Try.prog 22 #[.agg #[.slice c.gStates_a c.gStates_n c.gStates_c, .slice c.gInputs_a c.gInputs_n c.gInputs_c, .int .i64 c.gStart, .slice c.gMoves_a c.gMoves_n c.gMoves_c]] w (fun v w' => ∃ a cap, v = .slice a (reachL c).length cap ∧ Sep w [rowOf encI a cap 3 1 (reachL c)] w') := by
 have S0 := Sep.refl w
 refine Ret.named fun R hR => ?_
 refine Ret.of_J (N := 30) [(0, .agg #[.slice c.gStates_a c.gStates_n c.gStates_c, .slice c.gInputs_a c.gInputs_n c.gInputs_c, .int .i64 c.gStart, .slice c.gMoves_a c.gMoves_n c.gMoves_c])] Try.func22 rfl rfl (Nat.le_of_ble_eq_true (by kernel_rfl)) (by kernel_rfl) ?_
 obtain ⟨q1, q2, q3, q4, q5, q6, q7, q8, q9, q10, _⟩ := id hc
 have ql1 := q2.len_eq
 have ql2 := q5.len_eq
 have ql3 := q9.len_eq
 refine J.run 2 K22_0 [(0, .agg #[.slice c.gStates_a c.gStates_n c.gStates_c, .slice c.gInputs_a c.gInputs_n c.gInputs_c, .int .i64 c.gStart, .slice c.gMoves_a c.gMoves_n c.gMoves_c])] w (by kernel_rfl) ?_
 refine J.new S0 1 [.slice c.gStates_a c.gStates_n c.gStates_c, .slice c.gInputs_a c.gInputs_n c.gInputs_c, .int .i64 c.gStart, .slice c.gMoves_a c.gMoves_n c.gMoves_c] 25 (by kernel_rfl) ?_
 intro b1 w1 S1
 refine J.run 5 K22_1 [(1, .pointer (some ⟨b1, 0, none⟩))] w1 (by kernel_rfl) ?_
 refine J.ok (OK.ldBox S1 0 7 25 0 (.agg #[.slice c.gStates_a c.gStates_n c.gStates_c, .slice c.gInputs_a c.gInputs_n c.gInputs_c, .int .i64 c.gStart, .slice c.gMoves_a c.gMoves_n c.gMoves_c]) (by kernel_rfl) rfl (by kernel_rfl)) ?_
 refine J.callF 8 19 #[.agg #[.slice c.gStates_a c.gStates_n c.gStates_c, .slice c.gInputs_a c.gInputs_n c.gInputs_c, .int .i64 c.gStart, .slice c.gMoves_a c.gMoves_n c.gMoves_c]] hb19 (by kernel_rfl) (valid_any c _ (chtQ_sep hc S1)) ?_
 rintro _ w2 ⟨rfl, T1⟩
 have S2 : Sep w [box b1 [.slice c.gStates_a c.gStates_n c.gStates_c, .slice c.gInputs_a c.gInputs_n c.gInputs_c, .int .i64 c.gStart, .slice c.gMoves_a c.gMoves_n c.gMoves_c] 25] w2 := S1.trans T1
 clear T1 S1
 refine J.run 2 K22_2 [(9, .bool (!(validC c))), (1, .pointer (some ⟨b1, 0, none⟩))] w2 (by kernel_rfl) ?_
 rcases Bool.eq_false_or_eq_true (validC c) with fk1 | fk1
 rotate_left
 ·skip
  refine J.head (.bool true) (congrArg Value.bool (by rw [fk1]; rfl)) ?_
  refine J.run 5 K22_13 [(2, .slice none 0 0)] w2 (by kernel_rfl) ?_
  refine J.ret Try.f22 [.slice none 0 0] Try.func22 ⟨by kernel_rfl, trivial⟩ ?_
  refine hR _ _ ?_
  have e_ : reachL c = [] := by unfold reachL; rw [fk1]; rfl
  rw [e_]; exact ⟨none, 0, rfl, S2.nil.nilRow 3 1⟩
 refine J.head (.bool false) (congrArg Value.bool (by rw [fk1]; rfl)) ?_
 have hv := fk1
 have hvf := validC_facts hv
 refine J.run 4 K22_3 [(1, .pointer (some ⟨b1, 0, none⟩))] w2 (by kernel_rfl) ?_
 refine J.ok (OK.ldBox S2 0 11 25 0 (.agg #[.slice c.gStates_a c.gStates_n c.gStates_c, .slice c.gInputs_a c.gInputs_n c.gInputs_c, .int .i64 c.gStart, .slice c.gMoves_a c.gMoves_n c.gMoves_c]) (by kernel_rfl) rfl (by kernel_rfl)) ?_
 refine J.callF 12 42 #[.agg #[.slice c.gStates_a c.gStates_n c.gStates_c, .slice c.gInputs_a c.gInputs_n c.gInputs_c, .int .i64 c.gStart, .slice c.gMoves_a c.gMoves_n c.gMoves_c]] hb42 (by kernel_rfl) (search_any c _ (chtQ_sep hc S2) hv) ?_
 rintro _ w3 ⟨mb1, mb2, F1, F2, hsr, rfl, T2⟩
 have S3 : Sep w [mapC (Value.int .i64) Value.bool mb1 F1, mapC (Value.int .i64) Value.bool mb2 F2, box b1 [.slice c.gStates_a c.gStates_n c.gStates_c, .slice c.gInputs_a c.gInputs_n c.gInputs_c, .int .i64 c.gStart, .slice c.gMoves_a c.gMoves_n c.gMoves_c] 25] w3 := S2.trans T2
 clear T2
 refine J.run 14 K22_4 [(15, .pointer (some ⟨b1, 0, none⟩)), (5, .slice none 0 0), (3, .map (some mb1))] w3 (by kernel_rfl) ?_
 refine J.ok (OK.ldBox S3 2 16 22 0 (.slice c.gStates_a c.gStates_n c.gStates_c) (by kernel_rfl) rfl (by kernel_rfl)) ?_
 refine J.run 5 K22_5 [(18, .int .i64 0), (17, .int .i64 (c.gStates_n : Int)), (5, .slice none 0 0), (3, .map (some mb1))] w3 (by kernel_rfl) ?_
 have S4 : Sep w [rowOf encI none 0 3 1 ([]), mapC (Value.int .i64) Value.bool mb1 F1, mapC (Value.int .i64) Value.bool mb2 F2, box b1 [.slice c.gStates_a c.gStates_n c.gStates_c, .slice c.gInputs_a c.gInputs_n c.gInputs_c, .int .i64 c.gStart, .slice c.gMoves_a c.gMoves_n c.gMoves_c] 25] w3 := S3.nilRow 3 1
 have L22_1 : ∀ (mm_ : Nat) (ra : Option Addr) (rc : Nat) (ls : List Int) (i : Int) (w4 : World), (0 ≤ i) → (i ≤ (c.gStates_n : Int)) → (ls = selL (RS c) (i).toNat) → Sep w [rowOf encI ra rc 3 1 ls, mapC (Value.int .i64) Value.bool mb1 F1, mapC (Value.int .i64) Value.bool mb2 F2, box b1 [.slice c.gStates_a c.gStates_n c.gStates_c, .slice c.gInputs_a c.gInputs_n c.gInputs_c, .int .i64 c.gStart, .slice c.gMoves_a c.gMoves_n c.gMoves_c] 25] w4 → ((c.gStates_n : Int) - i).toNat = mm_ → J Try.prog 22 30 R K22_5 [(18, .int .i64 i), (17, .int .i64 (c.gStates_n : Int)), (5, .slice ra ls.length rc), (3, .map (some mb1))] w4 := by
  intro mm1
  induction mm1 using Nat.strongRecOn with
  | _ mm1 ih1 =>
  intro ra rc ls i w4 h0 h1 hls S5 hm1
  have hsl := selL_len (RS c) i.toNat; rw [← hls] at hsl
  refine J.run 5 K22_6 [(19, .bool (decide (i < (c.gStates_n : Int)))), (18, .int .i64 i), (17, .int .i64 (c.gStates_n : Int)), (5, .slice ra ls.length rc), (3, .map (some mb1))] w4 (by kernel_rfl) ?_
  by_cases fk2 : i < (c.gStates_n : Int)
  rotate_left
  ·skip
   refine J.head (.bool false) (congrArg Value.bool (decide_eq_false fk2)) ?_
   refine J.run 7 K22_12 [(2, .slice ra ls.length rc)] w4 (by kernel_rfl) ?_
   refine J.ret Try.f22 [.slice ra ls.length rc] Try.func22 ⟨by kernel_rfl, trivial⟩ ?_
   refine hR _ _ ?_
   have e_ : reachL c = ls := by unfold reachL; rw [if_pos fk1, hls, show i.toNat = c.gStates_n by omega]
   rw [e_]; exact ⟨_, _, rfl, S5.pick 0 rfl⟩
  refine J.head (.bool true) (congrArg Value.bool (decide_eq_true fk2)) ?_
  refine J.run 13 K22_7 [(22, .int .i64 i), (21, .map (some mb1)), (6, .int .i64 i), (18, .int .i64 i), (17, .int .i64 (c.gStates_n : Int)), (5, .slice ra ls.length rc), (3, .map (some mb1))] w4 (by kernel_rfl) ?_
  refine J.ok (OK.lookup S5 1 23 68 3 4 (.bool false) i false rfl (by kernel_rfl) (by kernel_rfl) key68 (.bool ((F1 i).getD false)) (lk_bool _)) ?_
  refine J.run 1 K22_8 [(23, .bool ((F1 i).getD false)), (6, .int .i64 i), (18, .int .i64 i), (17, .int .i64 (c.gStates_n : Int)), (5, .slice ra ls.length rc), (3, .map (some mb1))] w4 (by kernel_rfl) ?_
  rcases Bool.eq_false_or_eq_true ((F1 i).getD false) with fk3 | fk3
  rotate_left
  ·skip
   refine J.head (.bool false) (congrArg Value.bool fk3) ?_
   refine J.run 5 K22_11 [(28, .int .i64 (IntKind.wrap .i64 (i + 1))), (17, .int .i64 (c.gStates_n : Int)), (5, .slice ra ls.length rc), (3, .map (some mb1))] w4 (by kernel_rfl) ?_
   refine J.head (.int .i64 (i + 1)) (congrArg (Value.int .i64) (IntWalk.i64_in _ (by omega))) ?_
   refine J.run 3 K22_5 [(18, .int .i64 (i + 1)), (17, .int .i64 (c.gStates_n : Int)), (5, .slice ra ls.length rc), (3, .map (some mb1))] w4 (by kernel_rfl) ?_
   refine J.run 0 K22_5 [(18, .int .i64 (i + 1)), (17, .int .i64 (c.gStates_n : Int)), (5, .slice ra ls.length rc), (3, .map (some mb1))] w4 (by kernel_rfl) ?_
   exact ih1 _ (show ((c.gStates_n : Int) - (i + 1)).toNat < mm1 from by omega) ra rc ls (i + 1) w4 (by omega) (by omega) (selL_no hls h0 (fun h_ => by rw [(hsr.1 _).2 h_] at fk3; cases fk3)) S5 rfl
  refine J.head (.bool true) (congrArg Value.bool fk3) ?_
  refine J.run 4 K22_9 [(25, .int .i64 i), (24, .slice ra ls.length rc), (18, .int .i64 i), (17, .int .i64 (c.gStates_n : Int)), (3, .map (some mb1))] w4 (by kernel_rfl) ?_
  refine J.newSlice S5 26 1 [.int .i64 i] 3 (by kernel_rfl) ?_
  intro b2 w5 S6
  refine J.append encI S6 1 ls i 27 26 (.int .i64 0) 8 ⟨b2, 0, none⟩ 1 rfl (by kernel_rfl) (by kernel_rfl) (by kernel_rfl) (by kernel_rfl) (by decide) (box_cells (S6.nth 0 rfl)) (by kernel_rfl) (by kernel_rfl) (⟨by omega, by omega⟩) ?_
  intro ra1 rc1 w6 S7
  replace S7 : Sep w [box b2 [.int .i64 i] 3, rowOf encI ra1 rc1 3 1 (ls ++ [i]), mapC (Value.int .i64) Value.bool mb1 F1, mapC (Value.int .i64) Value.bool mb2 F2, box b1 [.slice c.gStates_a c.gStates_n c.gStates_c, .slice c.gInputs_a c.gInputs_n c.gInputs_c, .int .i64 c.gStart, .slice c.gMoves_a c.gMoves_n c.gMoves_c] 25] w6 := S7
  have S8 : Sep w [rowOf encI ra1 rc1 3 1 (ls ++ [i]), mapC (Value.int .i64) Value.bool mb1 F1, mapC (Value.int .i64) Value.bool mb2 F2, box b1 [.slice c.gStates_a c.gStates_n c.gStates_c, .slice c.gInputs_a c.gInputs_n c.gInputs_c, .int .i64 c.gStart, .slice c.gMoves_a c.gMoves_n c.gMoves_c] 25] w6 := S7.erase 0
  clear S7
  refine J.run 5 K22_10 [(28, .int .i64 (IntKind.wrap .i64 (i + 1))), (5, .slice ra1 ((ls ++ [i]).length) rc1), (17, .int .i64 (c.gStates_n : Int)), (3, .map (some mb1))] w6 (by kernel_rfl) ?_
  refine J.head (.int .i64 (i + 1)) (congrArg (Value.int .i64) (IntWalk.i64_in _ (by omega))) ?_
  refine J.run 3 K22_5 [(18, .int .i64 (i + 1)), (5, .slice ra1 ((ls ++ [i]).length) rc1), (17, .int .i64 (c.gStates_n : Int)), (3, .map (some mb1))] w6 (by kernel_rfl) ?_
  refine J.run 0 K22_5 [(18, .int .i64 (i + 1)), (17, .int .i64 (c.gStates_n : Int)), (5, .slice ra1 ((ls ++ [i]).length) rc1), (3, .map (some mb1))] w6 (by kernel_rfl) ?_
  exact ih1 _ (show ((c.gStates_n : Int) - (i + 1)).toNat < mm1 from by omega) ra1 rc1 (ls ++ [i]) (i + 1) w6 (by omega) (by omega) (selL_yes hls h0 ((hsr.1 _).1 fk3)) S8 rfl
 exact L22_1 _ none 0 ([]) 0 w3 (by omega) (by omega) (selL_zero _) S4 rfl

theorem hb23 : HasBody Try.prog 23 := fun _ _ => by kernel_rfl
def K23_0 := adv 2 [] (bodyOf Try.f23)
def K23_1 := adv 5 [] (popK K23_0)
def K23_2 := adv 2 [] (popK (popK K23_1))
def K23_3 := adv 4 [false] K23_2
def K23_4 := adv 14 [] (popK (popK K23_3))
def K23_5 := adv 5 [] (popK K23_4)
def K23_6 := adv 5 [] K23_5
def K23_7 := adv 13 [true] K23_6
def K23_8 := adv 2 [] (popK K23_7)
def K23_9 := adv 5 [false] K23_8
def K23_10 := adv 4 [true] K23_8
def K23_11 := adv 5 [] (popK (popK K23_10))
def K23_12 := adv 7 [false] K23_6
def K23_13 := adv 5 [true] K23_2
set_option maxRecDepth 20000 in
set_option maxHeartbeats 20000000 in
theorem dead_any (c : Cht) (w : World) (hc : chtQ w c) : Ret Try.prog 23 #[.agg #[.slice c.gStates_a c.gStates_n c.gStates_c, .slice c.gInputs_a c.gInputs_n c.gInputs_c, .int .i64 c.gStart, .slice c.gMoves_a c.gMoves_n c.gMoves_c]] w (fun v w' => ∃ a cap, v = .slice a (deadL c).length cap ∧ Sep w [rowOf encI a cap 3 1 (deadL c)] w') := by
 have S0 := Sep.refl w
 refine Ret.named fun R hR => ?_
 refine Ret.of_J (N := 31) [(0, .agg #[.slice c.gStates_a c.gStates_n c.gStates_c, .slice c.gInputs_a c.gInputs_n c.gInputs_c, .int .i64 c.gStart, .slice c.gMoves_a c.gMoves_n c.gMoves_c])] Try.func23 rfl rfl (Nat.le_of_ble_eq_true (by kernel_rfl)) (by kernel_rfl) ?_
 obtain ⟨q1, q2, q3, q4, q5, q6, q7, q8, q9, q10, _⟩ := id hc
 have ql1 := q2.len_eq
 have ql2 := q5.len_eq
 have ql3 := q9.len_eq
 refine J.run 2 K23_0 [(0, .agg #[.slice c.gStates_a c.gStates_n c.gStates_c, .slice c.gInputs_a c.gInputs_n c.gInputs_c, .int .i64 c.gStart, .slice c.gMoves_a c.gMoves_n c.gMoves_c])] w (by kernel_rfl) ?_
 refine J.new S0 1 [.slice c.gStates_a c.gStates_n c.gStates_c, .slice c.gInputs_a c.gInputs_n c.gInputs_c, .int .i64 c.gStart, .slice c.gMoves_a c.gMoves_n c.gMoves_c] 25 (by kernel_rfl) ?_
 intro b1 w1 S1
 refine J.run 5 K23_1 [(1, .pointer (some ⟨b1, 0, none⟩))] w1 (by kernel_rfl) ?_
 refine J.ok (OK.ldBox S1 0 7 25 0 (.agg #[.slice c.gStates_a c.gStates_n c.gStates_c, .slice c.gInputs_a c.gInputs_n c.gInputs_c, .int .i64 c.gStart, .slice c.gMoves_a c.gMoves_n c.gMoves_c]) (by kernel_rfl) rfl (by kernel_rfl)) ?_
 refine J.callF 8 19 #[.agg #[.slice c.gStates_a c.gStates_n c.gStates_c, .slice c.gInputs_a c.gInputs_n c.gInputs_c, .int .i64 c.gStart, .slice c.gMoves_a c.gMoves_n c.gMoves_c]] hb19 (by kernel_rfl) (valid_any c _ (chtQ_sep hc S1)) ?_
 rintro _ w2 ⟨rfl, T1⟩
 have S2 : Sep w [box b1 [.slice c.gStates_a c.gStates_n c.gStates_c, .slice c.gInputs_a c.gInputs_n c.gInputs_c, .int .i64 c.gStart, .slice c.gMoves_a c.gMoves_n c.gMoves_c] 25] w2 := S1.trans T1
 clear T1 S1
 refine J.run 2 K23_2 [(9, .bool (!(validC c))), (1, .pointer (some ⟨b1, 0, none⟩))] w2 (by kernel_rfl) ?_
 rcases Bool.eq_false_or_eq_true (validC c) with fk1 | fk1
 rotate_left
 ·skip
  refine J.head (.bool true) (congrArg Value.bool (by rw [fk1]; rfl)) ?_
  refine J.run 5 K23_13 [(2, .slice none 0 0)] w2 (by kernel_rfl) ?_
  refine J.ret Try.f23 [.slice none 0 0] Try.func23 ⟨by kernel_rfl, trivial⟩ ?_
  refine hR _ _ ?_
  have e_ : deadL c = [] := by unfold deadL; rw [fk1]; rfl
  rw [e_]; exact ⟨none, 0, rfl, S2.nil.nilRow 3 1⟩
 refine J.head (.bool false) (congrArg Value.bool (by rw [fk1]; rfl)) ?_
 have hv := fk1
 have hvf := validC_facts hv
 refine J.run 4 K23_3 [(1, .pointer (some ⟨b1, 0, none⟩))] w2 (by kernel_rfl) ?_
 refine J.ok (OK.ldBox S2 0 11 25 0 (.agg #[.slice c.gStates_a c.gStates_n c.gStates_c, .slice c.gInputs_a c.gInputs_n c.gInputs_c, .int .i64 c.gStart, .slice c.gMoves_a c.gMoves_n c.gMoves_c]) (by kernel_rfl) rfl (by kernel_rfl)) ?_
 refine J.callF 12 42 #[.agg #[.slice c.gStates_a c.gStates_n c.gStates_c, .slice c.gInputs_a c.gInputs_n c.gInputs_c, .int .i64 c.gStart, .slice c.gMoves_a c.gMoves_n c.gMoves_c]] hb42 (by kernel_rfl) (search_any c _ (chtQ_sep hc S2) hv) ?_
 rintro _ w3 ⟨mb1, mb2, F1, F2, hsr, rfl, T2⟩
 have S3 : Sep w [mapC (Value.int .i64) Value.bool mb1 F1, mapC (Value.int .i64) Value.bool mb2 F2, box b1 [.slice c.gStates_a c.gStates_n c.gStates_c, .slice c.gInputs_a c.gInputs_n c.gInputs_c, .int .i64 c.gStart, .slice c.gMoves_a c.gMoves_n c.gMoves_c] 25] w3 := S2.trans T2
 clear T2
 refine J.run 14 K23_4 [(15, .pointer (some ⟨b1, 3, none⟩)), (5, .slice none 0 0), (4, .map (some mb2))] w3 (by kernel_rfl) ?_
 refine J.ok (OK.ldBox S3 2 16 23 3 (.slice c.gMoves_a c.gMoves_n c.gMoves_c) (by kernel_rfl) rfl (by kernel_rfl)) ?_
 refine J.run 5 K23_5 [(18, .int .i64 0), (17, .int .i64 (c.gMoves_n : Int)), (5, .slice none 0 0), (4, .map (some mb2))] w3 (by kernel_rfl) ?_
 have S4 : Sep w [rowOf encI none 0 3 1 ([]), mapC (Value.int .i64) Value.bool mb1 F1, mapC (Value.int .i64) Value.bool mb2 F2, box b1 [.slice c.gStates_a c.gStates_n c.gStates_c, .slice c.gInputs_a c.gInputs_n c.gInputs_c, .int .i64 c.gStart, .slice c.gMoves_a c.gMoves_n c.gMoves_c] 25] w3 := S3.nilRow 3 1
 have L23_1 : ∀ (mm_ : Nat) (ra : Option Addr) (rc : Nat) (ls : List Int) (i : Int) (w4 : World), (0 ≤ i) → (i ≤ (c.gMoves_n : Int)) → (ls = selL (fun i => ¬ RM c i) (i).toNat) → Sep w [rowOf encI ra rc 3 1 ls, mapC (Value.int .i64) Value.bool mb1 F1, mapC (Value.int .i64) Value.bool mb2 F2, box b1 [.slice c.gStates_a c.gStates_n c.gStates_c, .slice c.gInputs_a c.gInputs_n c.gInputs_c, .int .i64 c.gStart, .slice c.gMoves_a c.gMoves_n c.gMoves_c] 25] w4 → ((c.gMoves_n : Int) - i).toNat = mm_ → J Try.prog 23 31 R K23_5 [(18, .int .i64 i), (17, .int .i64 (c.gMoves_n : Int)), (5, .slice ra ls.length rc), (4, .map (some mb2))] w4 := by
  intro mm1
  induction mm1 using Nat.strongRecOn with
  | _ mm1 ih1 =>
  intro ra rc ls i w4 h0 h1 hls S5 hm1
  have hsl := selL_len (fun i => ¬ RM c i) i.toNat; rw [← hls] at hsl
  refine J.run 5 K23_6 [(19, .bool (decide (i < (c.gMoves_n : Int)))), (18, .int .i64 i), (17, .int .i64 (c.gMoves_n : Int)), (5, .slice ra ls.length rc), (4, .map (some mb2))] w4 (by kernel_rfl) ?_
  by_cases fk2 : i < (c.gMoves_n : Int)
  rotate_left
  ·skip
   refine J.head (.bool false) (congrArg Value.bool (decide_eq_false fk2)) ?_
   refine J.run 7 K23_12 [(2, .slice ra ls.length rc)] w4 (by kernel_rfl) ?_
   refine J.ret Try.f23 [.slice ra ls.length rc] Try.func23 ⟨by kernel_rfl, trivial⟩ ?_
   refine hR _ _ ?_
   have e_ : deadL c = ls := by unfold deadL; rw [if_pos fk1, hls, show i.toNat = c.gMoves_n by omega]
   rw [e_]; exact ⟨_, _, rfl, S5.pick 0 rfl⟩
  refine J.head (.bool true) (congrArg Value.bool (decide_eq_true fk2)) ?_
  refine J.run 13 K23_7 [(22, .int .i64 i), (21, .map (some mb2)), (6, .int .i64 i), (18, .int .i64 i), (17, .int .i64 (c.gMoves_n : Int)), (5, .slice ra ls.length rc), (4, .map (some mb2))] w4 (by kernel_rfl) ?_
  refine J.ok (OK.lookup S5 2 23 68 3 4 (.bool false) i false rfl (by kernel_rfl) (by kernel_rfl) key68 (.bool ((F2 i).getD false)) (lk_bool _)) ?_
  refine J.run 2 K23_8 [(24, .bool (!((F2 i).getD false))), (6, .int .i64 i), (18, .int .i64 i), (17, .int .i64 (c.gMoves_n : Int)), (5, .slice ra ls.length rc), (4, .map (some mb2))] w4 (by kernel_rfl) ?_
  rcases Bool.eq_false_or_eq_true ((F2 i).getD false) with fk3 | fk3
  ·skip
   refine J.head (.bool false) (congrArg Value.bool (by rw [fk3]; rfl)) ?_
   refine J.run 5 K23_9 [(29, .int .i64 (IntKind.wrap .i64 (i + 1))), (17, .int .i64 (c.gMoves_n : Int)), (5, .slice ra ls.length rc), (4, .map (some mb2))] w4 (by kernel_rfl) ?_
   refine J.head (.int .i64 (i + 1)) (congrArg (Value.int .i64) (IntWalk.i64_in _ (by omega))) ?_
   refine J.run 3 K23_5 [(18, .int .i64 (i + 1)), (17, .int .i64 (c.gMoves_n : Int)), (5, .slice ra ls.length rc), (4, .map (some mb2))] w4 (by kernel_rfl) ?_
   refine J.run 0 K23_5 [(18, .int .i64 (i + 1)), (17, .int .i64 (c.gMoves_n : Int)), (5, .slice ra ls.length rc), (4, .map (some mb2))] w4 (by kernel_rfl) ?_
   exact ih1 _ (show ((c.gMoves_n : Int) - (i + 1)).toNat < mm1 from by omega) ra rc ls (i + 1) w4 (by omega) (by omega) (selL_no hls h0 (fun h_ => h_ ((hsr.2 _).1 fk3))) S5 rfl
  refine J.head (.bool true) (congrArg Value.bool (by rw [fk3]; rfl)) ?_
  refine J.run 4 K23_10 [(26, .int .i64 i), (25, .slice ra ls.length rc), (18, .int .i64 i), (17, .int .i64 (c.gMoves_n : Int)), (4, .map (some mb2))] w4 (by kernel_rfl) ?_
  refine J.newSlice S5 27 1 [.int .i64 i] 3 (by kernel_rfl) ?_
  intro b2 w5 S6
  refine J.append encI S6 1 ls i 28 26 (.int .i64 0) 8 ⟨b2, 0, none⟩ 1 rfl (by kernel_rfl) (by kernel_rfl) (by kernel_rfl) (by kernel_rfl) (by decide) (box_cells (S6.nth 0 rfl)) (by kernel_rfl) (by kernel_rfl) (⟨by omega, by omega⟩) ?_
  intro ra1 rc1 w6 S7
  replace S7 : Sep w [box b2 [.int .i64 i] 3, rowOf encI ra1 rc1 3 1 (ls ++ [i]), mapC (Value.int .i64) Value.bool mb1 F1, mapC (Value.int .i64) Value.bool mb2 F2, box b1 [.slice c.gStates_a c.gStates_n c.gStates_c, .slice c.gInputs_a c.gInputs_n c.gInputs_c, .int .i64 c.gStart, .slice c.gMoves_a c.gMoves_n c.gMoves_c] 25] w6 := S7
  have S8 : Sep w [rowOf encI ra1 rc1 3 1 (ls ++ [i]), mapC (Value.int .i64) Value.bool mb1 F1, mapC (Value.int .i64) Value.bool mb2 F2, box b1 [.slice c.gStates_a c.gStates_n c.gStates_c, .slice c.gInputs_a c.gInputs_n c.gInputs_c, .int .i64 c.gStart, .slice c.gMoves_a c.gMoves_n c.gMoves_c] 25] w6 := S7.erase 0
  clear S7
  refine J.run 5 K23_11 [(29, .int .i64 (IntKind.wrap .i64 (i + 1))), (5, .slice ra1 ((ls ++ [i]).length) rc1), (17, .int .i64 (c.gMoves_n : Int)), (4, .map (some mb2))] w6 (by kernel_rfl) ?_
  refine J.head (.int .i64 (i + 1)) (congrArg (Value.int .i64) (IntWalk.i64_in _ (by omega))) ?_
  refine J.run 3 K23_5 [(18, .int .i64 (i + 1)), (5, .slice ra1 ((ls ++ [i]).length) rc1), (17, .int .i64 (c.gMoves_n : Int)), (4, .map (some mb2))] w6 (by kernel_rfl) ?_
  refine J.run 0 K23_5 [(18, .int .i64 (i + 1)), (17, .int .i64 (c.gMoves_n : Int)), (5, .slice ra1 ((ls ++ [i]).length) rc1), (4, .map (some mb2))] w6 (by kernel_rfl) ?_
  exact ih1 _ (show ((c.gMoves_n : Int) - (i + 1)).toNat < mm1 from by omega) ra1 rc1 (ls ++ [i]) (i + 1) w6 (by omega) (by omega) (selL_yes hls h0 (fun h_ => by rw [(hsr.2 _).2 h_] at fk3; cases fk3)) S8 rfl
 exact L23_1 _ none 0 ([]) 0 w3 (by omega) (by omega) (selL_zero _) S4 rfl

end
end Go.Proofs.Ytbbpgidmadlgmaa

