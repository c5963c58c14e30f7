/- Walks of functions of this seat, printed by a program over the engine. Conditions: as each theorem says. -/
import Derived.Test.YtbbpgidmadlgmaaZdX6
namespace Go.Proofs.Ytbbpgidmadlgmaa
noncomputable section
open Go.Eng Go.RowKit
set_option linter.unusedSimpArgs false
set_option linter.unusedVariables false
theorem hb44 : HasBody Try.prog 44 := fun _ _ => by kernel_rfl
def K44_0 := adv 13 [] (bodyOf Try.f44)
def K44_1 := adv 5 [] K44_0
def K44_2 := adv 14 [true] K44_1
def K44_3 := adv 2 [] (popK (popK K44_2))
def K44_4 := adv 6 [true] K44_3
def K44_5 := adv 5 [false] K44_3
def K44_6 := adv 6 [false] K44_1
set_option maxRecDepth 20000 in
set_option maxHeartbeats 20000000 in
theorem indexI (la : Option Addr) (len cap : Nat) (l : List Int) (x : Int) (w : World) (hI : Ints w la len l) (hlen : len ≤ 9223372036854775807) : Ret Try.prog 44 #[.slice la len cap, .int .i64 x] w (fun v w' => v = .int .i64 (indexF (fun y => decide (x = y)) l) ∧ Sep w [] w') := by
 have S0 := Sep.refl w
 refine Ret.named fun R hR => ?_
 refine Ret.of_J (N := 19) [(0, .slice la len cap), (1, .int .i64 x)] Try.func44 rfl rfl (Nat.le_of_ble_eq_true (by kernel_rfl)) (by kernel_rfl) ?_
 have hll := hI.len_eq
 refine J.run 13 K44_0 [(8, .int .i64 0), (7, .int .i64 (len : Int)), (0, .slice la len cap), (1, .int .i64 x)] w (by kernel_rfl) ?_
 have L44_1 : ∀ (mm_ : Nat) (i : Int) (w1 : World), (0 ≤ i) → (i ≤ (len : Int)) → (∀ j, j < (i).toNat → (fun y => decide (x = y)) (l.getD j 0) = false) → Sep w [] w1 → ((len : Int) - i).toNat = mm_ → J Try.prog 44 19 R K44_0 [(8, .int .i64 i), (7, .int .i64 (len : Int)), (0, .slice la len cap), (1, .int .i64 x)] w1 := by
  intro mm1
  induction mm1 using Nat.strongRecOn with
  | _ mm1 ih1 =>
  intro i w1 h0 h1 hq S1 hm1
  refine J.run 5 K44_1 [(9, .bool (decide (i < (len : Int)))), (8, .int .i64 i), (7, .int .i64 (len : Int)), (0, .slice la len cap), (1, .int .i64 x)] w1 (by kernel_rfl) ?_
  by_cases fk1 : i < (len : Int)
  rotate_left
  ·skip
   refine J.head (.bool false) (congrArg Value.bool (decide_eq_false fk1)) ?_
   refine J.run 6 K44_6 [(4, .int .i64 (-1))] w1 (by kernel_rfl) ?_
   refine J.ret Try.f44 [.int .i64 (-1)] Try.func44 ⟨by kernel_rfl, trivial⟩ ?_
   refine hR _ _ ?_
   exact ⟨by rw [tup_one, indexF_none 0 fun j hj => hq j (by have := hI.len_eq; omega)], S1.nil⟩
  refine J.head (.bool true) (congrArg Value.bool (decide_eq_true fk1)) ?_
  refine J.run 14 K44_2 [(13, .int .i64 i), (12, .slice la len cap), (11, .int .i64 x), (5, .int .i64 i), (8, .int .i64 i), (7, .int .i64 (len : Int)), (0, .slice la len cap), (1, .int .i64 x)] w1 (by kernel_rfl) ?_
  obtain ⟨p1, hp1, hc1⟩ := hI.at 0 (i).toNat (by omega)
  refine J.ok (OK.index 14 26 1 la p1 len (i).toNat i (p1.add (i).toNat) (by kernel_rfl) (by kernel_rfl) hp1 (by omega) (by omega) (by rw [Nat.mul_one])) ?_
  refine J.ok (OK.ldCell 15 3 (p1.add (i).toNat) (.int .i64 (l.getD (i).toNat 0)) (by kernel_rfl) (by kernel_rfl) (S1.cell hc1)) ?_
  refine J.run 2 K44_3 [(16, .bool (x == (l.getD (i).toNat 0))), (5, .int .i64 i), (8, .int .i64 i), (7, .int .i64 (len : Int)), (0, .slice la len cap), (1, .int .i64 x)] w1 (by kernel_rfl) ?_
  by_cases fk2 : x = (l.getD (i).toNat 0)
  ·skip
   refine J.head (.bool true) (congrArg Value.bool (beq_iff_eq.2 fk2)) ?_
   refine J.run 6 K44_4 [(4, .int .i64 i)] w1 (by kernel_rfl) ?_
   refine J.ret Try.f44 [.int .i64 i] Try.func44 ⟨by kernel_rfl, trivial⟩ ?_
   refine hR _ _ ?_
   exact ⟨by rw [tup_one, indexF_some (q := fun y => decide (x = y)) 0 i.toNat (by have := hI.len_eq; omega) hq (decide_eq_true (by omega)), Int.toNat_of_nonneg h0], S1.nil⟩
  refine J.head (.bool false) (congrArg Value.bool (beq_eq_false_iff_ne.2 fk2)) ?_
  refine J.run 5 K44_5 [(18, .int .i64 (IntKind.wrap .i64 (i + 1))), (7, .int .i64 (len : Int)), (0, .slice la len cap), (1, .int .i64 x)] w1 (by kernel_rfl) ?_
  refine J.head (.int .i64 (i + 1)) (congrArg (Value.int .i64) (IntWalk.i64_in _ (by omega))) ?_
  refine J.run 3 K44_0 [(8, .int .i64 (i + 1)), (7, .int .i64 (len : Int)), (0, .slice la len cap), (1, .int .i64 x)] w1 (by kernel_rfl) ?_
  refine J.run 0 K44_0 [(8, .int .i64 (i + 1)), (7, .int .i64 (len : Int)), (0, .slice la len cap), (1, .int .i64 x)] w1 (by kernel_rfl) ?_
  exact ih1 _ (show ((len : Int) - (i + 1)).toNat < mm1 from by omega) (i + 1) w1 (by omega) (by omega) (by intro j hj; by_cases e : j = i.toNat; (subst e; exact decide_eq_false (by omega)); exact hq j (by omega)) S1 rfl
 exact L44_1 _ 0 w (by omega) (by omega) (by intro j hj; simp at hj) S0 rfl

theorem hb27 : HasBody Try.prog 27 := fun _ _ => by kernel_rfl
def K27_0 := adv 8 [] (bodyOf Try.f27)
def K27_1 := adv 3 [] (popK K27_0)
set_option maxRecDepth 20000 in
set_option maxHeartbeats 20000000 in
theorem containsI (la : Option Addr) (len cap : Nat) (l : List Int) (x : Int) (w : World) (hI : Ints w la len l) (hlen : len ≤ 9223372036854775807) : Ret Try.prog 27 #[.slice la len cap, .int .i64 x] w (fun v w' => v = .bool (l.any fun y => decide (x = y)) ∧ Sep w [] w') := by
 have S0 := Sep.refl w
 refine Ret.named fun R hR => ?_
 refine Ret.of_J (N := 9) [(0, .slice la len cap), (1, .int .i64 x)] Try.func27 rfl rfl (Nat.le_of_ble_eq_true (by kernel_rfl)) (by kernel_rfl) ?_
 refine J.run 8 K27_0 [(6, .int .i64 x), (5, .slice la len cap)] w (by kernel_rfl) ?_
 refine J.callF 7 44 #[.slice la len cap, .int .i64 x] hb44 (by kernel_rfl) (indexI la len cap l x _ (hI.sep S0) (by first | omega | (simp; omega))) ?_
 rintro _ w1 ⟨rfl, T1⟩
 have S1 : Sep w [] w1 := S0.trans T1
 clear T1
 refine J.run 3 K27_1 [(4, .bool (decide ((indexF (fun y => decide (x = y)) l) ≥ 0)))] w1 (by kernel_rfl) ?_
 refine J.ret Try.f27 [.bool (decide ((indexF (fun y => decide (x = y)) l) ≥ 0))] Try.func27 ⟨by kernel_rfl, trivial⟩ ?_
 refine hR _ _ ?_
 exact ⟨congrArg Value.bool indexF_nonneg, S1.nil⟩

theorem any_mem {l : List Int} {x : Int} : (l.any fun y => decide (x = y)) = true ↔ x ∈ l := by simp
theorem hb51 : HasBody Try.prog 51 := fun _ _ => by kernel_rfl
def K51_0 := adv 2 [] (bodyOf Try.f51)
def K51_1 := adv 3 [] (popK (popK K51_0))
def K51_2 := adv 5 [] (popK K51_1)
def K51_3 := adv 1 [] (popK K51_2)
def K51_4 := adv 4 [] (popK K51_3)
def K51_5 := adv 5 [] K51_4
def K51_6 := adv 11 [true] K51_5
def K51_7 := adv 4 [] (popK K51_6)
def K51_8 := adv 3 [] (popK K51_7)
def K51_9 := adv 7 [] (popK (popK K51_8))
def K51_10 := adv 3 [true] K51_9
def K51_11 := adv 4 [] (popK K51_10)
def K51_12 := adv 4 [false] K51_9
def K51_13 := adv 1 [] (popK K51_12)
def K51_14 := adv 2 [] (popK K51_13)
def K51_15 := adv 5 [false] K51_14
def K51_16 := adv 3 [true] K51_14
def K51_17 := adv 1 [] (popK K51_16)
def K51_18 := adv 1 [] (popK (popK K51_17))
def K51_19 := adv 4 [] (popK K51_18)
def K51_20 := adv 4 [false] K51_5
def K51_21 := adv 1 [] (popK (popK K51_20))
set_option maxRecDepth 20000 in
set_option maxHeartbeats 20000000 in
theorem choose_any (c : Cht) (s a_ : Int) (w : World) (hc : chtQ w c) (hv : validC c = true) (ha : 0 ≤ a_ ∧ a_ ≤ 1000) : Ret Try.prog 51 #[.agg #[.slice c.gStates_a c.gStates_n c.gStates_c, .slice c.gInputs_a c.gInputs_n c.gInputs_c, .int .i64 c.gStart, .slice c.gMoves_a c.gMoves_n c.gMoves_c], .int .i64 s, .int .i64 a_] w (fun v w' => ∃ a cap l b, chQ c s a_ l b ∧ v = .agg #[.slice a l.length cap, .bool b] ∧ Sep w [rowOf encI a cap 3 1 l] w') := by
 have S0 := Sep.refl w
 refine Ret.named fun R hR => ?_
 refine Ret.of_J (N := 43) [(0, .agg #[.slice c.gStates_a c.gStates_n c.gStates_c, .slice c.gInputs_a c.gInputs_n c.gInputs_c, .int .i64 c.gStart, .slice c.gMoves_a c.gMoves_n c.gMoves_c]), (1, .int .i64 s), (2, .int .i64 a_)] Try.func51 rfl rfl (Nat.le_of_ble_eq_true (by kernel_rfl)) (by kernel_rfl) ?_
 obtain ⟨q1, q2, q3, q4, q5, q6, q7, q8, q9, q10, _⟩ := id hc
 have ql1 := q2.len_eq
 have ql2 := q5.len_eq
 have ql3 := q9.len_eq
 have hvf := validC_facts hv
 have hpw := pow_facts hvf.2.1
 refine J.run 2 K51_0 [(0, .agg #[.slice c.gStates_a c.gStates_n c.gStates_c, .slice c.gInputs_a c.gInputs_n c.gInputs_c, .int .i64 c.gStart, .slice c.gMoves_a c.gMoves_n c.gMoves_c]), (1, .int .i64 s), (2, .int .i64 a_)] w (by kernel_rfl) ?_
 refine J.new S0 3 [.slice c.gStates_a c.gStates_n c.gStates_c, .slice c.gInputs_a c.gInputs_n c.gInputs_c, .int .i64 c.gStart, .slice c.gMoves_a c.gMoves_n c.gMoves_c] 25 (by kernel_rfl) ?_
 intro b1 w1 S1
 refine J.new S1 6 [.slice none 0 0, .bool false] 83 (by kernel_rfl) ?_
 intro b2 w2 S2
 refine J.run 3 K51_1 [(6, .pointer (some ⟨b2, 0, none⟩)), (3, .pointer (some ⟨b1, 0, none⟩)), (1, .int .i64 s), (2, .int .i64 a_)] w2 (by kernel_rfl) ?_
 refine J.new S2 7 [.slice none 0 0, .bool false] 83 (by kernel_rfl) ?_
 intro b3 w3 S3
 refine J.run 5 K51_2 [(11, .pointer (some ⟨b1, 1, none⟩)), (7, .pointer (some ⟨b3, 0, none⟩)), (6, .pointer (some ⟨b2, 0, none⟩)), (3, .pointer (some ⟨b1, 0, none⟩)), (1, .int .i64 s), (2, .int .i64 a_)] w3 (by kernel_rfl) ?_
 refine J.ok (OK.ldBox S3 2 12 22 1 (.slice c.gInputs_a c.gInputs_n c.gInputs_c) (by kernel_rfl) rfl (by kernel_rfl)) ?_
 refine J.run 1 K51_3 [(13, .int .i64 (c.gInputs_n : Int)), (7, .pointer (some ⟨b3, 0, none⟩)), (6, .pointer (some ⟨b2, 0, none⟩)), (3, .pointer (some ⟨b1, 0, none⟩)), (1, .int .i64 s), (2, .int .i64 a_)] w3 (by kernel_rfl) ?_
 have := pow10 (n := c.gInputs_n) (by omega)
 refine J.ok (OK.shl 14 .i64 1 (c.gInputs_n : Int) (2 ^ c.gInputs_n) (by kernel_rfl) (by omega) (shl_one rfl (by omega))) ?_
 refine J.run 4 K51_4 [(15, .int .i64 0), (14, .int .i64 (2 ^ c.gInputs_n)), (7, .pointer (some ⟨b3, 0, none⟩)), (6, .pointer (some ⟨b2, 0, none⟩)), (3, .pointer (some ⟨b1, 0, none⟩)), (1, .int .i64 s), (2, .int .i64 a_)] w3 (by kernel_rfl) ?_
 have S4 : Sep w [rowOf encI none 0 3 1 ([]), box b3 [.slice none 0 0, .bool false] 83, box b2 [.slice none 0 0, .bool false] 83, box b1 [.slice c.gStates_a c.gStates_n c.gStates_c, .slice c.gInputs_a c.gInputs_n c.gInputs_c, .int .i64 c.gStart, .slice c.gMoves_a c.gMoves_n c.gMoves_c] 25] w3 := S3.nilRow 3 1
 have L51_1 : ∀ (mm_ : Nat) (ra : Option Addr) (rc : Nat) (l : List Int) (b : Bool) (x : Int) (w4 : World), (0 ≤ x) → (x ≤ 2 ^ c.gInputs_n) → (chU c s a_ x l b) → Sep w [rowOf encI ra rc 3 1 l, box b3 [.slice ra l.length rc, .bool b] 83, box b2 [.slice none 0 0, .bool false] 83, box b1 [.slice c.gStates_a c.gStates_n c.gStates_c, .slice c.gInputs_a c.gInputs_n c.gInputs_c, .int .i64 c.gStart, .slice c.gMoves_a c.gMoves_n c.gMoves_c] 25] w4 → ((2 : Int) ^ c.gInputs_n - x).toNat = mm_ → J Try.prog 51 43 R K51_4 [(15, .int .i64 x), (14, .int .i64 (2 ^ c.gInputs_n)), (7, .pointer (some ⟨b3, 0, none⟩)), (6, .pointer (some ⟨b2, 0, none⟩)), (3, .pointer (some ⟨b1, 0, none⟩)), (1, .int .i64 s), (2, .int .i64 a_)] w4 := by
  intro mm1
  induction mm1 using Nat.strongRecOn with
  | _ mm1 ih1 =>
  intro ra rc l b x w4 h0 h1 hu S5 hm1
  have hul := hu.2.2
  refine J.run 5 K51_5 [(16, .bool (decide (x < (2 ^ c.gInputs_n)))), (15, .int .i64 x), (14, .int .i64 (2 ^ c.gInputs_n)), (7, .pointer (some ⟨b3, 0, none⟩)), (6, .pointer (some ⟨b2, 0, none⟩)), (3, .pointer (some ⟨b1, 0, none⟩)), (1, .int .i64 s), (2, .int .i64 a_)] w4 (by kernel_rfl) ?_
  by_cases fk1 : x < (2 ^ c.gInputs_n)
  rotate_left
  ·skip
   refine J.head (.bool false) (congrArg Value.bool (decide_eq_false fk1)) ?_
   refine J.run 4 K51_20 [(7, .pointer (some ⟨b3, 0, none⟩)), (6, .pointer (some ⟨b2, 0, none⟩))] w4 (by kernel_rfl) ?_
   refine J.ok (OK.ldBox S5 1 42 83 0 (.agg #[.slice ra l.length rc, .bool b]) (by kernel_rfl) rfl (by kernel_rfl)) ?_
   refine J.stBox S5 2 83 0 (.agg #[.slice ra l.length rc, .bool b]) [.slice ra l.length rc, .bool b] [rowOf encI ra rc 3 1 l, box b3 [.slice ra l.length rc, .bool b] 83, box b2 [.slice ra l.length rc, .bool b] 83, box b1 [.slice c.gStates_a c.gStates_n c.gStates_c, .slice c.gInputs_a c.gInputs_n c.gInputs_c, .int .i64 c.gStart, .slice c.gMoves_a c.gMoves_n c.gMoves_c] 25] (by kernel_rfl) rfl (by kernel_rfl) (by kernel_rfl) rfl ?_
   intro w13 S18
   refine J.run 1 K51_21 [(6, .pointer (some ⟨b2, 0, none⟩))] w13 (by kernel_rfl) ?_
   refine J.ret Try.f51 [.agg #[.slice ra l.length rc, .bool b]] Try.func51 ⟨⟨⟨b2, 0, none⟩, by kernel_rfl, ldV_run (S18.nth 2 rfl) (by kernel_rfl)⟩, trivial⟩ ?_
   refine hR _ _ ?_
   exact ⟨_, _, _, _, chU_end hu (by unfold nIn; omega) hvf.2.1, rfl, S18.pick 0 rfl⟩
  refine J.head (.bool true) (congrArg Value.bool (decide_eq_true fk1)) ?_
  refine J.run 11 K51_6 [(8, .int .i64 x), (15, .int .i64 x), (14, .int .i64 (2 ^ c.gInputs_n)), (7, .pointer (some ⟨b3, 0, none⟩)), (6, .pointer (some ⟨b2, 0, none⟩)), (3, .pointer (some ⟨b1, 0, none⟩)), (1, .int .i64 s), (2, .int .i64 a_)] w4 (by kernel_rfl) ?_
  refine J.ok (OK.ldBox S5 3 19 25 0 (.agg #[.slice c.gStates_a c.gStates_n c.gStates_c, .slice c.gInputs_a c.gInputs_n c.gInputs_c, .int .i64 c.gStart, .slice c.gMoves_a c.gMoves_n c.gMoves_c]) (by kernel_rfl) rfl (by kernel_rfl)) ?_
  refine J.run 4 K51_7 [(23, .int .i64 x), (22, .agg #[.int .i64 s, .int .i64 a_]), (19, .agg #[.slice c.gStates_a c.gStates_n c.gStates_c, .slice c.gInputs_a c.gInputs_n c.gInputs_c, .int .i64 c.gStart, .slice c.gMoves_a c.gMoves_n c.gMoves_c]), (15, .int .i64 x), (14, .int .i64 (2 ^ c.gInputs_n)), (7, .pointer (some ⟨b3, 0, none⟩)), (6, .pointer (some ⟨b2, 0, none⟩)), (3, .pointer (some ⟨b1, 0, none⟩)), (1, .int .i64 s), (2, .int .i64 a_)] w4 (by kernel_rfl) ?_
  refine J.callF 24 35 #[.agg #[.slice c.gStates_a c.gStates_n c.gStates_c, .slice c.gInputs_a c.gInputs_n c.gInputs_c, .int .i64 c.gStart, .slice c.gMoves_a c.gMoves_n c.gMoves_c], .agg #[.int .i64 s, .int .i64 a_], .int .i64 x] hb35 (by kernel_rfl) (step_any c s a_ x _ (chtQ_sep hc S5) (by omega)) ?_
  rintro _ w5 ⟨rfl, T1⟩
  have S6 : Sep w [rowOf encI ra rc 3 1 l, box b3 [.slice ra l.length rc, .bool b] 83, box b2 [.slice none 0 0, .bool false] 83, box b1 [.slice c.gStates_a c.gStates_n c.gStates_c, .slice c.gInputs_a c.gInputs_n c.gInputs_c, .int .i64 c.gStart, .slice c.gMoves_a c.gMoves_n c.gMoves_c] 25] w5 := S5.trans T1
  clear T1 S5
  have := stepI_bounds c s a_ x
  refine J.run 3 K51_8 [(26, .int .i64 (stepI c s a_ x)), (25, .agg #[.int .i64 (stepS c s a_ x), .int .i64 (stepA c s a_ x)]), (15, .int .i64 x), (14, .int .i64 (2 ^ c.gInputs_n)), (7, .pointer (some ⟨b3, 0, none⟩)), (6, .pointer (some ⟨b2, 0, none⟩)), (3, .pointer (some ⟨b1, 0, none⟩)), (1, .int .i64 s), (2, .int .i64 a_)] w5 (by kernel_rfl) ?_
  refine J.new S6 9 [.int .i64 0, .int .i64 0] 37 (by kernel_rfl) ?_
  intro b4 w6 S7
  refine J.stBox S7 0 37 0 (.agg #[.int .i64 (stepS c s a_ x), .int .i64 (stepA c s a_ x)]) [.int .i64 (stepS c s a_ x), .int .i64 (stepA c s a_ x)] [box b4 [.int .i64 (stepS c s a_ x), .int .i64 (stepA c s a_ x)] 37, rowOf encI ra rc 3 1 l, box b3 [.slice ra l.length rc, .bool b] 83, box b2 [.slice none 0 0, .bool false] 83, box b1 [.slice c.gStates_a c.gStates_n c.gStates_c, .slice c.gInputs_a c.gInputs_n c.gInputs_c, .int .i64 c.gStart, .slice c.gMoves_a c.gMoves_n c.gMoves_c] 25] (by kernel_rfl) rfl (by kernel_rfl) (by kernel_rfl) rfl ?_
  intro w7 S8
  refine J.run 7 K51_9 [(28, .bool (decide ((stepI c s a_ x) < 0))), (10, .int .i64 (stepI c s a_ x)), (15, .int .i64 x), (14, .int .i64 (2 ^ c.gInputs_n)), (7, .pointer (some ⟨b3, 0, none⟩)), (6, .pointer (some ⟨b2, 0, none⟩)), (3, .pointer (some ⟨b1, 0, none⟩)), (1, .int .i64 s), (2, .int .i64 a_)] w7 (by kernel_rfl) ?_
  by_cases fk2 : (stepI c s a_ x) < 0
  ·skip
   refine J.head (.bool true) (congrArg Value.bool (decide_eq_true fk2)) ?_
   refine J.run 3 K51_10 [(29, .pointer (some ⟨b3, 1, none⟩)), (15, .int .i64 x), (14, .int .i64 (2 ^ c.gInputs_n)), (7, .pointer (some ⟨b3, 0, none⟩)), (6, .pointer (some ⟨b2, 0, none⟩)), (3, .pointer (some ⟨b1, 0, none⟩)), (1, .int .i64 s), (2, .int .i64 a_)] w7 (by kernel_rfl) ?_
   refine J.stBox S8 2 4 1 (.bool true) [.slice ra l.length rc, .bool true] [box b4 [.int .i64 (stepS c s a_ x), .int .i64 (stepA c s a_ x)] 37, rowOf encI ra rc 3 1 l, box b3 [.slice ra l.length rc, .bool true] 83, box b2 [.slice none 0 0, .bool false] 83, box b1 [.slice c.gStates_a c.gStates_n c.gStates_c, .slice c.gInputs_a c.gInputs_n c.gInputs_c, .int .i64 c.gStart, .slice c.gMoves_a c.gMoves_n c.gMoves_c] 25] (by kernel_rfl) rfl (by kernel_rfl) (by kernel_rfl) rfl ?_
   intro w8 S9
   refine J.run 4 K51_11 [(41, .int .i64 (IntKind.wrap .i64 (x + 1))), (14, .int .i64 (2 ^ c.gInputs_n)), (7, .pointer (some ⟨b3, 0, none⟩)), (6, .pointer (some ⟨b2, 0, none⟩)), (3, .pointer (some ⟨b1, 0, none⟩)), (1, .int .i64 s), (2, .int .i64 a_)] w8 (by kernel_rfl) ?_
   refine J.head (.int .i64 (x + 1)) (congrArg (Value.int .i64) (IntWalk.i64_in _ (by omega))) ?_
   refine J.run 3 K51_4 [(15, .int .i64 (x + 1)), (14, .int .i64 (2 ^ c.gInputs_n)), (7, .pointer (some ⟨b3, 0, none⟩)), (6, .pointer (some ⟨b2, 0, none⟩)), (3, .pointer (some ⟨b1, 0, none⟩)), (1, .int .i64 s), (2, .int .i64 a_)] w8 (by kernel_rfl) ?_
   have S10 : Sep w [rowOf encI ra rc 3 1 l, box b3 [.slice ra l.length rc, .bool true] 83, box b2 [.slice none 0 0, .bool false] 83, box b1 [.slice c.gStates_a c.gStates_n c.gStates_c, .slice c.gInputs_a c.gInputs_n c.gInputs_c, .int .i64 c.gStart, .slice c.gMoves_a c.gMoves_n c.gMoves_c] 25] w8 := S9.erase 0
   clear S9
   refine J.run 0 K51_4 [(15, .int .i64 (x + 1)), (14, .int .i64 (2 ^ c.gInputs_n)), (7, .pointer (some ⟨b3, 0, none⟩)), (6, .pointer (some ⟨b2, 0, none⟩)), (3, .pointer (some ⟨b1, 0, none⟩)), (1, .int .i64 s), (2, .int .i64 a_)] w8 (by kernel_rfl) ?_
   exact ih1 _ (show ((2 : Int) ^ c.gInputs_n - (x + 1)).toNat < mm1 from by omega) ra rc l true (x + 1) w8 (by omega) (by omega) (chU_neg hu h0 fk2) S10 rfl
  refine J.head (.bool false) (congrArg Value.bool (decide_eq_false fk2)) ?_
  refine J.run 4 K51_12 [(30, .pointer (some ⟨b3, 0, none⟩)), (10, .int .i64 (stepI c s a_ x)), (15, .int .i64 x), (14, .int .i64 (2 ^ c.gInputs_n)), (7, .pointer (some ⟨b3, 0, none⟩)), (6, .pointer (some ⟨b2, 0, none⟩)), (3, .pointer (some ⟨b1, 0, none⟩)), (1, .int .i64 s), (2, .int .i64 a_)] w7 (by kernel_rfl) ?_
  refine J.ok (OK.ldBox S8 2 31 26 0 (.slice ra l.length rc) (by kernel_rfl) rfl (by kernel_rfl)) ?_
  refine J.run 1 K51_13 [(32, .int .i64 (stepI c s a_ x)), (31, .slice ra l.length rc), (10, .int .i64 (stepI c s a_ x)), (15, .int .i64 x), (14, .int .i64 (2 ^ c.gInputs_n)), (7, .pointer (some ⟨b3, 0, none⟩)), (6, .pointer (some ⟨b2, 0, none⟩)), (3, .pointer (some ⟨b1, 0, none⟩)), (1, .int .i64 s), (2, .int .i64 a_)] w7 (by kernel_rfl) ?_
  have := rowOf_len (S8.nth 1 rfl)
  refine J.callF 33 27 #[.slice ra l.length rc, .int .i64 (stepI c s a_ x)] hb27 (by kernel_rfl) (containsI ra l.length rc l (stepI c s a_ x) _ ((row1_ones (S8.nth 1 rfl) l.length (by first | rfl | omega | simp))) (by first | omega | (simp; omega))) ?_
  rintro _ w9 ⟨rfl, T2⟩
  have S11 : Sep w [box b4 [.int .i64 (stepS c s a_ x), .int .i64 (stepA c s a_ x)] 37, rowOf encI ra rc 3 1 l, box b3 [.slice ra l.length rc, .bool b] 83, box b2 [.slice none 0 0, .bool false] 83, box b1 [.slice c.gStates_a c.gStates_n c.gStates_c, .slice c.gInputs_a c.gInputs_n c.gInputs_c, .int .i64 c.gStart, .slice c.gMoves_a c.gMoves_n c.gMoves_c] 25] w9 := S8.trans T2
  clear T2 S8
  refine J.run 2 K51_14 [(34, .bool (!(List.any l fun y => decide ((stepI c s a_ x) = y)))), (10, .int .i64 (stepI c s a_ x)), (15, .int .i64 x), (14, .int .i64 (2 ^ c.gInputs_n)), (7, .pointer (some ⟨b3, 0, none⟩)), (6, .pointer (some ⟨b2, 0, none⟩)), (3, .pointer (some ⟨b1, 0, none⟩)), (1, .int .i64 s), (2, .int .i64 a_)] w9 (by kernel_rfl) ?_
  rcases Bool.eq_false_or_eq_true (List.any l fun y => decide ((stepI c s a_ x) = y)) with fk3 | fk3
  ·skip
   refine J.head (.bool false) (congrArg Value.bool (by rw [fk3]; rfl)) ?_
   refine J.run 5 K51_15 [(41, .int .i64 (IntKind.wrap .i64 (x + 1))), (14, .int .i64 (2 ^ c.gInputs_n)), (7, .pointer (some ⟨b3, 0, none⟩)), (6, .pointer (some ⟨b2, 0, none⟩)), (3, .pointer (some ⟨b1, 0, none⟩)), (1, .int .i64 s), (2, .int .i64 a_)] w9 (by kernel_rfl) ?_
   refine J.head (.int .i64 (x + 1)) (congrArg (Value.int .i64) (IntWalk.i64_in _ (by omega))) ?_
   refine J.run 3 K51_4 [(15, .int .i64 (x + 1)), (14, .int .i64 (2 ^ c.gInputs_n)), (7, .pointer (some ⟨b3, 0, none⟩)), (6, .pointer (some ⟨b2, 0, none⟩)), (3, .pointer (some ⟨b1, 0, none⟩)), (1, .int .i64 s), (2, .int .i64 a_)] w9 (by kernel_rfl) ?_
   have S12 : Sep w [rowOf encI ra rc 3 1 l, box b3 [.slice ra l.length rc, .bool b] 83, box b2 [.slice none 0 0, .bool false] 83, box b1 [.slice c.gStates_a c.gStates_n c.gStates_c, .slice c.gInputs_a c.gInputs_n c.gInputs_c, .int .i64 c.gStart, .slice c.gMoves_a c.gMoves_n c.gMoves_c] 25] w9 := S11.erase 0
   clear S11
   refine J.run 0 K51_4 [(15, .int .i64 (x + 1)), (14, .int .i64 (2 ^ c.gInputs_n)), (7, .pointer (some ⟨b3, 0, none⟩)), (6, .pointer (some ⟨b2, 0, none⟩)), (3, .pointer (some ⟨b1, 0, none⟩)), (1, .int .i64 s), (2, .int .i64 a_)] w9 (by kernel_rfl) ?_
   exact ih1 _ (show ((2 : Int) ^ c.gInputs_n - (x + 1)).toNat < mm1 from by omega) ra rc l b (x + 1) w9 (by omega) (by omega) (chU_old hu h0 fk2 (any_mem.1 fk3)) S12 rfl
  refine J.head (.bool true) (congrArg Value.bool (by rw [fk3]; rfl)) ?_
  refine J.run 3 K51_16 [(35, .pointer (some ⟨b3, 0, none⟩)), (10, .int .i64 (stepI c s a_ x)), (15, .int .i64 x), (14, .int .i64 (2 ^ c.gInputs_n)), (7, .pointer (some ⟨b3, 0, none⟩)), (6, .pointer (some ⟨b2, 0, none⟩)), (3, .pointer (some ⟨b1, 0, none⟩)), (1, .int .i64 s), (2, .int .i64 a_)] w9 (by kernel_rfl) ?_
  refine J.ok (OK.ldBox S11 2 36 26 0 (.slice ra l.length rc) (by kernel_rfl) rfl (by kernel_rfl)) ?_
  refine J.run 1 K51_17 [(37, .int .i64 (stepI c s a_ x)), (36, .slice ra l.length rc), (15, .int .i64 x), (14, .int .i64 (2 ^ c.gInputs_n)), (7, .pointer (some ⟨b3, 0, none⟩)), (6, .pointer (some ⟨b2, 0, none⟩)), (3, .pointer (some ⟨b1, 0, none⟩)), (1, .int .i64 s), (2, .int .i64 a_)] w9 (by kernel_rfl) ?_
  refine J.newSlice S11 38 1 [.int .i64 (stepI c s a_ x)] 3 (by kernel_rfl) ?_
  intro b5 w10 S13
  refine J.append encI S13 2 l (stepI c s a_ x) 39 26 (.int .i64 0) 8 ⟨b5, 0, none⟩ 1 rfl (by kernel_rfl) (by kernel_rfl) (by kernel_rfl) (by kernel_rfl) (by decide) (box_cells (S13.nth 0 rfl)) (by kernel_rfl) (by kernel_rfl) (⟨by omega, by omega⟩) ?_
  intro ra1 rc1 w11 S14
  replace S14 : Sep w [box b5 [.int .i64 (stepI c s a_ x)] 3, box b4 [.int .i64 (stepS c s a_ x), .int .i64 (stepA c s a_ x)] 37, rowOf encI ra1 rc1 3 1 (l ++ [stepI c s a_ x]), box b3 [.slice ra l.length rc, .bool b] 83, box b2 [.slice none 0 0, .bool false] 83, box b1 [.slice c.gStates_a c.gStates_n c.gStates_c, .slice c.gInputs_a c.gInputs_n c.gInputs_c, .int .i64 c.gStart, .slice c.gMoves_a c.gMoves_n c.gMoves_c] 25] w11 := S14
  have S15 : Sep w [box b4 [.int .i64 (stepS c s a_ x), .int .i64 (stepA c s a_ x)] 37, rowOf encI ra1 rc1 3 1 (l ++ [stepI c s a_ x]), box b3 [.slice ra l.length rc, .bool b] 83, box b2 [.slice none 0 0, .bool false] 83, box b1 [.slice c.gStates_a c.gStates_n c.gStates_c, .slice c.gInputs_a c.gInputs_n c.gInputs_c, .int .i64 c.gStart, .slice c.gMoves_a c.gMoves_n c.gMoves_c] 25] w11 := S14.erase 0
  clear S14
  refine J.run 1 K51_18 [(40, .pointer (some ⟨b3, 0, none⟩)), (39, .slice ra1 ((l ++ [stepI c s a_ x]).length) rc1), (15, .int .i64 x), (14, .int .i64 (2 ^ c.gInputs_n)), (7, .pointer (some ⟨b3, 0, none⟩)), (6, .pointer (some ⟨b2, 0, none⟩)), (3, .pointer (some ⟨b1, 0, none⟩)), (1, .int .i64 s), (2, .int .i64 a_)] w11 (by kernel_rfl) ?_
  refine J.stBox S15 2 26 0 (.slice ra1 ((l ++ [stepI c s a_ x]).length) rc1) [.slice ra1 ((l ++ [stepI c s a_ x]).length) rc1, .bool b] [box b4 [.int .i64 (stepS c s a_ x), .int .i64 (stepA c s a_ x)] 37, rowOf encI ra1 rc1 3 1 (l ++ [stepI c s a_ x]), box b3 [.slice ra1 ((l ++ [stepI c s a_ x]).length) rc1, .bool b] 83, box b2 [.slice none 0 0, .bool false] 83, box b1 [.slice c.gStates_a c.gStates_n c.gStates_c, .slice c.gInputs_a c.gInputs_n c.gInputs_c, .int .i64 c.gStart, .slice c.gMoves_a c.gMoves_n c.gMoves_c] 25] (by kernel_rfl) rfl (by kernel_rfl) (by kernel_rfl) rfl ?_
  intro w12 S16
  refine J.run 4 K51_19 [(41, .int .i64 (IntKind.wrap .i64 (x + 1))), (14, .int .i64 (2 ^ c.gInputs_n)), (7, .pointer (some ⟨b3, 0, none⟩)), (6, .pointer (some ⟨b2, 0, none⟩)), (3, .pointer (some ⟨b1, 0, none⟩)), (1, .int .i64 s), (2, .int .i64 a_)] w12 (by kernel_rfl) ?_
  refine J.head (.int .i64 (x + 1)) (congrArg (Value.int .i64) (IntWalk.i64_in _ (by omega))) ?_
  refine J.run 3 K51_4 [(15, .int .i64 (x + 1)), (14, .int .i64 (2 ^ c.gInputs_n)), (7, .pointer (some ⟨b3, 0, none⟩)), (6, .pointer (some ⟨b2, 0, none⟩)), (3, .pointer (some ⟨b1, 0, none⟩)), (1, .int .i64 s), (2, .int .i64 a_)] w12 (by kernel_rfl) ?_
  have S17 : Sep w [rowOf encI ra1 rc1 3 1 (l ++ [stepI c s a_ x]), box b3 [.slice ra1 ((l ++ [stepI c s a_ x]).length) rc1, .bool b] 83, box b2 [.slice none 0 0, .bool false] 83, box b1 [.slice c.gStates_a c.gStates_n c.gStates_c, .slice c.gInputs_a c.gInputs_n c.gInputs_c, .int .i64 c.gStart, .slice c.gMoves_a c.gMoves_n c.gMoves_c] 25] w12 := S16.erase 0
  clear S16
  refine J.run 0 K51_4 [(15, .int .i64 (x + 1)), (14, .int .i64 (2 ^ c.gInputs_n)), (7, .pointer (some ⟨b3, 0, none⟩)), (6, .pointer (some ⟨b2, 0, none⟩)), (3, .pointer (some ⟨b1, 0, none⟩)), (1, .int .i64 s), (2, .int .i64 a_)] w12 (by kernel_rfl) ?_
  exact ih1 _ (show ((2 : Int) ^ c.gInputs_n - (x + 1)).toNat < mm1 from by omega) ra1 rc1 (l ++ [stepI c s a_ x]) b (x + 1) w12 (by omega) (by omega) (chU_new hu h0 fk2) S17 rfl
 exact L51_1 _ none 0 ([]) false 0 w3 (by omega) (by omega) (chU_zero) S4 rfl

end
end Go.Proofs.Ytbbpgidmadlgmaa

