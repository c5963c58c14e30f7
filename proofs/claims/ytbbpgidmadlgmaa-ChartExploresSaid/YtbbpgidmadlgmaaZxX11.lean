/- Walks of functions of this seat, printed by a program over the engine. Conditions: as each theorem says. -/
import Derived.Test.YtbbpgidmadlgmaaZxX10
namespace Go.Proofs.Ytbbpgidmadlgmaa
noncomputable section
open Go.Eng Go.RowKit
set_option linter.unusedSimpArgs false
set_option linter.unusedVariables false
def ERes (c : Cht) (lS lM : List Bool) : Prop := lS.length = c.gStates_n ∧ lM.length = c.gMoves_n ∧ (∀ s, getT lS s ↔ RS c s) ∧ ∀ i, getT lM i ↔ RM c i
theorem hb24 : HasBody Try.prog 24 := fun _ _ => by kernel_rfl
def K24_0 := adv 2 [] (bodyOf Try.f24)
def K24_1 := adv 2 [] (popK (popK K24_0))
def K24_2 := adv 11 [] (rRest K24_1)
def K24_3 := adv 5 [] K24_2
def K24_4 := adv 3 [] (popK K24_3)
def K24_5 := adv 7 [true] K24_4
def K24_6 := adv 1 [] (popK K24_5)
def K24_7 := adv 1 [] (popK K24_6)
def K24_8 := adv 1 [] (popK K24_7)
def K24_9 := adv 6 [] K24_8
def K24_10 := adv 5 [false] K24_4
def K24_11 := adv 5 [] (popK (popK K24_10))
def K24_12 := adv 1 [] (popK K24_11)
def K24_13 := adv 4 [] (popK (popK (popK K24_12)))
def K24_14 := adv 7 [] K24_13
def K24_15 := adv 6 [true] K24_14
def K24_16 := adv 1 [] (popK (popK K24_15))
def K24_17 := adv 4 [] K24_16
def K24_18 := adv 12 [] (popK K24_17)
def K24_19 := adv 7 [] K24_18
def K24_20 := adv 3 [] K24_19
def K24_21 := adv 14 [true] K24_20
def K24_22 := adv 5 [] K24_21
def K24_23 := adv 1 [] (popK K24_22)
def K24_24 := adv 2 [] (popK K24_23)
def K24_25 := adv 6 [true] K24_24
def K24_26 := adv 4 [] (popK K24_25)
def K24_27 := adv 4 [] (popK K24_26)
def K24_28 := adv 9 [] (popK (popK K24_27))
def K24_29 := adv 9 [true] K24_28
def K24_30 := adv 5 [false] K24_28
def K24_31 := adv 1 [] (popK K24_30)
def K24_32 := adv 4 [] (popK (popK K24_31))
def K24_33 := adv 1 [] (popK K24_32)
def K24_34 := adv 2 [] (popK (popK (popK K24_33)))
def K24_35 := adv 6 [false] K24_34
def K24_36 := adv 4 [true] K24_34
def K24_37 := adv 1 [] (popK K24_36)
def K24_38 := adv 4 [] (popK (popK (popK K24_37)))
def K24_39 := adv 6 [] (popK (popK (popK K24_38)))
def K24_40 := adv 6 [false] K24_24
def K24_41 := adv 4 [false] K24_14
def K24_42 := adv 1 [] (popK (popK K24_41))
set_option maxRecDepth 20000 in
set_option maxHeartbeats 20000000 in
theorem explore_any (c : Cht) (w : World) (hc : chtQ w c) (hv : validC c = true) : Ret Try.prog 24 #[.agg #[.slice c.gStates_a c.gStates_n c.gStates_c, .slice c.gInputs_a c.gInputs_n c.gInputs_c, .int .i64 c.gStart, .slice c.gMoves_a c.gMoves_n c.gMoves_c]] w (fun v w' => ∃ a1 c1 a2 c2, ∃ lS lM : List Bool, ERes c lS lM ∧ v = .agg #[.slice a1 lS.length c1, .slice a2 lM.length c2] ∧ Sep w [rowOf (enc1 Value.bool) a1 c1 4 1 lS, rowOf (enc1 Value.bool) a2 c2 4 1 lM] w') := by
 have S0 := Sep.refl w
 refine Ret.named fun R hR => ?_
 refine Ret.of_J (N := 104) [(0, .agg #[.slice c.gStates_a c.gStates_n c.gStates_c, .slice c.gInputs_a c.gInputs_n c.gInputs_c, .int .i64 c.gStart, .slice c.gMoves_a c.gMoves_n c.gMoves_c])] Try.func24 rfl rfl (Nat.le_of_ble_eq_true (by kernel_rfl)) (by kernel_rfl) ?_
 obtain ⟨q1, q2, q3, q4, q5, q6, q7, q8, q9, q10, _⟩ := id hc
 have ql1 := q2.len_eq
 have ql2 := q5.len_eq
 have ql3 := q9.len_eq
 have hvf := validC_facts hv
 have hpw := pow_facts hvf.2.1
 refine J.run 2 K24_0 [(0, .agg #[.slice c.gStates_a c.gStates_n c.gStates_c, .slice c.gInputs_a c.gInputs_n c.gInputs_c, .int .i64 c.gStart, .slice c.gMoves_a c.gMoves_n c.gMoves_c])] w (by kernel_rfl) ?_
 refine J.new S0 1 [.slice c.gStates_a c.gStates_n c.gStates_c, .slice c.gInputs_a c.gInputs_n c.gInputs_c, .int .i64 c.gStart, .slice c.gMoves_a c.gMoves_n c.gMoves_c] 25 (by kernel_rfl) ?_
 intro b1 w1 S1
 refine J.new S1 2 [.slice none 0 0, .slice none 0 0] 53 (by kernel_rfl) ?_
 intro b2 w2 S2
 refine J.run 2 K24_1 [(2, .pointer (some ⟨b2, 0, none⟩)), (1, .pointer (some ⟨b1, 0, none⟩))] w2 (by kernel_rfl) ?_
 have W1 : ∀ (bd9 : Nat) (bd3 : Nat) (bd7 : Nat) (w3 : World), Sep w [rowOf (enc1 Value.bool) (some ⟨bd3, 0, none⟩) c.gStates_n 4 1 (List.replicate c.gStates_n false), rowOf (enc1 Value.bool) (some ⟨bd7, 0, none⟩) c.gMoves_n 4 1 (List.replicate c.gMoves_n false), box bd9 [.slice (some ⟨bd3, 0, none⟩) ((List.replicate c.gStates_n false).length) c.gStates_n, .slice (some ⟨bd7, 0, none⟩) ((List.replicate c.gMoves_n false).length) c.gMoves_n] 53, box b2 [.slice none 0 0, .slice none 0 0] 53, box b1 [.slice c.gStates_a c.gStates_n c.gStates_c, .slice c.gInputs_a c.gInputs_n c.gInputs_c, .int .i64 c.gStart, .slice c.gMoves_a c.gMoves_n c.gMoves_c] 25] w3 → WA Try.prog 24 104 R K24_1 (fun w_ => Sep w [box b2 [.slice none 0 0, .slice none 0 0] 53, box b1 [.slice c.gStates_a c.gStates_n c.gStates_c, .slice c.gInputs_a c.gInputs_n c.gInputs_c, .int .i64 c.gStart, .slice c.gMoves_a c.gMoves_n c.gMoves_c] 25] w_) 0 #[true, true, true, true, true, true, true, true, true, true, true] [(1, .pointer (some ⟨b1, 0, none⟩)), (2, .pointer (some ⟨b2, 0, none⟩)), (3, .pointer (some ⟨bd9, 0, none⟩))] w3 := by
  intro bd9 bd3 bd7 w3 S3
  refine WA.done (by kernel_rfl) ?_
  refine J.run 0 (rRest K24_1) [(1, .pointer (some ⟨b1, 0, none⟩)), (2, .pointer (some ⟨b2, 0, none⟩)), (3, .pointer (some ⟨bd9, 0, none⟩))] w3 (by kernel_rfl) ?_
  refine J.run 11 K24_2 [(5, .int .i64 0), (4, .int .i64 0), (1, .pointer (some ⟨b1, 0, none⟩)), (2, .pointer (some ⟨b2, 0, none⟩)), (3, .pointer (some ⟨bd9, 0, none⟩))] w3 (by kernel_rfl) ?_
  have L24_1 : ∀ (mm_ : Nat) (last : Int) (i : Int) (w4 : World), (0 ≤ i) → (i ≤ (c.gMoves_n : Int)) → (0 ≤ last ∧ last ≤ 1000) → (∀ j, j < (i).toNat → (c.gMoves_l.getD j (⟨0, 0, 0, 0, 0⟩ : Mv)).gAfter ≤ last) → Sep w [rowOf (enc1 Value.bool) (some ⟨bd3, 0, none⟩) c.gStates_n 4 1 (List.replicate c.gStates_n false), rowOf (enc1 Value.bool) (some ⟨bd7, 0, none⟩) c.gMoves_n 4 1 (List.replicate c.gMoves_n false), box bd9 [.slice (some ⟨bd3, 0, none⟩) ((List.replicate c.gStates_n false).length) c.gStates_n, .slice (some ⟨bd7, 0, none⟩) ((List.replicate c.gMoves_n false).length) c.gMoves_n] 53, box b2 [.slice none 0 0, .slice none 0 0] 53, box b1 [.slice c.gStates_a c.gStates_n c.gStates_c, .slice c.gInputs_a c.gInputs_n c.gInputs_c, .int .i64 c.gStart, .slice c.gMoves_a c.gMoves_n c.gMoves_c] 25] w4 → ((c.gMoves_n : Int) - i).toNat = mm_ → J Try.prog 24 104 R K24_2 [(5, .int .i64 i), (4, .int .i64 last), (1, .pointer (some ⟨b1, 0, none⟩)), (2, .pointer (some ⟨b2, 0, none⟩)), (3, .pointer (some ⟨bd9, 0, none⟩))] w4 := by
   intro mm1
   induction mm1 using Nat.strongRecOn with
   | _ mm1 ih1 =>
   intro last i w4 h0 h1 hl0 hla S4 hm1
   have hma : i < (c.gMoves_l.length : Int) → _ := fun h => mv_after hv h0 h
   refine J.run 5 K24_3 [(24, .pointer (some ⟨b1, 3, none⟩)), (23, .int .i64 i), (5, .int .i64 i), (4, .int .i64 last), (1, .pointer (some ⟨b1, 0, none⟩)), (2, .pointer (some ⟨b2, 0, none⟩)), (3, .pointer (some ⟨bd9, 0, none⟩))] w4 (by kernel_rfl) ?_
   refine J.ok (OK.ldBox S4 4 25 23 3 (.slice c.gMoves_a c.gMoves_n c.gMoves_c) (by kernel_rfl) rfl (by kernel_rfl)) ?_
   refine J.run 3 K24_4 [(27, .bool (decide (i < (c.gMoves_n : Int)))), (5, .int .i64 i), (4, .int .i64 last), (1, .pointer (some ⟨b1, 0, none⟩)), (2, .pointer (some ⟨b2, 0, none⟩)), (3, .pointer (some ⟨bd9, 0, none⟩))] w4 (by kernel_rfl) ?_
   by_cases fk1 : i < (c.gMoves_n : Int)
   ·skip
    refine J.head (.bool true) (congrArg Value.bool (decide_eq_true fk1)) ?_
    refine J.run 7 K24_5 [(31, .pointer (some ⟨b1, 3, none⟩)), (30, .int .i64 last), (5, .int .i64 i), (1, .pointer (some ⟨b1, 0, none⟩)), (2, .pointer (some ⟨b2, 0, none⟩)), (3, .pointer (some ⟨bd9, 0, none⟩))] w4 (by kernel_rfl) ?_
    refine J.ok (OK.ldBox S4 4 32 23 3 (.slice c.gMoves_a c.gMoves_n c.gMoves_c) (by kernel_rfl) rfl (by kernel_rfl)) ?_
    refine J.run 1 K24_6 [(33, .int .i64 i), (32, .slice c.gMoves_a c.gMoves_n c.gMoves_c), (30, .int .i64 last), (5, .int .i64 i), (1, .pointer (some ⟨b1, 0, none⟩)), (2, .pointer (some ⟨b2, 0, none⟩)), (3, .pointer (some ⟨bd9, 0, none⟩))] w4 (by kernel_rfl) ?_
    obtain ⟨p1, hp1, hc1⟩ := q9.at (⟨0, 0, 0, 0, 0⟩ : Mv) (i).toNat (by omega)
    have hel1 := getD_Q q10 (⟨0, 0, 0, 0, 0⟩ : Mv) (n := (i).toNat) (by have := q9.len_eq; omega)
    obtain ⟨q11, q12, q13, q14, q15, _⟩ := id hel1
    refine J.ok (OK.index 34 23 5 c.gMoves_a p1 c.gMoves_n (i).toNat i (p1.add ((i).toNat * 5)) (by kernel_rfl) (by kernel_rfl) hp1 (by omega) (by omega) rfl) ?_
    refine J.run 1 K24_7 [(35, .pointer (some ((p1.add ((i).toNat * 5)).add 4))), (30, .int .i64 last), (5, .int .i64 i), (1, .pointer (some ⟨b1, 0, none⟩)), (2, .pointer (some ⟨b2, 0, none⟩)), (3, .pointer (some ⟨bd9, 0, none⟩))] w4 (by kernel_rfl) ?_
    refine J.ok (OK.ldCell 36 3 ((p1.add ((i).toNat * 5)).add 4) (.int .i64 ((c.gMoves_l.getD (i).toNat (⟨0, 0, 0, 0, 0⟩ : Mv)).gAfter)) (by kernel_rfl) (by kernel_rfl) (S4.cell (hc1 4 _ rfl))) ?_
    refine J.run 1 K24_8 [(37, .int .i64 (if ((c.gMoves_l.getD (i).toNat (⟨0, 0, 0, 0, 0⟩ : Mv)).gAfter) > last then ((c.gMoves_l.getD (i).toNat (⟨0, 0, 0, 0, 0⟩ : Mv)).gAfter) else last)), (5, .int .i64 i), (1, .pointer (some ⟨b1, 0, none⟩)), (2, .pointer (some ⟨b2, 0, none⟩)), (3, .pointer (some ⟨bd9, 0, none⟩))] w4 (by kernel_rfl) ?_
    refine J.head (.int .i64 (max last ((c.gMoves_l.getD (i).toNat (⟨0, 0, 0, 0, 0⟩ : Mv)).gAfter))) (congrArg (Value.int .i64) (by omega)) ?_
    refine J.run 6 K24_9 [(29, .int .i64 (IntKind.wrap .i64 (i + 1))), (4, .int .i64 (max last ((c.gMoves_l.getD (i).toNat (⟨0, 0, 0, 0, 0⟩ : Mv)).gAfter))), (1, .pointer (some ⟨b1, 0, none⟩)), (2, .pointer (some ⟨b2, 0, none⟩)), (3, .pointer (some ⟨bd9, 0, none⟩))] w4 (by kernel_rfl) ?_
    refine J.head (.int .i64 (i + 1)) (congrArg (Value.int .i64) (IntWalk.i64_in _ (by omega))) ?_
    refine J.run 3 K24_2 [(5, .int .i64 (i + 1)), (4, .int .i64 (max last ((c.gMoves_l.getD (i).toNat (⟨0, 0, 0, 0, 0⟩ : Mv)).gAfter))), (1, .pointer (some ⟨b1, 0, none⟩)), (2, .pointer (some ⟨b2, 0, none⟩)), (3, .pointer (some ⟨bd9, 0, none⟩))] w4 (by kernel_rfl) ?_
    refine J.run 0 K24_2 [(5, .int .i64 (i + 1)), (4, .int .i64 (max last ((c.gMoves_l.getD (i).toNat (⟨0, 0, 0, 0, 0⟩ : Mv)).gAfter))), (1, .pointer (some ⟨b1, 0, none⟩)), (2, .pointer (some ⟨b2, 0, none⟩)), (3, .pointer (some ⟨bd9, 0, none⟩))] w4 (by kernel_rfl) ?_
    exact ih1 _ (show ((c.gMoves_n : Int) - (i + 1)).toNat < mm1 from by omega) (max last ((c.gMoves_l.getD (i).toNat (⟨0, 0, 0, 0, 0⟩ : Mv)).gAfter)) (i + 1) w4 (by omega) (by omega) (by omega) (by intro j hj; by_cases e : j = i.toNat; (subst e; omega); (have := hla j (by omega); omega)) S4 rfl
   refine J.head (.bool false) (congrArg Value.bool (decide_eq_false fk1)) ?_
   refine J.run 5 K24_10 [(38, .pointer (some ⟨b1, 2, none⟩)), (4, .int .i64 last), (1, .pointer (some ⟨b1, 0, none⟩)), (2, .pointer (some ⟨b2, 0, none⟩)), (3, .pointer (some ⟨bd9, 0, none⟩))] w4 (by kernel_rfl) ?_
   refine J.ok (OK.ldBox S4 4 39 3 2 (.int .i64 c.gStart) (by kernel_rfl) rfl (by kernel_rfl)) ?_
   refine J.newSlice S4 40 1 [.int .i64 c.gStart] 3 (by kernel_rfl) ?_
   intro b3 w5 S5
   refine J.run 5 K24_11 [(41, .pointer (some ⟨bd9, 0, none⟩)), (6, .slice (some ⟨b3, 0, none⟩) 1 1), (4, .int .i64 last), (1, .pointer (some ⟨b1, 0, none⟩)), (2, .pointer (some ⟨b2, 0, none⟩)), (3, .pointer (some ⟨bd9, 0, none⟩))] w5 (by kernel_rfl) ?_
   refine J.ok (OK.ldBox S5 3 42 51 0 (.slice (some ⟨bd3, 0, none⟩) ((List.replicate c.gStates_n false).length) c.gStates_n) (by kernel_rfl) rfl (by kernel_rfl)) ?_
   refine J.run 1 K24_12 [(43, .pointer (some ⟨b1, 2, none⟩)), (42, .slice (some ⟨bd3, 0, none⟩) ((List.replicate c.gStates_n false).length) c.gStates_n), (6, .slice (some ⟨b3, 0, none⟩) 1 1), (4, .int .i64 last), (1, .pointer (some ⟨b1, 0, none⟩)), (2, .pointer (some ⟨b2, 0, none⟩)), (3, .pointer (some ⟨bd9, 0, none⟩))] w5 (by kernel_rfl) ?_
   refine J.ok (OK.ldBox S5 5 44 3 2 (.int .i64 c.gStart) (by kernel_rfl) rfl (by kernel_rfl)) ?_
   obtain ⟨p2, hp2⟩ := row1_addr (S5.nth 1 rfl) (show 0 < (List.replicate c.gStates_n false).length by first | omega | (simp; omega))
   refine J.ok (OK.index 45 51 1 (some ⟨bd3, 0, none⟩) p2 ((List.replicate c.gStates_n false).length) (c.gStart).toNat c.gStart (p2.add (c.gStart).toNat) (by kernel_rfl) (by kernel_rfl) hp2 (by omega) (by first | omega | (simp; omega)) (by rw [Nat.mul_one])) ?_
   refine J.stRow1 Value.bool bool_one S5 1 (List.replicate c.gStates_n false) 4 p2 (c.gStart).toNat true rfl (by kernel_rfl) hp2 (by first | omega | (simp; omega)) (by kernel_rfl) ?_
   intro w6 S6
   replace S6 : Sep w [box b3 [.int .i64 c.gStart] 3, rowOf (enc1 Value.bool) (some ⟨bd3, 0, none⟩) c.gStates_n 4 1 ((List.replicate c.gStates_n false).set (c.gStart).toNat true), rowOf (enc1 Value.bool) (some ⟨bd7, 0, none⟩) c.gMoves_n 4 1 (List.replicate c.gMoves_n false), box bd9 [.slice (some ⟨bd3, 0, none⟩) ((List.replicate c.gStates_n false).length) c.gStates_n, .slice (some ⟨bd7, 0, none⟩) ((List.replicate c.gMoves_n false).length) c.gMoves_n] 53, box b2 [.slice none 0 0, .slice none 0 0] 53, box b1 [.slice c.gStates_a c.gStates_n c.gStates_c, .slice c.gInputs_a c.gInputs_n c.gInputs_c, .int .i64 c.gStart, .slice c.gMoves_a c.gMoves_n c.gMoves_c] 25] w6 := S6
   refine J.run 4 K24_13 [(6, .slice (some ⟨b3, 0, none⟩) 1 1), (4, .int .i64 last), (1, .pointer (some ⟨b1, 0, none⟩)), (2, .pointer (some ⟨b2, 0, none⟩)), (3, .pointer (some ⟨bd9, 0, none⟩))] w6 (by kernel_rfl) ?_
   have S7 : Sep w [quC encI (some ⟨b3, 0, none⟩) ([c.gStart].length) 3 1 ([c.gStart]), rowOf (enc1 Value.bool) (some ⟨bd3, 0, none⟩) c.gStates_n 4 1 ((List.replicate c.gStates_n false).set (c.gStart).toNat true), rowOf (enc1 Value.bool) (some ⟨bd7, 0, none⟩) c.gMoves_n 4 1 (List.replicate c.gMoves_n false), box bd9 [.slice (some ⟨bd3, 0, none⟩) ((List.replicate c.gStates_n false).length) c.gStates_n, .slice (some ⟨bd7, 0, none⟩) ((List.replicate c.gMoves_n false).length) c.gMoves_n] 53, box b2 [.slice none 0 0, .slice none 0 0] 53, box b1 [.slice c.gStates_a c.gStates_n c.gStates_c, .slice c.gInputs_a c.gInputs_n c.gInputs_c, .int .i64 c.gStart, .slice c.gMoves_a c.gMoves_n c.gMoves_c] 25] w6 := S6.toQu encI 0 rfl [c.gStart] 1 rfl (fun _ => rfl) (by simp)
   have L24_2 : ∀ (mm_ : Nat) (qa : Option Addr) (qc : Nat) (q : List Int) (lS : List Bool) (lM : List Bool) (w7 : World), (EInv c last lS lM q (-1)) → (2 * flN lS + (q).length ≤ 1000) → Sep w [quC encI qa qc 3 1 q, rowOf (enc1 Value.bool) (some ⟨bd3, 0, none⟩) c.gStates_n 4 1 lS, rowOf (enc1 Value.bool) (some ⟨bd7, 0, none⟩) c.gMoves_n 4 1 lM, box bd9 [.slice (some ⟨bd3, 0, none⟩) ((List.replicate c.gStates_n false).length) c.gStates_n, .slice (some ⟨bd7, 0, none⟩) ((List.replicate c.gMoves_n false).length) c.gMoves_n] 53, box b2 [.slice none 0 0, .slice none 0 0] 53, box b1 [.slice c.gStates_a c.gStates_n c.gStates_c, .slice c.gInputs_a c.gInputs_n c.gInputs_c, .int .i64 c.gStart, .slice c.gMoves_a c.gMoves_n c.gMoves_c] 25] w7 → 2 * flN lS + (q).length = mm_ → J Try.prog 24 104 R K24_13 [(6, .slice qa q.length qc), (4, .int .i64 last), (1, .pointer (some ⟨b1, 0, none⟩)), (2, .pointer (some ⟨b2, 0, none⟩)), (3, .pointer (some ⟨bd9, 0, none⟩))] w7 := by
    intro mm2
    induction mm2 using Nat.strongRecOn with
    | _ mm2 ih2 =>
    intro qa qc q lS lM w7 hE hB S8 hm2
    have hsl := hE.1
    have hml := hE.2.1
    refine J.run 7 K24_14 [(48, .bool (decide ((q.length : Int) > 0))), (6, .slice qa q.length qc), (4, .int .i64 last), (1, .pointer (some ⟨b1, 0, none⟩)), (2, .pointer (some ⟨b2, 0, none⟩)), (3, .pointer (some ⟨bd9, 0, none⟩))] w7 (by kernel_rfl) ?_
    by_cases fk2 : (q.length : Int) > 0
    rotate_left
    ·skip
     refine J.head (.bool false) (congrArg Value.bool (decide_eq_false fk2)) ?_
     refine J.run 4 K24_41 [(2, .pointer (some ⟨b2, 0, none⟩)), (3, .pointer (some ⟨bd9, 0, none⟩))] w7 (by kernel_rfl) ?_
     refine J.ok (OK.ldBox S8 3 103 53 0 (.agg #[.slice (some ⟨bd3, 0, none⟩) ((List.replicate c.gStates_n false).length) c.gStates_n, .slice (some ⟨bd7, 0, none⟩) ((List.replicate c.gMoves_n false).length) c.gMoves_n]) (by kernel_rfl) rfl (by kernel_rfl)) ?_
     refine J.stBox S8 4 53 0 (.agg #[.slice (some ⟨bd3, 0, none⟩) ((List.replicate c.gStates_n false).length) c.gStates_n, .slice (some ⟨bd7, 0, none⟩) ((List.replicate c.gMoves_n false).length) c.gMoves_n]) [.slice (some ⟨bd3, 0, none⟩) ((List.replicate c.gStates_n false).length) c.gStates_n, .slice (some ⟨bd7, 0, none⟩) ((List.replicate c.gMoves_n false).length) c.gMoves_n] [quC encI qa qc 3 1 q, rowOf (enc1 Value.bool) (some ⟨bd3, 0, none⟩) c.gStates_n 4 1 lS, rowOf (enc1 Value.bool) (some ⟨bd7, 0, none⟩) c.gMoves_n 4 1 lM, box bd9 [.slice (some ⟨bd3, 0, none⟩) ((List.replicate c.gStates_n false).length) c.gStates_n, .slice (some ⟨bd7, 0, none⟩) ((List.replicate c.gMoves_n false).length) c.gMoves_n] 53, box b2 [.slice (some ⟨bd3, 0, none⟩) ((List.replicate c.gStates_n false).length) c.gStates_n, .slice (some ⟨bd7, 0, none⟩) ((List.replicate c.gMoves_n false).length) c.gMoves_n] 53, box b1 [.slice c.gStates_a c.gStates_n c.gStates_c, .slice c.gInputs_a c.gInputs_n c.gInputs_c, .int .i64 c.gStart, .slice c.gMoves_a c.gMoves_n c.gMoves_c] 25] (by kernel_rfl) rfl (by kernel_rfl) (by kernel_rfl) rfl ?_
     intro w17 S23
     refine J.run 1 K24_42 [(2, .pointer (some ⟨b2, 0, none⟩))] w17 (by kernel_rfl) ?_
     refine J.ret Try.f24 [.agg #[.slice (some ⟨bd3, 0, none⟩) ((List.replicate c.gStates_n false).length) c.gStates_n, .slice (some ⟨bd7, 0, none⟩) ((List.replicate c.gMoves_n false).length) c.gMoves_n]] Try.func24 ⟨⟨⟨b2, 0, none⟩, by kernel_rfl, ldV_run (S23.nth 4 rfl) (by kernel_rfl)⟩, trivial⟩ ?_
     refine hR _ _ ?_
     have S24 : Sep w [rowOf (enc1 Value.bool) (some ⟨bd3, 0, none⟩) c.gStates_n 4 1 lS, rowOf (enc1 Value.bool) (some ⟨bd7, 0, none⟩) c.gMoves_n 4 1 lM] w17 := S23.sub (.cons _ (.cons_cons _ (.cons_cons _ (List.nil_sublist _))))
     clear S23
     obtain ⟨he1, he2⟩ := einv_end hE (by omega) hl0.1 (last_all hla (by omega))
     exact ⟨_, _, _, _, lS, lM, ⟨hE.1, hE.2.1, he1, he2⟩, by rw [tup_one, List.length_replicate, List.length_replicate, hE.1, hE.2.1], S24⟩
    refine J.head (.bool true) (congrArg Value.bool (decide_eq_true fk2)) ?_
    refine J.run 6 K24_15 [(49, .slice qa q.length qc), (6, .slice qa q.length qc), (4, .int .i64 last), (1, .pointer (some ⟨b1, 0, none⟩)), (2, .pointer (some ⟨b2, 0, none⟩)), (3, .pointer (some ⟨bd9, 0, none⟩))] w7 (by kernel_rfl) ?_
    obtain ⟨p3, hp3, hc2⟩ := (quC_ones (S8.nth 0 rfl) _ rfl).at 0 0 (by omega)
    refine J.ok (OK.index 50 26 1 qa p3 q.length 0 0 (p3.add 0) (by kernel_rfl) (by kernel_rfl) hp3 (by omega) (by omega) (by rw [Nat.mul_one])) ?_
    refine J.ok (OK.ldCell 51 3 (p3.add 0) (.int .i64 (q.getD 0 0)) (by kernel_rfl) (by kernel_rfl) hc2) ?_
    refine J.run 1 K24_16 [(7, .int .i64 (q.getD 0 0)), (6, .slice qa q.length qc), (4, .int .i64 last), (1, .pointer (some ⟨b1, 0, none⟩)), (2, .pointer (some ⟨b2, 0, none⟩)), (3, .pointer (some ⟨bd9, 0, none⟩))] w7 (by kernel_rfl) ?_
    obtain ⟨s, hs⟩ : ∃ x : Int, x = q.getD 0 0 := ⟨_, rfl⟩
    refine J.head (.int .i64 s) (congrArg (Value.int .i64) hs.symm) ?_
    have hp := einv_pop hE (by omega) hs
    refine J.run 4 K24_17 [(52, .slice qa q.length qc), (7, .int .i64 s), (4, .int .i64 last), (1, .pointer (some ⟨b1, 0, none⟩)), (2, .pointer (some ⟨b2, 0, none⟩)), (3, .pointer (some ⟨bd9, 0, none⟩))] w7 (by kernel_rfl) ?_
    have := quC_facts (S8.nth 0 rfl)
    refine J.ok (OK.slice 53 26 1 qa q.length qc (some (.int .i64 1)) none 1 q.length (by kernel_rfl) (by kernel_rfl) (.inr ⟨_, _, rfl, rfl⟩) (.inl ⟨rfl, rfl⟩) (by first | omega | (simp; omega)) (by first | omega | (simp; omega))) ?_
    refine J.head (.slice (subA qa qc 1 1) ((q.drop 1).length) (qc - 1)) (by rw [List.length_drop]) ?_
    have := List.length_drop (i := 1) (l := q)
    have S9 : Sep w [quC encI (subA qa qc 1 1) (qc - 1) 3 1 (q.drop 1), rowOf (enc1 Value.bool) (some ⟨bd3, 0, none⟩) c.gStates_n 4 1 lS, rowOf (enc1 Value.bool) (some ⟨bd7, 0, none⟩) c.gMoves_n 4 1 lM, box bd9 [.slice (some ⟨bd3, 0, none⟩) ((List.replicate c.gStates_n false).length) c.gStates_n, .slice (some ⟨bd7, 0, none⟩) ((List.replicate c.gMoves_n false).length) c.gMoves_n] 53, box b2 [.slice none 0 0, .slice none 0 0] 53, box b1 [.slice c.gStates_a c.gStates_n c.gStates_c, .slice c.gInputs_a c.gInputs_n c.gInputs_c, .int .i64 c.gStart, .slice c.gMoves_a c.gMoves_n c.gMoves_c] 25] w7 := S8.quDrop 0 rfl (fun _ => rfl) (by first | omega | (simp; omega))
    refine J.run 12 K24_18 [(9, .int .i64 0), (8, .bool true), (6, .slice (subA qa qc 1 1) ((q.drop 1).length) (qc - 1)), (7, .int .i64 s), (4, .int .i64 last), (1, .pointer (some ⟨b1, 0, none⟩)), (2, .pointer (some ⟨b2, 0, none⟩)), (3, .pointer (some ⟨bd9, 0, none⟩))] w7 (by kernel_rfl) ?_
    have L24_3 : ∀ (mm_ : Nat) (qa1 : Option Addr) (qc1 : Nat) (q1 : List Int) (lS1 : List Bool) (lM1 : List Bool) (sb : Bool) (a : Int) (w8 : World), (0 ≤ a ∧ a ≤ last + 1) → (EInv c last lS1 lM1 q1 s) → (getT lS1 s) → (PA c lS1 lM1 s a sb) → (2 * flN lS1 + (q1).length < 2 * flN lS + q.length) → Sep w [quC encI qa1 qc1 3 1 q1, rowOf (enc1 Value.bool) (some ⟨bd3, 0, none⟩) c.gStates_n 4 1 lS1, rowOf (enc1 Value.bool) (some ⟨bd7, 0, none⟩) c.gMoves_n 4 1 lM1, box bd9 [.slice (some ⟨bd3, 0, none⟩) ((List.replicate c.gStates_n false).length) c.gStates_n, .slice (some ⟨bd7, 0, none⟩) ((List.replicate c.gMoves_n false).length) c.gMoves_n] 53, box b2 [.slice none 0 0, .slice none 0 0] 53, box b1 [.slice c.gStates_a c.gStates_n c.gStates_c, .slice c.gInputs_a c.gInputs_n c.gInputs_c, .int .i64 c.gStart, .slice c.gMoves_a c.gMoves_n c.gMoves_c] 25] w8 → (last + 1 - a).toNat = mm_ → J Try.prog 24 104 R K24_18 [(9, .int .i64 a), (8, .bool sb), (6, .slice qa1 q1.length qc1), (7, .int .i64 s), (4, .int .i64 last), (1, .pointer (some ⟨b1, 0, none⟩)), (2, .pointer (some ⟨b2, 0, none⟩)), (3, .pointer (some ⟨bd9, 0, none⟩))] w8 := by
     intro mm3
     induction mm3 using Nat.strongRecOn with
     | _ mm3 ih3 =>
     intro qa1 qc1 q1 lS1 lM1 sb a w8 a0 hE1 hS1 hPA hB1 S10 hm3
     have hsl1 := hE1.1
     have hml1 := hE1.2.1
     refine J.run 7 K24_19 [(57, .bool (decide (a ≤ last))), (9, .int .i64 a), (8, .bool sb), (6, .slice qa1 q1.length qc1), (7, .int .i64 s), (4, .int .i64 last), (1, .pointer (some ⟨b1, 0, none⟩)), (2, .pointer (some ⟨b2, 0, none⟩)), (3, .pointer (some ⟨bd9, 0, none⟩))] w8 (by kernel_rfl) ?_
     by_cases fk3 : a ≤ last
     rotate_left
     ·skip
      refine J.head (.bool false) (congrArg Value.bool (decide_eq_false fk3)) ?_
      refine J.run 7 K24_13 [(6, .slice qa1 q1.length qc1), (4, .int .i64 last), (1, .pointer (some ⟨b1, 0, none⟩)), (2, .pointer (some ⟨b2, 0, none⟩)), (3, .pointer (some ⟨bd9, 0, none⟩))] w8 (by kernel_rfl) ?_
      refine J.run 0 K24_13 [(6, .slice qa1 q1.length qc1), (4, .int .i64 last), (1, .pointer (some ⟨b1, 0, none⟩)), (2, .pointer (some ⟨b2, 0, none⟩)), (3, .pointer (some ⟨bd9, 0, none⟩))] w8 (by kernel_rfl) ?_
      exact ih2 _ (show 2 * flN lS1 + (q1).length < mm2 from (by first | omega | (simp only [List.length_append, List.length_singleton, List.length_set]; omega))) qa1 qc1 q1 lS1 lM1 w8 (einv_done hE1 (pa_done hPA (.inr (by omega)))) ((by first | omega | (simp only [List.length_append, List.length_singleton, List.length_set]; omega))) S10 rfl
     refine J.head (.bool true) (congrArg Value.bool (decide_eq_true fk3)) ?_
     refine J.run 3 K24_20 [(59, .bool sb), (9, .int .i64 a), (6, .slice qa1 q1.length qc1), (7, .int .i64 s), (4, .int .i64 last), (1, .pointer (some ⟨b1, 0, none⟩)), (2, .pointer (some ⟨b2, 0, none⟩)), (3, .pointer (some ⟨bd9, 0, none⟩))] w8 (by kernel_rfl) ?_
     rcases Bool.eq_false_or_eq_true sb with fk4 | fk4
     rotate_left
     ·skip
      refine J.head (.bool false) (congrArg Value.bool fk4) ?_
      refine J.run 4 K24_13 [(6, .slice qa1 q1.length qc1), (4, .int .i64 last), (1, .pointer (some ⟨b1, 0, none⟩)), (2, .pointer (some ⟨b2, 0, none⟩)), (3, .pointer (some ⟨bd9, 0, none⟩))] w8 (by kernel_rfl) ?_
      refine J.run 0 K24_13 [(6, .slice qa1 q1.length qc1), (4, .int .i64 last), (1, .pointer (some ⟨b1, 0, none⟩)), (2, .pointer (some ⟨b2, 0, none⟩)), (3, .pointer (some ⟨bd9, 0, none⟩))] w8 (by kernel_rfl) ?_
      exact ih2 _ (show 2 * flN lS1 + (q1).length < mm2 from (by first | omega | (simp only [List.length_append, List.length_singleton, List.length_set]; omega))) qa1 qc1 q1 lS1 lM1 w8 (einv_done hE1 (pa_done hPA (.inl fk4))) ((by first | omega | (simp only [List.length_append, List.length_singleton, List.length_set]; omega))) S10 rfl
     refine J.head (.bool true) (congrArg Value.bool fk4) ?_
     have hPt : PA c lS1 lM1 s a true := by rw [← fk4]; exact hPA
     have hra := rch_at (hE1.2.2.1 s hS1) (hPt.2.1 rfl) a0.1 (by omega)
     have hri := rch_in hv hra
     refine J.run 14 K24_21 [(10, .int .i64 0), (8, .bool false), (9, .int .i64 a), (6, .slice qa1 q1.length qc1), (7, .int .i64 s), (4, .int .i64 last), (1, .pointer (some ⟨b1, 0, none⟩)), (2, .pointer (some ⟨b2, 0, none⟩)), (3, .pointer (some ⟨bd9, 0, none⟩))] w8 (by kernel_rfl) ?_
     have L24_4 : ∀ (mm_ : Nat) (qa2 : Option Addr) (qc2 : Nat) (q2 : List Int) (lS2 : List Bool) (lM2 : List Bool) (sb2 : Bool) (x : Int) (w9 : World), (0 ≤ x ∧ x ≤ 2 ^ c.gInputs_n) → (EInv c last lS2 lM2 q2 s) → (getT lS2 s) → (PA c lS2 lM2 s a true) → (PX c lS2 lM2 s a x sb2) → (2 * flN lS2 + (q2).length < 2 * flN lS + q.length) → Sep w [quC encI qa2 qc2 3 1 q2, rowOf (enc1 Value.bool) (some ⟨bd3, 0, none⟩) c.gStates_n 4 1 lS2, rowOf (enc1 Value.bool) (some ⟨bd7, 0, none⟩) c.gMoves_n 4 1 lM2, box bd9 [.slice (some ⟨bd3, 0, none⟩) ((List.replicate c.gStates_n false).length) c.gStates_n, .slice (some ⟨bd7, 0, none⟩) ((List.replicate c.gMoves_n false).length) c.gMoves_n] 53, box b2 [.slice none 0 0, .slice none 0 0] 53, box b1 [.slice c.gStates_a c.gStates_n c.gStates_c, .slice c.gInputs_a c.gInputs_n c.gInputs_c, .int .i64 c.gStart, .slice c.gMoves_a c.gMoves_n c.gMoves_c] 25] w9 → ((2 : Int) ^ c.gInputs_n - x).toNat = mm_ → J Try.prog 24 104 R K24_21 [(10, .int .i64 x), (8, .bool sb2), (9, .int .i64 a), (6, .slice qa2 q2.length qc2), (7, .int .i64 s), (4, .int .i64 last), (1, .pointer (some ⟨b1, 0, none⟩)), (2, .pointer (some ⟨b2, 0, none⟩)), (3, .pointer (some ⟨bd9, 0, none⟩))] w9 := by
      intro mm4
      induction mm4 using Nat.strongRecOn with
      | _ mm4 ih4 =>
      intro qa2 qc2 q2 lS2 lM2 sb2 x w9 x0 hE2 hS2 hP2 hPX hB2 S11 hm4
      have hsl2 := hE2.1
      have hml2 := hE2.2.1
      refine J.run 5 K24_22 [(63, .pointer (some ⟨b1, 1, none⟩)), (62, .int .i64 x), (10, .int .i64 x), (8, .bool sb2), (9, .int .i64 a), (6, .slice qa2 q2.length qc2), (7, .int .i64 s), (4, .int .i64 last), (1, .pointer (some ⟨b1, 0, none⟩)), (2, .pointer (some ⟨b2, 0, none⟩)), (3, .pointer (some ⟨bd9, 0, none⟩))] w9 (by kernel_rfl) ?_
      refine J.ok (OK.ldBox S11 5 64 22 1 (.slice c.gInputs_a c.gInputs_n c.gInputs_c) (by kernel_rfl) rfl (by kernel_rfl)) ?_
      refine J.run 1 K24_23 [(65, .int .i64 (c.gInputs_n : Int)), (62, .int .i64 x), (10, .int .i64 x), (8, .bool sb2), (9, .int .i64 a), (6, .slice qa2 q2.length qc2), (7, .int .i64 s), (4, .int .i64 last), (1, .pointer (some ⟨b1, 0, none⟩)), (2, .pointer (some ⟨b2, 0, none⟩)), (3, .pointer (some ⟨bd9, 0, none⟩))] w9 (by kernel_rfl) ?_
      have := pow10 (n := c.gInputs_n) (by omega)
      refine J.ok (OK.shl 66 .i64 1 (c.gInputs_n : Int) (2 ^ c.gInputs_n) (by kernel_rfl) (by omega) (shl_one rfl (by omega))) ?_
      refine J.run 2 K24_24 [(67, .bool (decide (x < (2 ^ c.gInputs_n)))), (10, .int .i64 x), (8, .bool sb2), (9, .int .i64 a), (6, .slice qa2 q2.length qc2), (7, .int .i64 s), (4, .int .i64 last), (1, .pointer (some ⟨b1, 0, none⟩)), (2, .pointer (some ⟨b2, 0, none⟩)), (3, .pointer (some ⟨bd9, 0, none⟩))] w9 (by kernel_rfl) ?_
      by_cases fk5 : x < (2 ^ c.gInputs_n)
      rotate_left
      ·skip
       refine J.head (.bool false) (congrArg Value.bool (decide_eq_false fk5)) ?_
       refine J.run 6 K24_40 [(61, .int .i64 (IntKind.wrap .i64 (a + 1))), (8, .bool sb2), (6, .slice qa2 q2.length qc2), (7, .int .i64 s), (4, .int .i64 last), (1, .pointer (some ⟨b1, 0, none⟩)), (2, .pointer (some ⟨b2, 0, none⟩)), (3, .pointer (some ⟨bd9, 0, none⟩))] w9 (by kernel_rfl) ?_
       refine J.head (.int .i64 (a + 1)) (congrArg (Value.int .i64) (IntWalk.i64_in _ (by omega))) ?_
       refine J.run 3 K24_18 [(9, .int .i64 (a + 1)), (8, .bool sb2), (6, .slice qa2 q2.length qc2), (7, .int .i64 s), (4, .int .i64 last), (1, .pointer (some ⟨b1, 0, none⟩)), (2, .pointer (some ⟨b2, 0, none⟩)), (3, .pointer (some ⟨bd9, 0, none⟩))] w9 (by kernel_rfl) ?_
       refine J.run 0 K24_18 [(9, .int .i64 (a + 1)), (8, .bool sb2), (6, .slice qa2 q2.length qc2), (7, .int .i64 s), (4, .int .i64 last), (1, .pointer (some ⟨b1, 0, none⟩)), (2, .pointer (some ⟨b2, 0, none⟩)), (3, .pointer (some ⟨bd9, 0, none⟩))] w9 (by kernel_rfl) ?_
       exact ih3 _ (show (last + 1 - (a + 1)).toNat < mm3 from by omega) qa2 qc2 q2 lS2 lM2 sb2 (a + 1) w9 (by omega) (hE2) (hS2) (pa_next a0.1 hP2 hPX (by unfold nIn; omega)) (by omega) S11 rfl
      refine J.head (.bool true) (congrArg Value.bool (decide_eq_true fk5)) ?_
      refine J.run 6 K24_25 [(10, .int .i64 x), (8, .bool sb2), (9, .int .i64 a), (6, .slice qa2 q2.length qc2), (7, .int .i64 s), (4, .int .i64 last), (1, .pointer (some ⟨b1, 0, none⟩)), (2, .pointer (some ⟨b2, 0, none⟩)), (3, .pointer (some ⟨bd9, 0, none⟩))] w9 (by kernel_rfl) ?_
      refine J.ok (OK.ldBox S11 5 71 25 0 (.agg #[.slice c.gStates_a c.gStates_n c.gStates_c, .slice c.gInputs_a c.gInputs_n c.gInputs_c, .int .i64 c.gStart, .slice c.gMoves_a c.gMoves_n c.gMoves_c]) (by kernel_rfl) rfl (by kernel_rfl)) ?_
      refine J.run 4 K24_26 [(75, .int .i64 x), (74, .agg #[.int .i64 s, .int .i64 a]), (71, .agg #[.slice c.gStates_a c.gStates_n c.gStates_c, .slice c.gInputs_a c.gInputs_n c.gInputs_c, .int .i64 c.gStart, .slice c.gMoves_a c.gMoves_n c.gMoves_c]), (10, .int .i64 x), (8, .bool sb2), (9, .int .i64 a), (6, .slice qa2 q2.length qc2), (7, .int .i64 s), (4, .int .i64 last), (1, .pointer (some ⟨b1, 0, none⟩)), (2, .pointer (some ⟨b2, 0, none⟩)), (3, .pointer (some ⟨bd9, 0, none⟩))] w9 (by kernel_rfl) ?_
      have hxi : 0 ≤ x ∧ x < nIn c := ⟨x0.1, by unfold nIn; omega⟩
      have fk6 : (validC c) = true := hv
      have fk7 : (okS c s a) = true := okS_iff.2 hri
      have fk8 : (insideB c x) = true := by unfold insideB; rw [decide_eq_true x0.1, decide_eq_true (show x < 2 ^ c.gInputs_n by omega)]; rfl
      refine J.callF 76 18 #[.agg #[.slice c.gStates_a c.gStates_n c.gStates_c, .slice c.gInputs_a c.gInputs_n c.gInputs_c, .int .i64 c.gStart, .slice c.gMoves_a c.gMoves_n c.gMoves_c], .agg #[.int .i64 s, .int .i64 a], .int .i64 x] hb18 (by kernel_rfl) (rstep3_any c s a x _ (chtQ_sep hc S11)) ?_
      rintro _ w10 ⟨rfl, T1⟩
      have S12 : Sep w [quC encI qa2 qc2 3 1 q2, rowOf (enc1 Value.bool) (some ⟨bd3, 0, none⟩) c.gStates_n 4 1 lS2, rowOf (enc1 Value.bool) (some ⟨bd7, 0, none⟩) c.gMoves_n 4 1 lM2, box bd9 [.slice (some ⟨bd3, 0, none⟩) ((List.replicate c.gStates_n false).length) c.gStates_n, .slice (some ⟨bd7, 0, none⟩) ((List.replicate c.gMoves_n false).length) c.gMoves_n] 53, box b2 [.slice none 0 0, .slice none 0 0] 53, box b1 [.slice c.gStates_a c.gStates_n c.gStates_c, .slice c.gInputs_a c.gInputs_n c.gInputs_c, .int .i64 c.gStart, .slice c.gMoves_a c.gMoves_n c.gMoves_c] 25] w10 := S11.trans T1
      clear T1 S11
      refine J.head (.tuple #[.agg #[.int .i64 (stepS c s a x), .int .i64 (stepA c s a x)], .int .i64 (stepI c s a x), .int .i64 0]) (by first | (simp only [stepV, fk6, fk7, fk8, reduceCtorEq, ↓reduceIte]; done) | simp [stepV, fk6, fk7, fk8]) ?_
      have hsb := stepI_bounds c s a x
      have hsm := (step_moves c s a x).2
      have hst := step_bounds hv x hri.1 hri.2
      refine J.run 4 K24_27 [(79, .int .i64 0), (78, .int .i64 (stepI c s a x)), (77, .agg #[.int .i64 (stepS c s a x), .int .i64 (stepA c s a x)]), (10, .int .i64 x), (8, .bool sb2), (9, .int .i64 a), (6, .slice qa2 q2.length qc2), (7, .int .i64 s), (4, .int .i64 last), (1, .pointer (some ⟨b1, 0, none⟩)), (2, .pointer (some ⟨b2, 0, none⟩)), (3, .pointer (some ⟨bd9, 0, none⟩))] w10 (by kernel_rfl) ?_
      refine J.new S12 11 [.int .i64 0, .int .i64 0] 37 (by kernel_rfl) ?_
      intro b4 w11 S13
      refine J.stBox S13 0 37 0 (.agg #[.int .i64 (stepS c s a x), .int .i64 (stepA c s a x)]) [.int .i64 (stepS c s a x), .int .i64 (stepA c s a x)] [box b4 [.int .i64 (stepS c s a x), .int .i64 (stepA c s a x)] 37, quC encI qa2 qc2 3 1 q2, rowOf (enc1 Value.bool) (some ⟨bd3, 0, none⟩) c.gStates_n 4 1 lS2, rowOf (enc1 Value.bool) (some ⟨bd7, 0, none⟩) c.gMoves_n 4 1 lM2, box bd9 [.slice (some ⟨bd3, 0, none⟩) ((List.replicate c.gStates_n false).length) c.gStates_n, .slice (some ⟨bd7, 0, none⟩) ((List.replicate c.gMoves_n false).length) c.gMoves_n] 53, box b2 [.slice none 0 0, .slice none 0 0] 53, box b1 [.slice c.gStates_a c.gStates_n c.gStates_c, .slice c.gInputs_a c.gInputs_n c.gInputs_c, .int .i64 c.gStart, .slice c.gMoves_a c.gMoves_n c.gMoves_c] 25] (by kernel_rfl) rfl (by kernel_rfl) (by kernel_rfl) rfl ?_
      intro w12 S14
      refine J.run 9 K24_28 [(81, .bool (decide ((stepI c s a x) < 0))), (12, .int .i64 (stepI c s a x)), (11, .pointer (some ⟨b4, 0, none⟩)), (10, .int .i64 x), (8, .bool sb2), (9, .int .i64 a), (6, .slice qa2 q2.length qc2), (7, .int .i64 s), (4, .int .i64 last), (1, .pointer (some ⟨b1, 0, none⟩)), (2, .pointer (some ⟨b2, 0, none⟩)), (3, .pointer (some ⟨bd9, 0, none⟩))] w12 (by kernel_rfl) ?_
      by_cases fk9 : (stepI c s a x) < 0
      ·skip
       refine J.head (.bool true) (congrArg Value.bool (decide_eq_true fk9)) ?_
       refine J.run 9 K24_29 [(69, .int .i64 (IntKind.wrap .i64 (x + 1))), (8, .bool true), (9, .int .i64 a), (6, .slice qa2 q2.length qc2), (7, .int .i64 s), (4, .int .i64 last), (1, .pointer (some ⟨b1, 0, none⟩)), (2, .pointer (some ⟨b2, 0, none⟩)), (3, .pointer (some ⟨bd9, 0, none⟩))] w12 (by kernel_rfl) ?_
       refine J.head (.int .i64 (x + 1)) (congrArg (Value.int .i64) (IntWalk.i64_in _ (by omega))) ?_
       refine J.run 3 K24_21 [(10, .int .i64 (x + 1)), (8, .bool true), (9, .int .i64 a), (6, .slice qa2 q2.length qc2), (7, .int .i64 s), (4, .int .i64 last), (1, .pointer (some ⟨b1, 0, none⟩)), (2, .pointer (some ⟨b2, 0, none⟩)), (3, .pointer (some ⟨bd9, 0, none⟩))] w12 (by kernel_rfl) ?_
       have S15 : Sep w [quC encI qa2 qc2 3 1 q2, rowOf (enc1 Value.bool) (some ⟨bd3, 0, none⟩) c.gStates_n 4 1 lS2, rowOf (enc1 Value.bool) (some ⟨bd7, 0, none⟩) c.gMoves_n 4 1 lM2, box bd9 [.slice (some ⟨bd3, 0, none⟩) ((List.replicate c.gStates_n false).length) c.gStates_n, .slice (some ⟨bd7, 0, none⟩) ((List.replicate c.gMoves_n false).length) c.gMoves_n] 53, box b2 [.slice none 0 0, .slice none 0 0] 53, box b1 [.slice c.gStates_a c.gStates_n c.gStates_c, .slice c.gInputs_a c.gInputs_n c.gInputs_c, .int .i64 c.gStart, .slice c.gMoves_a c.gMoves_n c.gMoves_c] 25] w12 := S14.erase 0
       clear S14
       refine J.run 0 K24_21 [(10, .int .i64 (x + 1)), (8, .bool true), (9, .int .i64 a), (6, .slice qa2 q2.length qc2), (7, .int .i64 s), (4, .int .i64 last), (1, .pointer (some ⟨b1, 0, none⟩)), (2, .pointer (some ⟨b2, 0, none⟩)), (3, .pointer (some ⟨bd9, 0, none⟩))] w12 (by kernel_rfl) ?_
       exact ih4 _ (show ((2 : Int) ^ c.gInputs_n - (x + 1)).toNat < mm4 from by omega) qa2 qc2 q2 lS2 lM2 true (x + 1) w12 (by omega) (hE2) (hS2) (hP2) (px_neg hPX x0.1 fk9) (by omega) S15 rfl
      refine J.head (.bool false) (congrArg Value.bool (decide_eq_false fk9)) ?_
      have hto : stepS c s a x = toM c (stepI c s a x) := (hsm fk9).1
      refine J.run 5 K24_30 [(82, .pointer (some ⟨bd9, 1, none⟩)), (12, .int .i64 (stepI c s a x)), (11, .pointer (some ⟨b4, 0, none⟩)), (10, .int .i64 x), (8, .bool sb2), (9, .int .i64 a), (6, .slice qa2 q2.length qc2), (7, .int .i64 s), (4, .int .i64 last), (1, .pointer (some ⟨b1, 0, none⟩)), (2, .pointer (some ⟨b2, 0, none⟩)), (3, .pointer (some ⟨bd9, 0, none⟩))] w12 (by kernel_rfl) ?_
      refine J.ok (OK.ldBox S14 4 83 51 1 (.slice (some ⟨bd7, 0, none⟩) ((List.replicate c.gMoves_n false).length) c.gMoves_n) (by kernel_rfl) rfl (by kernel_rfl)) ?_
      refine J.run 1 K24_31 [(84, .int .i64 (stepI c s a x)), (83, .slice (some ⟨bd7, 0, none⟩) ((List.replicate c.gMoves_n false).length) c.gMoves_n), (11, .pointer (some ⟨b4, 0, none⟩)), (10, .int .i64 x), (8, .bool sb2), (9, .int .i64 a), (6, .slice qa2 q2.length qc2), (7, .int .i64 s), (4, .int .i64 last), (1, .pointer (some ⟨b1, 0, none⟩)), (2, .pointer (some ⟨b2, 0, none⟩)), (3, .pointer (some ⟨bd9, 0, none⟩))] w12 (by kernel_rfl) ?_
      obtain ⟨p4, hp4⟩ := row1_addr (S14.nth 3 rfl) (show 0 < (lM2).length by first | omega | (simp; omega))
      refine J.ok (OK.index 85 51 1 (some ⟨bd7, 0, none⟩) p4 ((List.replicate c.gMoves_n false).length) (stepI c s a x).toNat (stepI c s a x) (p4.add (stepI c s a x).toNat) (by kernel_rfl) (by kernel_rfl) hp4 (by omega) (by first | omega | (simp; omega)) (by rw [Nat.mul_one])) ?_
      refine J.stRow1 Value.bool bool_one S14 3 lM2 4 p4 (stepI c s a x).toNat true rfl (by kernel_rfl) hp4 (by first | omega | (simp; omega)) (by kernel_rfl) ?_
      intro w13 S16
      replace S16 : Sep w [box b4 [.int .i64 (stepS c s a x), .int .i64 (stepA c s a x)] 37, quC encI qa2 qc2 3 1 q2, rowOf (enc1 Value.bool) (some ⟨bd3, 0, none⟩) c.gStates_n 4 1 lS2, rowOf (enc1 Value.bool) (some ⟨bd7, 0, none⟩) c.gMoves_n 4 1 (lM2.set (stepI c s a x).toNat true), box bd9 [.slice (some ⟨bd3, 0, none⟩) ((List.replicate c.gStates_n false).length) c.gStates_n, .slice (some ⟨bd7, 0, none⟩) ((List.replicate c.gMoves_n false).length) c.gMoves_n] 53, box b2 [.slice none 0 0, .slice none 0 0] 53, box b1 [.slice c.gStates_a c.gStates_n c.gStates_c, .slice c.gInputs_a c.gInputs_n c.gInputs_c, .int .i64 c.gStart, .slice c.gMoves_a c.gMoves_n c.gMoves_c] 25] w13 := S16
      refine J.run 4 K24_32 [(86, .pointer (some ⟨bd9, 0, none⟩)), (11, .pointer (some ⟨b4, 0, none⟩)), (10, .int .i64 x), (8, .bool sb2), (9, .int .i64 a), (6, .slice qa2 q2.length qc2), (7, .int .i64 s), (4, .int .i64 last), (1, .pointer (some ⟨b1, 0, none⟩)), (2, .pointer (some ⟨b2, 0, none⟩)), (3, .pointer (some ⟨bd9, 0, none⟩))] w13 (by kernel_rfl) ?_
      refine J.ok (OK.ldBox S16 4 87 51 0 (.slice (some ⟨bd3, 0, none⟩) ((List.replicate c.gStates_n false).length) c.gStates_n) (by kernel_rfl) rfl (by kernel_rfl)) ?_
      refine J.run 1 K24_33 [(88, .pointer (some ⟨b4, 0, none⟩)), (87, .slice (some ⟨bd3, 0, none⟩) ((List.replicate c.gStates_n false).length) c.gStates_n), (11, .pointer (some ⟨b4, 0, none⟩)), (10, .int .i64 x), (8, .bool sb2), (9, .int .i64 a), (6, .slice qa2 q2.length qc2), (7, .int .i64 s), (4, .int .i64 last), (1, .pointer (some ⟨b1, 0, none⟩)), (2, .pointer (some ⟨b2, 0, none⟩)), (3, .pointer (some ⟨bd9, 0, none⟩))] w13 (by kernel_rfl) ?_
      refine J.ok (OK.ldBox S16 0 89 3 0 (.int .i64 (stepS c s a x)) (by kernel_rfl) rfl (by kernel_rfl)) ?_
      obtain ⟨p5, hp5⟩ := row1_addr (S16.nth 2 rfl) (show 0 < (lS2).length by first | omega | (simp; omega))
      refine J.ok (OK.index 90 51 1 (some ⟨bd3, 0, none⟩) p5 ((List.replicate c.gStates_n false).length) (stepS c s a x).toNat (stepS c s a x) (p5.add (stepS c s a x).toNat) (by kernel_rfl) (by kernel_rfl) hp5 (by omega) (by first | omega | (simp; omega)) (by rw [Nat.mul_one])) ?_
      refine J.ok (OK.ldCell 91 4 (p5.add (stepS c s a x).toNat) (.bool (lS2.getD (stepS c s a x).toNat false)) (by kernel_rfl) (by kernel_rfl) (row1_cell (g := Value.bool) S16 2 rfl hp5 false (stepS c s a x).toNat (by first | omega | (simp; omega)))) ?_
      refine J.run 2 K24_34 [(92, .bool (!(lS2.getD (stepS c s a x).toNat false))), (11, .pointer (some ⟨b4, 0, none⟩)), (10, .int .i64 x), (8, .bool sb2), (9, .int .i64 a), (6, .slice qa2 q2.length qc2), (7, .int .i64 s), (4, .int .i64 last), (1, .pointer (some ⟨b1, 0, none⟩)), (2, .pointer (some ⟨b2, 0, none⟩)), (3, .pointer (some ⟨bd9, 0, none⟩))] w13 (by kernel_rfl) ?_
      rcases Bool.eq_false_or_eq_true (lS2.getD (stepS c s a x).toNat false) with fk10 | fk10
      ·skip
       refine J.head (.bool false) (congrArg Value.bool (by rw [fk10]; rfl)) ?_
       refine J.run 6 K24_35 [(69, .int .i64 (IntKind.wrap .i64 (x + 1))), (8, .bool sb2), (9, .int .i64 a), (6, .slice qa2 q2.length qc2), (7, .int .i64 s), (4, .int .i64 last), (1, .pointer (some ⟨b1, 0, none⟩)), (2, .pointer (some ⟨b2, 0, none⟩)), (3, .pointer (some ⟨bd9, 0, none⟩))] w13 (by kernel_rfl) ?_
       refine J.head (.int .i64 (x + 1)) (congrArg (Value.int .i64) (IntWalk.i64_in _ (by omega))) ?_
       refine J.run 3 K24_21 [(10, .int .i64 (x + 1)), (8, .bool sb2), (9, .int .i64 a), (6, .slice qa2 q2.length qc2), (7, .int .i64 s), (4, .int .i64 last), (1, .pointer (some ⟨b1, 0, none⟩)), (2, .pointer (some ⟨b2, 0, none⟩)), (3, .pointer (some ⟨bd9, 0, none⟩))] w13 (by kernel_rfl) ?_
       have S17 : Sep w [quC encI qa2 qc2 3 1 q2, rowOf (enc1 Value.bool) (some ⟨bd3, 0, none⟩) c.gStates_n 4 1 lS2, rowOf (enc1 Value.bool) (some ⟨bd7, 0, none⟩) c.gMoves_n 4 1 (lM2.set (stepI c s a x).toNat true), box bd9 [.slice (some ⟨bd3, 0, none⟩) ((List.replicate c.gStates_n false).length) c.gStates_n, .slice (some ⟨bd7, 0, none⟩) ((List.replicate c.gMoves_n false).length) c.gMoves_n] 53, box b2 [.slice none 0 0, .slice none 0 0] 53, box b1 [.slice c.gStates_a c.gStates_n c.gStates_c, .slice c.gInputs_a c.gInputs_n c.gInputs_c, .int .i64 c.gStart, .slice c.gMoves_a c.gMoves_n c.gMoves_c] 25] w13 := S16.erase 0
       clear S16
       refine J.run 0 K24_21 [(10, .int .i64 (x + 1)), (8, .bool sb2), (9, .int .i64 a), (6, .slice qa2 q2.length qc2), (7, .int .i64 s), (4, .int .i64 last), (1, .pointer (some ⟨b1, 0, none⟩)), (2, .pointer (some ⟨b2, 0, none⟩)), (3, .pointer (some ⟨bd9, 0, none⟩))] w13 (by kernel_rfl) ?_
       exact ih4 _ (show ((2 : Int) ^ c.gInputs_n - (x + 1)).toNat < mm4 from by omega) qa2 qc2 q2 lS2 (lM2.set (stepI c s a x).toNat true) sb2 (x + 1) w13 (by omega) (einv_take hE2 hra hxi rfl (by omega)) (hS2) (pa_mono (fun _ h_ => h_) (fun j_ h_ => (getT_set (l := lM2) (by omega) (by omega) j_).2 (.inl h_)) hP2) (px_old hPX x0.1 fk9 (by omega) hto (by omega) fk10) (by omega) S17 rfl
      refine J.head (.bool true) (congrArg Value.bool (by rw [fk10]; rfl)) ?_
      refine J.run 4 K24_36 [(93, .pointer (some ⟨bd9, 0, none⟩)), (11, .pointer (some ⟨b4, 0, none⟩)), (10, .int .i64 x), (8, .bool sb2), (9, .int .i64 a), (6, .slice qa2 q2.length qc2), (7, .int .i64 s), (4, .int .i64 last), (1, .pointer (some ⟨b1, 0, none⟩)), (2, .pointer (some ⟨b2, 0, none⟩)), (3, .pointer (some ⟨bd9, 0, none⟩))] w13 (by kernel_rfl) ?_
      refine J.ok (OK.ldBox S16 4 94 51 0 (.slice (some ⟨bd3, 0, none⟩) ((List.replicate c.gStates_n false).length) c.gStates_n) (by kernel_rfl) rfl (by kernel_rfl)) ?_
      refine J.run 1 K24_37 [(95, .pointer (some ⟨b4, 0, none⟩)), (94, .slice (some ⟨bd3, 0, none⟩) ((List.replicate c.gStates_n false).length) c.gStates_n), (11, .pointer (some ⟨b4, 0, none⟩)), (10, .int .i64 x), (8, .bool sb2), (9, .int .i64 a), (6, .slice qa2 q2.length qc2), (7, .int .i64 s), (4, .int .i64 last), (1, .pointer (some ⟨b1, 0, none⟩)), (2, .pointer (some ⟨b2, 0, none⟩)), (3, .pointer (some ⟨bd9, 0, none⟩))] w13 (by kernel_rfl) ?_
      refine J.ok (OK.ldBox S16 0 96 3 0 (.int .i64 (stepS c s a x)) (by kernel_rfl) rfl (by kernel_rfl)) ?_
      refine J.ok (OK.index 97 51 1 (some ⟨bd3, 0, none⟩) p5 ((List.replicate c.gStates_n false).length) (stepS c s a x).toNat (stepS c s a x) (p5.add (stepS c s a x).toNat) (by kernel_rfl) (by kernel_rfl) hp5 (by omega) (by first | omega | (simp; omega)) (by rw [Nat.mul_one])) ?_
      refine J.stRow1 Value.bool bool_one S16 2 lS2 4 p5 (stepS c s a x).toNat true rfl (by kernel_rfl) hp5 (by first | omega | (simp; omega)) (by kernel_rfl) ?_
      intro w14 S18
      replace S18 : Sep w [box b4 [.int .i64 (stepS c s a x), .int .i64 (stepA c s a x)] 37, quC encI qa2 qc2 3 1 q2, rowOf (enc1 Value.bool) (some ⟨bd3, 0, none⟩) c.gStates_n 4 1 (lS2.set (stepS c s a x).toNat true), rowOf (enc1 Value.bool) (some ⟨bd7, 0, none⟩) c.gMoves_n 4 1 (lM2.set (stepI c s a x).toNat true), box bd9 [.slice (some ⟨bd3, 0, none⟩) ((List.replicate c.gStates_n false).length) c.gStates_n, .slice (some ⟨bd7, 0, none⟩) ((List.replicate c.gMoves_n false).length) c.gMoves_n] 53, box b2 [.slice none 0 0, .slice none 0 0] 53, box b1 [.slice c.gStates_a c.gStates_n c.gStates_c, .slice c.gInputs_a c.gInputs_n c.gInputs_c, .int .i64 c.gStart, .slice c.gMoves_a c.gMoves_n c.gMoves_c] 25] w14 := S18
      refine J.run 4 K24_38 [(99, .pointer (some ⟨b4, 0, none⟩)), (98, .slice qa2 q2.length qc2), (10, .int .i64 x), (8, .bool sb2), (9, .int .i64 a), (7, .int .i64 s), (4, .int .i64 last), (1, .pointer (some ⟨b1, 0, none⟩)), (2, .pointer (some ⟨b2, 0, none⟩)), (3, .pointer (some ⟨bd9, 0, none⟩))] w14 (by kernel_rfl) ?_
      refine J.ok (OK.ldBox S18 0 100 3 0 (.int .i64 (stepS c s a x)) (by kernel_rfl) rfl (by kernel_rfl)) ?_
      refine J.newSlice S18 101 1 [.int .i64 (stepS c s a x)] 3 (by kernel_rfl) ?_
      intro b5 w15 S19
      refine J.appendQ encI S19 2 q2 (stepS c s a x) 102 26 (.int .i64 0) 8 ⟨b5, 0, none⟩ 1 rfl (by kernel_rfl) (by kernel_rfl) (by kernel_rfl) (by kernel_rfl) (by decide) (fun _ => rfl) (box_cells (S19.nth 0 rfl)) (by kernel_rfl) (⟨by omega, by omega⟩) ?_
      intro qa1 qc1 w16 S20
      replace S20 : Sep w [box b5 [.int .i64 (stepS c s a x)] 3, box b4 [.int .i64 (stepS c s a x), .int .i64 (stepA c s a x)] 37, quC encI qa1 qc1 3 1 (q2 ++ [stepS c s a x]), rowOf (enc1 Value.bool) (some ⟨bd3, 0, none⟩) c.gStates_n 4 1 (lS2.set (stepS c s a x).toNat true), rowOf (enc1 Value.bool) (some ⟨bd7, 0, none⟩) c.gMoves_n 4 1 (lM2.set (stepI c s a x).toNat true), box bd9 [.slice (some ⟨bd3, 0, none⟩) ((List.replicate c.gStates_n false).length) c.gStates_n, .slice (some ⟨bd7, 0, none⟩) ((List.replicate c.gMoves_n false).length) c.gMoves_n] 53, box b2 [.slice none 0 0, .slice none 0 0] 53, box b1 [.slice c.gStates_a c.gStates_n c.gStates_c, .slice c.gInputs_a c.gInputs_n c.gInputs_c, .int .i64 c.gStart, .slice c.gMoves_a c.gMoves_n c.gMoves_c] 25] w16 := S20
      have S21 : Sep w [box b4 [.int .i64 (stepS c s a x), .int .i64 (stepA c s a x)] 37, quC encI qa1 qc1 3 1 (q2 ++ [stepS c s a x]), rowOf (enc1 Value.bool) (some ⟨bd3, 0, none⟩) c.gStates_n 4 1 (lS2.set (stepS c s a x).toNat true), rowOf (enc1 Value.bool) (some ⟨bd7, 0, none⟩) c.gMoves_n 4 1 (lM2.set (stepI c s a x).toNat true), box bd9 [.slice (some ⟨bd3, 0, none⟩) ((List.replicate c.gStates_n false).length) c.gStates_n, .slice (some ⟨bd7, 0, none⟩) ((List.replicate c.gMoves_n false).length) c.gMoves_n] 53, box b2 [.slice none 0 0, .slice none 0 0] 53, box b1 [.slice c.gStates_a c.gStates_n c.gStates_c, .slice c.gInputs_a c.gInputs_n c.gInputs_c, .int .i64 c.gStart, .slice c.gMoves_a c.gMoves_n c.gMoves_c] 25] w16 := S20.erase 0
      clear S20
      refine J.run 6 K24_39 [(69, .int .i64 (IntKind.wrap .i64 (x + 1))), (6, .slice qa1 ((q2 ++ [stepS c s a x]).length) qc1), (8, .bool sb2), (9, .int .i64 a), (7, .int .i64 s), (4, .int .i64 last), (1, .pointer (some ⟨b1, 0, none⟩)), (2, .pointer (some ⟨b2, 0, none⟩)), (3, .pointer (some ⟨bd9, 0, none⟩))] w16 (by kernel_rfl) ?_
      refine J.head (.int .i64 (x + 1)) (congrArg (Value.int .i64) (IntWalk.i64_in _ (by omega))) ?_
      refine J.run 3 K24_21 [(10, .int .i64 (x + 1)), (6, .slice qa1 ((q2 ++ [stepS c s a x]).length) qc1), (8, .bool sb2), (9, .int .i64 a), (7, .int .i64 s), (4, .int .i64 last), (1, .pointer (some ⟨b1, 0, none⟩)), (2, .pointer (some ⟨b2, 0, none⟩)), (3, .pointer (some ⟨bd9, 0, none⟩))] w16 (by kernel_rfl) ?_
      have S22 : Sep w [quC encI qa1 qc1 3 1 (q2 ++ [stepS c s a x]), rowOf (enc1 Value.bool) (some ⟨bd3, 0, none⟩) c.gStates_n 4 1 (lS2.set (stepS c s a x).toNat true), rowOf (enc1 Value.bool) (some ⟨bd7, 0, none⟩) c.gMoves_n 4 1 (lM2.set (stepI c s a x).toNat true), box bd9 [.slice (some ⟨bd3, 0, none⟩) ((List.replicate c.gStates_n false).length) c.gStates_n, .slice (some ⟨bd7, 0, none⟩) ((List.replicate c.gMoves_n false).length) c.gMoves_n] 53, box b2 [.slice none 0 0, .slice none 0 0] 53, box b1 [.slice c.gStates_a c.gStates_n c.gStates_c, .slice c.gInputs_a c.gInputs_n c.gInputs_c, .int .i64 c.gStart, .slice c.gMoves_a c.gMoves_n c.gMoves_c] 25] w16 := S21.erase 0
      clear S21
      refine J.run 0 K24_21 [(10, .int .i64 (x + 1)), (8, .bool sb2), (9, .int .i64 a), (6, .slice qa1 ((q2 ++ [stepS c s a x]).length) qc1), (7, .int .i64 s), (4, .int .i64 last), (1, .pointer (some ⟨b1, 0, none⟩)), (2, .pointer (some ⟨b2, 0, none⟩)), (3, .pointer (some ⟨bd9, 0, none⟩))] w16 (by kernel_rfl) ?_
      exact ih4 _ (show ((2 : Int) ^ c.gInputs_n - (x + 1)).toNat < mm4 from by omega) qa1 qc1 (q2 ++ [stepS c s a x]) (lS2.set (stepS c s a x).toNat true) (lM2.set (stepI c s a x).toNat true) sb2 (x + 1) w16 (by omega) (by rw [hto]; exact einv_mark hv (einv_take hE2 hra hxi rfl (by omega)) hra hxi rfl (by omega)) ((getT_set (l := lS2) (by omega) (by omega) s).2 (.inl hS2)) (pa_mono (fun j_ h_ => (getT_set (l := lS2) (by omega) (by omega) j_).2 (.inl h_)) (fun j_ h_ => (getT_set (l := lM2) (by omega) (by omega) j_).2 (.inl h_)) hP2) (px_new hPX x0.1 fk9 (by omega) hto (by omega) (by omega)) ((by have hfl := flN_set (l := lS2) (t := (stepS c s a x).toNat) (by omega) fk10; rw [List.length_append, List.length_singleton]; omega)) S22 rfl
     exact L24_4 _ qa1 qc1 q1 lS1 lM1 false 0 w8 (by omega) (hE1) (hS1) (hPt) (px_zero) (by omega) S10 rfl
    exact L24_3 _ (subA qa qc 1 1) (qc - 1) (q.drop 1) lS lM true 0 w7 (by omega) (hp.1) (hp.2) (pa_zero) (by omega) S9 rfl
   exact L24_2 _ (some ⟨b3, 0, none⟩) ([c.gStart].length) ([c.gStart]) ((List.replicate c.gStates_n false).set (c.gStart).toNat true) (List.replicate c.gMoves_n false) w6 (einv_start hv) ((by have := flN_le ((List.replicate c.gStates_n false).set c.gStart.toNat true); rw [List.length_set, List.length_replicate] at this; show _ + 1 ≤ _; omega)) S7 rfl
  exact L24_1 _ 0 0 w3 (by omega) (by omega) (by omega) (by intro j hj; simp at hj) S3 rfl
 have W2 : ∀ (bd9 : Nat) (bd3 : Nat) (bd7 : Nat) (w18 : World), Sep w [rowOf (enc1 Value.bool) (some ⟨bd3, 0, none⟩) c.gStates_n 4 1 (List.replicate c.gStates_n false), rowOf (enc1 Value.bool) (some ⟨bd7, 0, none⟩) c.gMoves_n 4 1 (List.replicate c.gMoves_n false), box bd9 [.slice none 0 0, .slice none 0 0] 53, box b2 [.slice none 0 0, .slice none 0 0] 53, box b1 [.slice c.gStates_a c.gStates_n c.gStates_c, .slice c.gInputs_a c.gInputs_n c.gInputs_c, .int .i64 c.gStart, .slice c.gMoves_a c.gMoves_n c.gMoves_c] 25] w18 → WA Try.prog 24 104 R K24_1 (fun w_ => Sep w [box b2 [.slice none 0 0, .slice none 0 0] 53, box b1 [.slice c.gStates_a c.gStates_n c.gStates_c, .slice c.gInputs_a c.gInputs_n c.gInputs_c, .int .i64 c.gStart, .slice c.gMoves_a c.gMoves_n c.gMoves_c] 25] w_) 1 #[true, true, true, true, true, true, true, true, true, true, false] [(1, .pointer (some ⟨b1, 0, none⟩)), (2, .pointer (some ⟨b2, 0, none⟩)), (3, .pointer (some ⟨bd9, 0, none⟩)), (22, .agg #[.slice (some ⟨bd3, 0, none⟩) ((List.replicate c.gStates_n false).length) c.gStates_n, .slice (some ⟨bd7, 0, none⟩) ((List.replicate c.gMoves_n false).length) c.gMoves_n])] w18 := by
  intro bd9 bd3 bd7 w18 S25
  refine WA.all [10] (by kernel_rfl) rfl ⟨?_, trivial⟩
  refine WO.set #[true, true, true, true, true, true, true, true, true, true, true] (by kernel_rfl) ?_
  refine WO.stBox S25 2 53 0 (.agg #[.slice (some ⟨bd3, 0, none⟩) ((List.replicate c.gStates_n false).length) c.gStates_n, .slice (some ⟨bd7, 0, none⟩) ((List.replicate c.gMoves_n false).length) c.gMoves_n]) [.slice (some ⟨bd3, 0, none⟩) ((List.replicate c.gStates_n false).length) c.gStates_n, .slice (some ⟨bd7, 0, none⟩) ((List.replicate c.gMoves_n false).length) c.gMoves_n] [rowOf (enc1 Value.bool) (some ⟨bd3, 0, none⟩) c.gStates_n 4 1 (List.replicate c.gStates_n false), rowOf (enc1 Value.bool) (some ⟨bd7, 0, none⟩) c.gMoves_n 4 1 (List.replicate c.gMoves_n false), box bd9 [.slice (some ⟨bd3, 0, none⟩) ((List.replicate c.gStates_n false).length) c.gStates_n, .slice (some ⟨bd7, 0, none⟩) ((List.replicate c.gMoves_n false).length) c.gMoves_n] 53, box b2 [.slice none 0 0, .slice none 0 0] 53, box b1 [.slice c.gStates_a c.gStates_n c.gStates_c, .slice c.gInputs_a c.gInputs_n c.gInputs_c, .int .i64 c.gStart, .slice c.gMoves_a c.gMoves_n c.gMoves_c] 25] (by kernel_rfl) rfl (by kernel_rfl) (by kernel_rfl) rfl ?_
  intro w19 S26
  refine WB.mk (((S26.erase 2).erase 1).erase 0) ?_
  refine WA.weaken (env' := [(1, .pointer (some ⟨b1, 0, none⟩)), (2, .pointer (some ⟨b2, 0, none⟩)), (3, .pointer (some ⟨bd9, 0, none⟩))]) (by kernel_rfl) ?_
  exact W1 bd9 bd3 bd7 w19 S26
 have W3 : ∀ (bd3 : Nat) (bd7 : Nat) (w20 : World), Sep w [rowOf (enc1 Value.bool) (some ⟨bd3, 0, none⟩) c.gStates_n 4 1 (List.replicate c.gStates_n false), rowOf (enc1 Value.bool) (some ⟨bd7, 0, none⟩) c.gMoves_n 4 1 (List.replicate c.gMoves_n false), box b2 [.slice none 0 0, .slice none 0 0] 53, box b1 [.slice c.gStates_a c.gStates_n c.gStates_c, .slice c.gInputs_a c.gInputs_n c.gInputs_c, .int .i64 c.gStart, .slice c.gMoves_a c.gMoves_n c.gMoves_c] 25] w20 → WA Try.prog 24 104 R K24_1 (fun w_ => Sep w [box b2 [.slice none 0 0, .slice none 0 0] 53, box b1 [.slice c.gStates_a c.gStates_n c.gStates_c, .slice c.gInputs_a c.gInputs_n c.gInputs_c, .int .i64 c.gStart, .slice c.gMoves_a c.gMoves_n c.gMoves_c] 25] w_) 2 #[true, true, true, true, true, true, true, true, true, false, false] [(1, .pointer (some ⟨b1, 0, none⟩)), (2, .pointer (some ⟨b2, 0, none⟩)), (22, .agg #[.slice (some ⟨bd3, 0, none⟩) ((List.replicate c.gStates_n false).length) c.gStates_n, .slice (some ⟨bd7, 0, none⟩) ((List.replicate c.gMoves_n false).length) c.gMoves_n])] w20 := by
  intro bd3 bd7 w20 S27
  refine WA.all [9] (by kernel_rfl) rfl ⟨?_, trivial⟩
  refine WO.set #[true, true, true, true, true, true, true, true, true, true, false] (by kernel_rfl) ?_
  refine WO.new S27 3 [.slice none 0 0, .slice none 0 0] 53 (by kernel_rfl) ?_
  intro bd9 w21 S28
  refine WB.mk (((S28.erase 2).erase 1).erase 0) ?_
  refine WA.weaken (env' := [(1, .pointer (some ⟨b1, 0, none⟩)), (2, .pointer (some ⟨b2, 0, none⟩)), (3, .pointer (some ⟨bd9, 0, none⟩)), (22, .agg #[.slice (some ⟨bd3, 0, none⟩) ((List.replicate c.gStates_n false).length) c.gStates_n, .slice (some ⟨bd7, 0, none⟩) ((List.replicate c.gMoves_n false).length) c.gMoves_n])]) (by kernel_rfl) ?_
  have S29 : Sep w [box bd9 [.slice none 0 0, .slice none 0 0] 53, rowOf (enc1 Value.bool) (some ⟨bd3, 0, none⟩) c.gStates_n 4 1 (List.replicate c.gStates_n false), rowOf (enc1 Value.bool) (some ⟨bd7, 0, none⟩) c.gMoves_n 4 1 (List.replicate c.gMoves_n false), box b2 [.slice none 0 0, .slice none 0 0] 53, box b1 [.slice c.gStates_a c.gStates_n c.gStates_c, .slice c.gInputs_a c.gInputs_n c.gInputs_c, .int .i64 c.gStart, .slice c.gMoves_a c.gMoves_n c.gMoves_c] 25] w21 := S28.front 0 rfl
  have S30 : Sep w [rowOf (enc1 Value.bool) (some ⟨bd7, 0, none⟩) c.gMoves_n 4 1 (List.replicate c.gMoves_n false), box bd9 [.slice none 0 0, .slice none 0 0] 53, rowOf (enc1 Value.bool) (some ⟨bd3, 0, none⟩) c.gStates_n 4 1 (List.replicate c.gStates_n false), box b2 [.slice none 0 0, .slice none 0 0] 53, box b1 [.slice c.gStates_a c.gStates_n c.gStates_c, .slice c.gInputs_a c.gInputs_n c.gInputs_c, .int .i64 c.gStart, .slice c.gMoves_a c.gMoves_n c.gMoves_c] 25] w21 := S29.front 2 rfl
  have S31 : Sep w [rowOf (enc1 Value.bool) (some ⟨bd3, 0, none⟩) c.gStates_n 4 1 (List.replicate c.gStates_n false), rowOf (enc1 Value.bool) (some ⟨bd7, 0, none⟩) c.gMoves_n 4 1 (List.replicate c.gMoves_n false), box bd9 [.slice none 0 0, .slice none 0 0] 53, box b2 [.slice none 0 0, .slice none 0 0] 53, box b1 [.slice c.gStates_a c.gStates_n c.gStates_c, .slice c.gInputs_a c.gInputs_n c.gInputs_c, .int .i64 c.gStart, .slice c.gMoves_a c.gMoves_n c.gMoves_c] 25] w21 := S30.front 2 rfl
  exact W2 bd9 bd3 bd7 w21 S31
 have W4 : ∀ (bd9 : Nat) (bd3 : Nat) (w22 : World), Sep w [rowOf (enc1 Value.bool) (some ⟨bd3, 0, none⟩) c.gStates_n 4 1 (List.replicate c.gStates_n false), box bd9 [.slice none 0 0, .slice none 0 0] 53, box b2 [.slice none 0 0, .slice none 0 0] 53, box b1 [.slice c.gStates_a c.gStates_n c.gStates_c, .slice c.gInputs_a c.gInputs_n c.gInputs_c, .int .i64 c.gStart, .slice c.gMoves_a c.gMoves_n c.gMoves_c] 25] w22 → WA Try.prog 24 104 R K24_1 (fun w_ => Sep w [box b2 [.slice none 0 0, .slice none 0 0] 53, box b1 [.slice c.gStates_a c.gStates_n c.gStates_c, .slice c.gInputs_a c.gInputs_n c.gInputs_c, .int .i64 c.gStart, .slice c.gMoves_a c.gMoves_n c.gMoves_c] 25] w_) 3 #[true, true, true, true, true, true, true, false, false, true, false] [(1, .pointer (some ⟨b1, 0, none⟩)), (2, .pointer (some ⟨b2, 0, none⟩)), (3, .pointer (some ⟨bd9, 0, none⟩)), (17, .slice (some ⟨bd3, 0, none⟩) ((List.replicate c.gStates_n false).length) c.gStates_n), (20, .int .i64 (c.gMoves_n : Int))] w22 := by
  intro bd9 bd3 w22 S32
  refine WA.all [7] (by kernel_rfl) rfl ⟨?_, trivial⟩
  refine WO.set #[true, true, true, true, true, true, true, true, false, true, false] (by kernel_rfl) ?_
  refine WO.make (enc1 Value.bool) false S32 21 51 4 1 (c.gMoves_n : Int) (c.gMoves_n : Int) c.gMoves_n (.bool false) 1 (by kernel_rfl) (by omega) (by omega) (by kernel_rfl) (by kernel_rfl) (by kernel_rfl) (by rfl) (by omega) ?_
  intro bd7 w23 S33
  refine WB.mk (((S33.erase 2).erase 1).erase 0) ?_
  refine WA.take 8 22 (.agg #[.slice (some ⟨bd3, 0, none⟩) ((List.replicate c.gStates_n false).length) c.gStates_n, .slice (some ⟨bd7, 0, none⟩) ((List.replicate c.gMoves_n false).length) c.gMoves_n]) #[true, true, true, true, true, true, true, true, true, true, false] (by kernel_rfl) (by kernel_rfl) (by kernel_rfl) (fun _ _ => by kernel_rfl) (by kernel_rfl) ?_
  refine WA.weaken (env' := [(1, .pointer (some ⟨b1, 0, none⟩)), (2, .pointer (some ⟨b2, 0, none⟩)), (3, .pointer (some ⟨bd9, 0, none⟩)), (22, .agg #[.slice (some ⟨bd3, 0, none⟩) ((List.replicate c.gStates_n false).length) c.gStates_n, .slice (some ⟨bd7, 0, none⟩) ((List.replicate c.gMoves_n false).length) c.gMoves_n])]) (by kernel_rfl) ?_
  have S34 : Sep w [rowOf (enc1 Value.bool) (some ⟨bd7, 0, none⟩) c.gMoves_n 4 1 (List.replicate c.gMoves_n false), rowOf (enc1 Value.bool) (some ⟨bd3, 0, none⟩) c.gStates_n 4 1 (List.replicate c.gStates_n false), box bd9 [.slice none 0 0, .slice none 0 0] 53, box b2 [.slice none 0 0, .slice none 0 0] 53, box b1 [.slice c.gStates_a c.gStates_n c.gStates_c, .slice c.gInputs_a c.gInputs_n c.gInputs_c, .int .i64 c.gStart, .slice c.gMoves_a c.gMoves_n c.gMoves_c] 25] w23 := S33.front 0 rfl
  have S35 : Sep w [rowOf (enc1 Value.bool) (some ⟨bd3, 0, none⟩) c.gStates_n 4 1 (List.replicate c.gStates_n false), rowOf (enc1 Value.bool) (some ⟨bd7, 0, none⟩) c.gMoves_n 4 1 (List.replicate c.gMoves_n false), box bd9 [.slice none 0 0, .slice none 0 0] 53, box b2 [.slice none 0 0, .slice none 0 0] 53, box b1 [.slice c.gStates_a c.gStates_n c.gStates_c, .slice c.gInputs_a c.gInputs_n c.gInputs_c, .int .i64 c.gStart, .slice c.gMoves_a c.gMoves_n c.gMoves_c] 25] w23 := S34.front 1 rfl
  exact W2 bd9 bd3 bd7 w23 S35
 have W5 : ∀ (bd9 : Nat) (bd7 : Nat) (w24 : World), Sep w [rowOf (enc1 Value.bool) (some ⟨bd7, 0, none⟩) c.gMoves_n 4 1 (List.replicate c.gMoves_n false), box bd9 [.slice none 0 0, .slice none 0 0] 53, box b2 [.slice none 0 0, .slice none 0 0] 53, box b1 [.slice c.gStates_a c.gStates_n c.gStates_c, .slice c.gInputs_a c.gInputs_n c.gInputs_c, .int .i64 c.gStart, .slice c.gMoves_a c.gMoves_n c.gMoves_c] 25] w24 → WA Try.prog 24 104 R K24_1 (fun w_ => Sep w [box b2 [.slice none 0 0, .slice none 0 0] 53, box b1 [.slice c.gStates_a c.gStates_n c.gStates_c, .slice c.gInputs_a c.gInputs_n c.gInputs_c, .int .i64 c.gStart, .slice c.gMoves_a c.gMoves_n c.gMoves_c] 25] w_) 3 #[true, true, true, false, true, true, true, true, false, true, false] [(1, .pointer (some ⟨b1, 0, none⟩)), (2, .pointer (some ⟨b2, 0, none⟩)), (3, .pointer (some ⟨bd9, 0, none⟩)), (16, .int .i64 (c.gStates_n : Int)), (21, .slice (some ⟨bd7, 0, none⟩) ((List.replicate c.gMoves_n false).length) c.gMoves_n)] w24 := by
  intro bd9 bd7 w24 S36
  refine WA.all [3] (by kernel_rfl) rfl ⟨?_, trivial⟩
  refine WO.set #[true, true, true, true, true, true, true, true, false, true, false] (by kernel_rfl) ?_
  refine WO.make (enc1 Value.bool) false S36 17 51 4 1 (c.gStates_n : Int) (c.gStates_n : Int) c.gStates_n (.bool false) 1 (by kernel_rfl) (by omega) (by omega) (by kernel_rfl) (by kernel_rfl) (by kernel_rfl) (by rfl) (by omega) ?_
  intro bd3 w25 S37
  refine WB.mk (((S37.erase 2).erase 1).erase 0) ?_
  refine WA.take 8 22 (.agg #[.slice (some ⟨bd3, 0, none⟩) ((List.replicate c.gStates_n false).length) c.gStates_n, .slice (some ⟨bd7, 0, none⟩) ((List.replicate c.gMoves_n false).length) c.gMoves_n]) #[true, true, true, true, true, true, true, true, true, true, false] (by kernel_rfl) (by kernel_rfl) (by kernel_rfl) (fun _ _ => by kernel_rfl) (by kernel_rfl) ?_
  refine WA.weaken (env' := [(1, .pointer (some ⟨b1, 0, none⟩)), (2, .pointer (some ⟨b2, 0, none⟩)), (3, .pointer (some ⟨bd9, 0, none⟩)), (22, .agg #[.slice (some ⟨bd3, 0, none⟩) ((List.replicate c.gStates_n false).length) c.gStates_n, .slice (some ⟨bd7, 0, none⟩) ((List.replicate c.gMoves_n false).length) c.gMoves_n])]) (by kernel_rfl) ?_
  exact W2 bd9 bd3 bd7 w25 S37
 have W6 : ∀ (bd3 : Nat) (w26 : World), Sep w [rowOf (enc1 Value.bool) (some ⟨bd3, 0, none⟩) c.gStates_n 4 1 (List.replicate c.gStates_n false), box b2 [.slice none 0 0, .slice none 0 0] 53, box b1 [.slice c.gStates_a c.gStates_n c.gStates_c, .slice c.gInputs_a c.gInputs_n c.gInputs_c, .int .i64 c.gStart, .slice c.gMoves_a c.gMoves_n c.gMoves_c] 25] w26 → WA Try.prog 24 104 R K24_1 (fun w_ => Sep w [box b2 [.slice none 0 0, .slice none 0 0] 53, box b1 [.slice c.gStates_a c.gStates_n c.gStates_c, .slice c.gInputs_a c.gInputs_n c.gInputs_c, .int .i64 c.gStart, .slice c.gMoves_a c.gMoves_n c.gMoves_c] 25] w_) 4 #[true, true, true, true, true, true, true, false, false, false, false] [(1, .pointer (some ⟨b1, 0, none⟩)), (2, .pointer (some ⟨b2, 0, none⟩)), (17, .slice (some ⟨bd3, 0, none⟩) ((List.replicate c.gStates_n false).length) c.gStates_n), (20, .int .i64 (c.gMoves_n : Int))] w26 := by
  intro bd3 w26 S38
  refine WA.all [7, 9] (by kernel_rfl) rfl ⟨?_, ?_, trivial⟩
  ·skip
   refine WO.set #[true, true, true, true, true, true, true, true, false, false, false] (by kernel_rfl) ?_
   refine WO.make (enc1 Value.bool) false S38 21 51 4 1 (c.gMoves_n : Int) (c.gMoves_n : Int) c.gMoves_n (.bool false) 1 (by kernel_rfl) (by omega) (by omega) (by kernel_rfl) (by kernel_rfl) (by kernel_rfl) (by rfl) (by omega) ?_
   intro bd7 w27 S39
   refine WB.mk ((S39.erase 1).erase 0) ?_
   refine WA.take 8 22 (.agg #[.slice (some ⟨bd3, 0, none⟩) ((List.replicate c.gStates_n false).length) c.gStates_n, .slice (some ⟨bd7, 0, none⟩) ((List.replicate c.gMoves_n false).length) c.gMoves_n]) #[true, true, true, true, true, true, true, true, true, false, false] (by kernel_rfl) (by kernel_rfl) (by kernel_rfl) (fun _ _ => by kernel_rfl) (by kernel_rfl) ?_
   refine WA.weaken (env' := [(1, .pointer (some ⟨b1, 0, none⟩)), (2, .pointer (some ⟨b2, 0, none⟩)), (22, .agg #[.slice (some ⟨bd3, 0, none⟩) ((List.replicate c.gStates_n false).length) c.gStates_n, .slice (some ⟨bd7, 0, none⟩) ((List.replicate c.gMoves_n false).length) c.gMoves_n])]) (by kernel_rfl) ?_
   have S40 : Sep w [rowOf (enc1 Value.bool) (some ⟨bd7, 0, none⟩) c.gMoves_n 4 1 (List.replicate c.gMoves_n false), rowOf (enc1 Value.bool) (some ⟨bd3, 0, none⟩) c.gStates_n 4 1 (List.replicate c.gStates_n false), box b2 [.slice none 0 0, .slice none 0 0] 53, box b1 [.slice c.gStates_a c.gStates_n c.gStates_c, .slice c.gInputs_a c.gInputs_n c.gInputs_c, .int .i64 c.gStart, .slice c.gMoves_a c.gMoves_n c.gMoves_c] 25] w27 := S39.front 0 rfl
   have S41 : Sep w [rowOf (enc1 Value.bool) (some ⟨bd3, 0, none⟩) c.gStates_n 4 1 (List.replicate c.gStates_n false), rowOf (enc1 Value.bool) (some ⟨bd7, 0, none⟩) c.gMoves_n 4 1 (List.replicate c.gMoves_n false), box b2 [.slice none 0 0, .slice none 0 0] 53, box b1 [.slice c.gStates_a c.gStates_n c.gStates_c, .slice c.gInputs_a c.gInputs_n c.gInputs_c, .int .i64 c.gStart, .slice c.gMoves_a c.gMoves_n c.gMoves_c] 25] w27 := S40.front 1 rfl
   exact W3 bd3 bd7 w27 S41
  refine WO.set #[true, true, true, true, true, true, true, false, false, true, false] (by kernel_rfl) ?_
  refine WO.new S38 3 [.slice none 0 0, .slice none 0 0] 53 (by kernel_rfl) ?_
  intro bd9 w28 S42
  refine WB.mk ((S42.erase 1).erase 0) ?_
  refine WA.weaken (env' := [(1, .pointer (some ⟨b1, 0, none⟩)), (2, .pointer (some ⟨b2, 0, none⟩)), (3, .pointer (some ⟨bd9, 0, none⟩)), (17, .slice (some ⟨bd3, 0, none⟩) ((List.replicate c.gStates_n false).length) c.gStates_n), (20, .int .i64 (c.gMoves_n : Int))]) (by kernel_rfl) ?_
  have S43 : Sep w [box bd9 [.slice none 0 0, .slice none 0 0] 53, rowOf (enc1 Value.bool) (some ⟨bd3, 0, none⟩) c.gStates_n 4 1 (List.replicate c.gStates_n false), box b2 [.slice none 0 0, .slice none 0 0] 53, box b1 [.slice c.gStates_a c.gStates_n c.gStates_c, .slice c.gInputs_a c.gInputs_n c.gInputs_c, .int .i64 c.gStart, .slice c.gMoves_a c.gMoves_n c.gMoves_c] 25] w28 := S42.front 0 rfl
  have S44 : Sep w [rowOf (enc1 Value.bool) (some ⟨bd3, 0, none⟩) c.gStates_n 4 1 (List.replicate c.gStates_n false), box bd9 [.slice none 0 0, .slice none 0 0] 53, box b2 [.slice none 0 0, .slice none 0 0] 53, box b1 [.slice c.gStates_a c.gStates_n c.gStates_c, .slice c.gInputs_a c.gInputs_n c.gInputs_c, .int .i64 c.gStart, .slice c.gMoves_a c.gMoves_n c.gMoves_c] 25] w28 := S43.front 1 rfl
  exact W4 bd9 bd3 w28 S44
 have W7 : ∀ (bd7 : Nat) (w29 : World), Sep w [rowOf (enc1 Value.bool) (some ⟨bd7, 0, none⟩) c.gMoves_n 4 1 (List.replicate c.gMoves_n false), box b2 [.slice none 0 0, .slice none 0 0] 53, box b1 [.slice c.gStates_a c.gStates_n c.gStates_c, .slice c.gInputs_a c.gInputs_n c.gInputs_c, .int .i64 c.gStart, .slice c.gMoves_a c.gMoves_n c.gMoves_c] 25] w29 → WA Try.prog 24 104 R K24_1 (fun w_ => Sep w [box b2 [.slice none 0 0, .slice none 0 0] 53, box b1 [.slice c.gStates_a c.gStates_n c.gStates_c, .slice c.gInputs_a c.gInputs_n c.gInputs_c, .int .i64 c.gStart, .slice c.gMoves_a c.gMoves_n c.gMoves_c] 25] w_) 4 #[true, true, true, false, true, true, true, true, false, false, false] [(1, .pointer (some ⟨b1, 0, none⟩)), (2, .pointer (some ⟨b2, 0, none⟩)), (16, .int .i64 (c.gStates_n : Int)), (21, .slice (some ⟨bd7, 0, none⟩) ((List.replicate c.gMoves_n false).length) c.gMoves_n)] w29 := by
  intro bd7 w29 S45
  refine WA.all [3, 9] (by kernel_rfl) rfl ⟨?_, ?_, trivial⟩
  ·skip
   refine WO.set #[true, true, true, true, true, true, true, true, false, false, false] (by kernel_rfl) ?_
   refine WO.make (enc1 Value.bool) false S45 17 51 4 1 (c.gStates_n : Int) (c.gStates_n : Int) c.gStates_n (.bool false) 1 (by kernel_rfl) (by omega) (by omega) (by kernel_rfl) (by kernel_rfl) (by kernel_rfl) (by rfl) (by omega) ?_
   intro bd3 w30 S46
   refine WB.mk ((S46.erase 1).erase 0) ?_
   refine WA.take 8 22 (.agg #[.slice (some ⟨bd3, 0, none⟩) ((List.replicate c.gStates_n false).length) c.gStates_n, .slice (some ⟨bd7, 0, none⟩) ((List.replicate c.gMoves_n false).length) c.gMoves_n]) #[true, true, true, true, true, true, true, true, true, false, false] (by kernel_rfl) (by kernel_rfl) (by kernel_rfl) (fun _ _ => by kernel_rfl) (by kernel_rfl) ?_
   refine WA.weaken (env' := [(1, .pointer (some ⟨b1, 0, none⟩)), (2, .pointer (some ⟨b2, 0, none⟩)), (22, .agg #[.slice (some ⟨bd3, 0, none⟩) ((List.replicate c.gStates_n false).length) c.gStates_n, .slice (some ⟨bd7, 0, none⟩) ((List.replicate c.gMoves_n false).length) c.gMoves_n])]) (by kernel_rfl) ?_
   exact W3 bd3 bd7 w30 S46
  refine WO.set #[true, true, true, false, true, true, true, true, false, true, false] (by kernel_rfl) ?_
  refine WO.new S45 3 [.slice none 0 0, .slice none 0 0] 53 (by kernel_rfl) ?_
  intro bd9 w31 S47
  refine WB.mk ((S47.erase 1).erase 0) ?_
  refine WA.weaken (env' := [(1, .pointer (some ⟨b1, 0, none⟩)), (2, .pointer (some ⟨b2, 0, none⟩)), (3, .pointer (some ⟨bd9, 0, none⟩)), (16, .int .i64 (c.gStates_n : Int)), (21, .slice (some ⟨bd7, 0, none⟩) ((List.replicate c.gMoves_n false).length) c.gMoves_n)]) (by kernel_rfl) ?_
  have S48 : Sep w [box bd9 [.slice none 0 0, .slice none 0 0] 53, rowOf (enc1 Value.bool) (some ⟨bd7, 0, none⟩) c.gMoves_n 4 1 (List.replicate c.gMoves_n false), box b2 [.slice none 0 0, .slice none 0 0] 53, box b1 [.slice c.gStates_a c.gStates_n c.gStates_c, .slice c.gInputs_a c.gInputs_n c.gInputs_c, .int .i64 c.gStart, .slice c.gMoves_a c.gMoves_n c.gMoves_c] 25] w31 := S47.front 0 rfl
  have S49 : Sep w [rowOf (enc1 Value.bool) (some ⟨bd7, 0, none⟩) c.gMoves_n 4 1 (List.replicate c.gMoves_n false), box bd9 [.slice none 0 0, .slice none 0 0] 53, box b2 [.slice none 0 0, .slice none 0 0] 53, box b1 [.slice c.gStates_a c.gStates_n c.gStates_c, .slice c.gInputs_a c.gInputs_n c.gInputs_c, .int .i64 c.gStart, .slice c.gMoves_a c.gMoves_n c.gMoves_c] 25] w31 := S48.front 1 rfl
  exact W5 bd9 bd7 w31 S49
 have W8 : ∀ (bd9 : Nat) (w32 : World), Sep w [box bd9 [.slice none 0 0, .slice none 0 0] 53, box b2 [.slice none 0 0, .slice none 0 0] 53, box b1 [.slice c.gStates_a c.gStates_n c.gStates_c, .slice c.gInputs_a c.gInputs_n c.gInputs_c, .int .i64 c.gStart, .slice c.gMoves_a c.gMoves_n c.gMoves_c] 25] w32 → WA Try.prog 24 104 R K24_1 (fun w_ => Sep w [box b2 [.slice none 0 0, .slice none 0 0] 53, box b1 [.slice c.gStates_a c.gStates_n c.gStates_c, .slice c.gInputs_a c.gInputs_n c.gInputs_c, .int .i64 c.gStart, .slice c.gMoves_a c.gMoves_n c.gMoves_c] 25] w_) 4 #[true, true, true, false, true, true, true, false, false, true, false] [(1, .pointer (some ⟨b1, 0, none⟩)), (2, .pointer (some ⟨b2, 0, none⟩)), (3, .pointer (some ⟨bd9, 0, none⟩)), (16, .int .i64 (c.gStates_n : Int)), (20, .int .i64 (c.gMoves_n : Int))] w32 := by
  intro bd9 w32 S50
  refine WA.all [3, 7] (by kernel_rfl) rfl ⟨?_, ?_, trivial⟩
  ·skip
   refine WO.set #[true, true, true, true, true, true, true, false, false, true, false] (by kernel_rfl) ?_
   refine WO.make (enc1 Value.bool) false S50 17 51 4 1 (c.gStates_n : Int) (c.gStates_n : Int) c.gStates_n (.bool false) 1 (by kernel_rfl) (by omega) (by omega) (by kernel_rfl) (by kernel_rfl) (by kernel_rfl) (by rfl) (by omega) ?_
   intro bd3 w33 S51
   refine WB.mk ((S51.erase 1).erase 0) ?_
   refine WA.weaken (env' := [(1, .pointer (some ⟨b1, 0, none⟩)), (2, .pointer (some ⟨b2, 0, none⟩)), (3, .pointer (some ⟨bd9, 0, none⟩)), (17, .slice (some ⟨bd3, 0, none⟩) ((List.replicate c.gStates_n false).length) c.gStates_n), (20, .int .i64 (c.gMoves_n : Int))]) (by kernel_rfl) ?_
   exact W4 bd9 bd3 w33 S51
  refine WO.set #[true, true, true, false, true, true, true, true, false, true, false] (by kernel_rfl) ?_
  refine WO.make (enc1 Value.bool) false S50 21 51 4 1 (c.gMoves_n : Int) (c.gMoves_n : Int) c.gMoves_n (.bool false) 1 (by kernel_rfl) (by omega) (by omega) (by kernel_rfl) (by kernel_rfl) (by kernel_rfl) (by rfl) (by omega) ?_
  intro bd7 w34 S52
  refine WB.mk ((S52.erase 1).erase 0) ?_
  refine WA.weaken (env' := [(1, .pointer (some ⟨b1, 0, none⟩)), (2, .pointer (some ⟨b2, 0, none⟩)), (3, .pointer (some ⟨bd9, 0, none⟩)), (16, .int .i64 (c.gStates_n : Int)), (21, .slice (some ⟨bd7, 0, none⟩) ((List.replicate c.gMoves_n false).length) c.gMoves_n)]) (by kernel_rfl) ?_
  exact W5 bd9 bd7 w34 S52
 have W9 : ∀ (w35 : World), Sep w [box b2 [.slice none 0 0, .slice none 0 0] 53, box b1 [.slice c.gStates_a c.gStates_n c.gStates_c, .slice c.gInputs_a c.gInputs_n c.gInputs_c, .int .i64 c.gStart, .slice c.gMoves_a c.gMoves_n c.gMoves_c] 25] w35 → WA Try.prog 24 104 R K24_1 (fun w_ => Sep w [box b2 [.slice none 0 0, .slice none 0 0] 53, box b1 [.slice c.gStates_a c.gStates_n c.gStates_c, .slice c.gInputs_a c.gInputs_n c.gInputs_c, .int .i64 c.gStart, .slice c.gMoves_a c.gMoves_n c.gMoves_c] 25] w_) 5 #[true, true, true, false, true, true, true, false, false, false, false] [(1, .pointer (some ⟨b1, 0, none⟩)), (2, .pointer (some ⟨b2, 0, none⟩)), (16, .int .i64 (c.gStates_n : Int)), (20, .int .i64 (c.gMoves_n : Int))] w35 := by
  intro w35 S53
  refine WA.all [3, 7, 9] (by kernel_rfl) rfl ⟨?_, ?_, ?_, trivial⟩
  ·skip
   refine WO.set #[true, true, true, true, true, true, true, false, false, false, false] (by kernel_rfl) ?_
   refine WO.make (enc1 Value.bool) false S53 17 51 4 1 (c.gStates_n : Int) (c.gStates_n : Int) c.gStates_n (.bool false) 1 (by kernel_rfl) (by omega) (by omega) (by kernel_rfl) (by kernel_rfl) (by kernel_rfl) (by rfl) (by omega) ?_
   intro bd3 w36 S54
   refine WB.mk (S54.erase 0) ?_
   refine WA.weaken (env' := [(1, .pointer (some ⟨b1, 0, none⟩)), (2, .pointer (some ⟨b2, 0, none⟩)), (17, .slice (some ⟨bd3, 0, none⟩) ((List.replicate c.gStates_n false).length) c.gStates_n), (20, .int .i64 (c.gMoves_n : Int))]) (by kernel_rfl) ?_
   exact W6 bd3 w36 S54
  ·skip
   refine WO.set #[true, true, true, false, true, true, true, true, false, false, false] (by kernel_rfl) ?_
   refine WO.make (enc1 Value.bool) false S53 21 51 4 1 (c.gMoves_n : Int) (c.gMoves_n : Int) c.gMoves_n (.bool false) 1 (by kernel_rfl) (by omega) (by omega) (by kernel_rfl) (by kernel_rfl) (by kernel_rfl) (by rfl) (by omega) ?_
   intro bd7 w37 S55
   refine WB.mk (S55.erase 0) ?_
   refine WA.weaken (env' := [(1, .pointer (some ⟨b1, 0, none⟩)), (2, .pointer (some ⟨b2, 0, none⟩)), (16, .int .i64 (c.gStates_n : Int)), (21, .slice (some ⟨bd7, 0, none⟩) ((List.replicate c.gMoves_n false).length) c.gMoves_n)]) (by kernel_rfl) ?_
   exact W7 bd7 w37 S55
  refine WO.set #[true, true, true, false, true, true, true, false, false, true, false] (by kernel_rfl) ?_
  refine WO.new S53 3 [.slice none 0 0, .slice none 0 0] 53 (by kernel_rfl) ?_
  intro bd9 w38 S56
  refine WB.mk (S56.erase 0) ?_
  refine WA.weaken (env' := [(1, .pointer (some ⟨b1, 0, none⟩)), (2, .pointer (some ⟨b2, 0, none⟩)), (3, .pointer (some ⟨bd9, 0, none⟩)), (16, .int .i64 (c.gStates_n : Int)), (20, .int .i64 (c.gMoves_n : Int))]) (by kernel_rfl) ?_
  exact W8 bd9 w38 S56
 refine J.drawAny (fun w_ => Sep w [box b2 [.slice none 0 0, .slice none 0 0] 53, box b1 [.slice c.gStates_a c.gStates_n c.gStates_c, .slice c.gInputs_a c.gInputs_n c.gInputs_c, .int .i64 c.gStart, .slice c.gMoves_a c.gMoves_n c.gMoves_c] 25] w_) S2 11 #[false, false, false, false, false, false, false, false, false, false, false] Try.mixed (by kernel_rfl) (by kernel_rfl) (by kernel_rfl) ?_
 intro w39 S57
 refine WB.mk S57 ?_
 refine WA.take 0 14 (.pointer (some ⟨b1, 0, none⟩)) #[true, false, false, false, false, false, false, false, false, false, false] (by kernel_rfl) (by kernel_rfl) (by kernel_rfl) (fun _ _ => by kernel_rfl) (by kernel_rfl) ?_
 refine WA.takeOK 1 #[true, true, false, false, false, false, false, false, false, false, false] (by kernel_rfl) (by kernel_rfl) (by kernel_rfl) (by kernel_rfl) (fun w_ S_ => OK.ldBox S_ 1 15 22 0 (.slice c.gStates_a c.gStates_n c.gStates_c) (by kernel_rfl) rfl (by kernel_rfl)) rfl ?_
 refine WA.take 2 16 (.int .i64 (c.gStates_n : Int)) #[true, true, true, false, false, false, false, false, false, false, false] (by kernel_rfl) (by kernel_rfl) (by kernel_rfl) (fun _ _ => by kernel_rfl) (by kernel_rfl) ?_
 refine WA.take 4 18 (.pointer (some ⟨b1, 3, none⟩)) #[true, true, true, false, true, false, false, false, false, false, false] (by kernel_rfl) (by kernel_rfl) (by kernel_rfl) (fun _ _ => by kernel_rfl) (by kernel_rfl) ?_
 refine WA.takeOK 5 #[true, true, true, false, true, true, false, false, false, false, false] (by kernel_rfl) (by kernel_rfl) (by kernel_rfl) (by kernel_rfl) (fun w_ S_ => OK.ldBox S_ 1 19 23 3 (.slice c.gMoves_a c.gMoves_n c.gMoves_c) (by kernel_rfl) rfl (by kernel_rfl)) rfl ?_
 refine WA.take 6 20 (.int .i64 (c.gMoves_n : Int)) #[true, true, true, false, true, true, true, false, false, false, false] (by kernel_rfl) (by kernel_rfl) (by kernel_rfl) (fun _ _ => by kernel_rfl) (by kernel_rfl) ?_
 refine WA.weaken (env' := [(1, .pointer (some ⟨b1, 0, none⟩)), (2, .pointer (some ⟨b2, 0, none⟩)), (16, .int .i64 (c.gStates_n : Int)), (20, .int .i64 (c.gMoves_n : Int))]) (by kernel_rfl) ?_
 exact W9 w39 S57

end
end Go.Proofs.Ytbbpgidmadlgmaa

