/- Walks of functions of this seat, printed by a program over the engine. Conditions: as each theorem says. -/
import Derived.Test.YthfpejhonhaggaaGreatDoorZX13
namespace Go.Proofs.YthfpejhonhaggaaGreatDoor
open Go.Eng Go.RowKit
set_option linter.unusedSimpArgs false
set_option linter.unusedVariables false
theorem hb6 : HasBody Tryz.prog 6 := fun _ _ => by kernel_rfl
noncomputable def K6_0 : List Item := adv 2 [] (bodyOf Tryz.f6)
noncomputable def K6_1 : List Item := adv 5 [] (popK (popK K6_0))
noncomputable def K6_2 : List Item := adv 2 [] (popK (popK K6_1))
noncomputable def K6_3 : List Item := adv 5 [false] K6_2
noncomputable def K6_4 : List Item := adv 1 [] (popK (popK K6_3))
noncomputable def K6_5 : List Item := adv 5 [] (popK (popK K6_4))
noncomputable def K6_6 : List Item := adv 5 [] (popK K6_5)
noncomputable def K6_7 : List Item := adv 5 [] K6_6
noncomputable def K6_8 : List Item := adv 7 [true] K6_7
noncomputable def K6_9 : List Item := adv 3 [] (popK (popK K6_8))
noncomputable def K6_10 : List Item := adv 3 [] (rRest K6_9)
noncomputable def K6_11 : List Item := adv 4 [false] K6_7
noncomputable def K6_12 : List Item := adv 2 [] (popK (popK K6_11))
noncomputable def K6_13 : List Item := adv 4 [true] K6_2
noncomputable def K6_14 : List Item := adv 2 [] (popK K6_13)
set_option maxRecDepth 20000 in
set_option maxHeartbeats 20000000 in
theorem new_any (p : Prg) (w : World) (hp : prgQ w p) : Ret Tryz.prog 6 #[.agg (prgA p)] w (fun v w' => ∃ a cap, v = .tuple #[.agg #[iv 0, iv 0, iv 0, iv 0, iv 0, iv 0, iv 0, iv 0, iv 0, iv 0, iv 0, iv 0, iv 0, iv 0, iv 0, iv 0, .slice a (newX p).length cap], iv (newE p)] ∧ Sep w [rowOf encI a cap 3 1 (newX p)] w') := by
 have S0 := Sep.refl w
 refine Ret.named fun R hR => ?_
 refine Ret.of_J (N := 34) [(0, .agg (prgA p))] Tryz.func6 rfl rfl (Nat.le_of_ble_eq_true (by kernel_rfl)) (by kernel_rfl) ?_
 obtain ⟨q1, q2, q3, q4, q5, q6, q7, q8, q9, q10, q11, q12, q13, q14, q15, q16, q17, q18, q19, q20, q21, q22, q23, q24, q25, _⟩ := id hp
 have ql1 := q2.len_eq
 have ql2 := q5.len_eq
 have ql3 := q8.len_eq
 have ql4 := q11.len_eq
 have ql5 := q15.len_eq
 have ql6 := q18.len_eq
 have ql7 := q21.len_eq
 have ql8 := q24.len_eq
 refine J.run 2 K6_0 [(0, .agg (prgA p))] w (by kernel_rfl) ?_
 refine J.new S0 1 (prgC p) 28 (by kernel_rfl) ?_
 intro b1 w1 S1
 refine J.new S1 2 [iv 0, iv 0, iv 0, iv 0, iv 0, iv 0, iv 0, iv 0, iv 0, iv 0, iv 0, iv 0, iv 0, iv 0, iv 0, iv 0, .slice none 0 0] 33 (by kernel_rfl) ?_
 intro b2 w2 S2
 refine J.run 5 K6_1 [(2, pv b2), (1, pv b1)] w2 (by kernel_rfl) ?_
 refine J.ok (OK.ldBox S2 1 7 28 0 (.agg (prgA p)) (by kernel_rfl) rfl (by kernel_rfl)) ?_
 refine J.callF 8 8 #[.agg (prgA p)] hb8 (by kernel_rfl) (pvalid_any p _ (prgQ_sep hp S2)) ?_
 rintro _ w3 ⟨rfl, T1⟩
 have S3 : Sep w [box b2 [iv 0, iv 0, iv 0, iv 0, iv 0, iv 0, iv 0, iv 0, iv 0, iv 0, iv 0, iv 0, iv 0, iv 0, iv 0, iv 0, .slice none 0 0] 33, box b1 (prgC p) 28] w3 := S2.trans T1
 clear T1 S2
 refine J.run 2 K6_2 [(9, .bool (!(validP p))), (2, pv b2), (1, pv b1)] w3 (by kernel_rfl) ?_
 rcases Bool.eq_false_or_eq_true (validP p) with fk1 | fk1
 ·skip
  refine J.head (.bool false) (congrArg Value.bool (by rw [fk1]; rfl)) ?_
  have hv := fk1
  obtain ⟨hv1, hv2, hv3, hv4, hv5, hv6, hv7, hv8, hv9, hv10, hv11⟩ := validP_facts hv
  have hst := (cellsL_at hv8).2
  have hrp : (List.replicate (p.gCells).toNat (0 : Int)).length = p.gCells.toNat := List.length_replicate
  refine J.run 5 K6_3 [(11, .pointer (some ⟨b1, 4, none⟩)), (2, pv b2), (1, pv b1)] w3 (by kernel_rfl) ?_
  refine J.ok (OK.ldBox S3 1 12 3 4 (iv p.gCells) (by kernel_rfl) rfl (by kernel_rfl)) ?_
  refine J.make encI (0 : Int) S3 13 26 3 1 p.gCells p.gCells ((p.gCells).toNat) (iv 0) 8 (by kernel_rfl) (by omega) (by omega) (by kernel_rfl) (by kernel_rfl) (by kernel_rfl) (by rfl) (by omega) ?_
  intro b3 w4 S4
  refine J.run 1 K6_4 [(14, .agg #[iv 0, iv 0, iv 0, iv 0, iv 0, iv 0, iv 0, iv 0, iv 0, iv 0, iv 0, iv 0, iv 0, iv 0, iv 0, iv 0, .slice (some ⟨b3, 0, none⟩) ((List.replicate ((p.gCells).toNat) (0 : Int)).length) ((p.gCells).toNat)]), (2, pv b2), (1, pv b1)] w4 (by kernel_rfl) ?_
  refine J.new S4 4 [iv 0, iv 0, iv 0, iv 0, iv 0, iv 0, iv 0, iv 0, iv 0, iv 0, iv 0, iv 0, iv 0, iv 0, iv 0, iv 0, .slice none 0 0] 33 (by kernel_rfl) ?_
  intro b4 w5 S5
  refine J.stBox S5 0 33 0 (.agg #[iv 0, iv 0, iv 0, iv 0, iv 0, iv 0, iv 0, iv 0, iv 0, iv 0, iv 0, iv 0, iv 0, iv 0, iv 0, iv 0, .slice (some ⟨b3, 0, none⟩) ((List.replicate ((p.gCells).toNat) (0 : Int)).length) ((p.gCells).toNat)]) [iv 0, iv 0, iv 0, iv 0, iv 0, iv 0, iv 0, iv 0, iv 0, iv 0, iv 0, iv 0, iv 0, iv 0, iv 0, iv 0, .slice (some ⟨b3, 0, none⟩) ((List.replicate ((p.gCells).toNat) (0 : Int)).length) ((p.gCells).toNat)] [box b4 [iv 0, iv 0, iv 0, iv 0, iv 0, iv 0, iv 0, iv 0, iv 0, iv 0, iv 0, iv 0, iv 0, iv 0, iv 0, iv 0, .slice (some ⟨b3, 0, none⟩) ((List.replicate ((p.gCells).toNat) (0 : Int)).length) ((p.gCells).toNat)] 33, rowOf encI (some ⟨b3, 0, none⟩) ((p.gCells).toNat) 3 1 (List.replicate ((p.gCells).toNat) (0 : Int)), box b2 [iv 0, iv 0, iv 0, iv 0, iv 0, iv 0, iv 0, iv 0, iv 0, iv 0, iv 0, iv 0, iv 0, iv 0, iv 0, iv 0, .slice none 0 0] 33, box b1 (prgC p) 28] (by kernel_rfl) rfl (by kernel_rfl) (by kernel_rfl) rfl ?_
  intro w6 S6
  refine J.run 5 K6_5 [(15, .pointer (some ⟨b1, 6, none⟩)), (4, pv b4), (2, pv b2), (1, pv b1)] w6 (by kernel_rfl) ?_
  refine J.ok (OK.ldBox S6 3 16 26 6 (.slice p.gStates_a p.gStates_n p.gStates_c) (by kernel_rfl) rfl (by kernel_rfl)) ?_
  refine J.run 5 K6_6 [(18, iv 0), (17, iv (p.gStates_n : Int)), (16, .slice p.gStates_a p.gStates_n p.gStates_c), (4, pv b4), (2, pv b2), (1, pv b1)] w6 (by kernel_rfl) ?_
  have L6_1 : ∀ (mm_ : Nat) (cs : List Int) (k : Int) (w7 : World), (0 ≤ k) → (k ≤ (p.gStates_n : Int)) → (cs = newN p (k).toNat) → Sep w [box b4 [iv 0, iv 0, iv 0, iv 0, iv 0, iv 0, iv 0, iv 0, iv 0, iv 0, iv 0, iv 0, iv 0, iv 0, iv 0, iv 0, .slice (some ⟨b3, 0, none⟩) ((List.replicate ((p.gCells).toNat) (0 : Int)).length) ((p.gCells).toNat)] 33, rowOf encI (some ⟨b3, 0, none⟩) ((p.gCells).toNat) 3 1 cs, box b2 [iv 0, iv 0, iv 0, iv 0, iv 0, iv 0, iv 0, iv 0, iv 0, iv 0, iv 0, iv 0, iv 0, iv 0, iv 0, iv 0, .slice none 0 0] 33, box b1 (prgC p) 28] w7 → ((p.gStates_n : Int) - k).toNat = mm_ → J Tryz.prog 6 34 R K6_6 [(18, iv k), (17, iv (p.gStates_n : Int)), (16, .slice p.gStates_a p.gStates_n p.gStates_c), (4, pv b4), (2, pv b2), (1, pv b1)] w7 := by
   intro mm1
   induction mm1 using Nat.strongRecOn with
   | _ mm1 ih1 =>
   intro cs k w7 k0 k1 hcs S7 hm1
   have hcl : cs.length = p.gCells.toNat := by rw [hcs]; exact newN_len p _
   have hsk : k < (p.gStates_n : Int) → _ := fun h_ => hst k.toNat (by omega)
   refine J.run 5 K6_7 [(19, .bool (decide (k < (p.gStates_n : Int)))), (18, iv k), (17, iv (p.gStates_n : Int)), (16, .slice p.gStates_a p.gStates_n p.gStates_c), (4, pv b4), (2, pv b2), (1, pv b1)] w7 (by kernel_rfl) ?_
   by_cases fk2 : k < (p.gStates_n : Int)
   ·skip
    refine J.head (.bool true) (congrArg Value.bool (decide_eq_true fk2)) ?_
    refine J.run 7 K6_8 [(20, iv k), (18, iv k), (17, iv (p.gStates_n : Int)), (16, .slice p.gStates_a p.gStates_n p.gStates_c), (4, pv b4), (2, pv b2), (1, pv b1)] w7 (by kernel_rfl) ?_
    obtain ⟨p1, hp1, hc1⟩ := q18.at 0 (k).toNat (by omega)
    have hel1 := getD_Q q19 0 (n := (k).toNat) (by have := q18.len_eq; omega)
    refine J.ok (OK.index 21 26 1 p.gStates_a p1 p.gStates_n (k).toNat k (p1.add (k).toNat) (by kernel_rfl) (by kernel_rfl) hp1 (by omega) (by omega) (by rw [Nat.mul_one])) ?_
    refine J.ok (OK.ldCell 22 3 (p1.add (k).toNat) (iv (p.gStates_l.getD (k).toNat 0)) (by kernel_rfl) (by kernel_rfl) (S7.cell hc1)) ?_
    refine J.run 3 K6_9 [(6, iv (p.gStates_l.getD (k).toNat 0)), (5, iv k), (18, iv k), (17, iv (p.gStates_n : Int)), (16, .slice p.gStates_a p.gStates_n p.gStates_c), (4, pv b4), (2, pv b2), (1, pv b1)] w7 (by kernel_rfl) ?_
    obtain ⟨p2, hp2, hc2⟩ := q24.at 0 (k).toNat (by omega)
    have hel2 := getD_Q q25 0 (n := (k).toNat) (by have := q24.len_eq; omega)
    obtain ⟨p3, hp3⟩ := row1_addr (S7.nth 1 rfl) (show 0 < (cs).length by first | omega | (simp; omega))
    refine J.drawTail S7 9 Tryz.mixed (by kernel_rfl) (by kernel_rfl) ?_
    intro w8 S8
    refine SL.ok (by decide) (OK.run 23 (.pointer (some ⟨b4, 16, none⟩)) (by kernel_rfl)) ?_
    refine SL.ok (by decide) (OK.ldBox S8 0 24 26 16 (.slice (some ⟨b3, 0, none⟩) ((List.replicate ((p.gCells).toNat) (0 : Int)).length) ((p.gCells).toNat)) (by kernel_rfl) rfl (by kernel_rfl)) ?_
    refine SL.ok (by decide) (OK.run 25 (iv (p.gStates_l.getD (k).toNat 0)) (by kernel_rfl)) ?_
    refine SL.ok (by decide) (OK.run 26 (.pointer (some ⟨b1, 8, none⟩)) (by kernel_rfl)) ?_
    refine SL.ok (by decide) (OK.ldBox S8 3 27 26 8 (.slice p.gInitial_a p.gInitial_n p.gInitial_c) (by kernel_rfl) rfl (by kernel_rfl)) ?_
    refine SL.ok (by decide) (OK.run 28 (iv k) (by kernel_rfl)) ?_
    refine SL.ok (by decide) (OK.index 29 26 1 p.gInitial_a p2 p.gInitial_n (k).toNat k (p2.add (k).toNat) (by kernel_rfl) (by kernel_rfl) hp2 (by omega) (by omega) (by rw [Nat.mul_one])) ?_
    refine SL.ok (by decide) (OK.ldCell 30 3 (p2.add (k).toNat) (iv (p.gInitial_l.getD (k).toNat 0)) (by kernel_rfl) (by kernel_rfl) (S8.cell hc2)) ?_
    refine SL.ok (by decide) (OK.index 31 26 1 (some ⟨b3, 0, none⟩) p3 ((List.replicate ((p.gCells).toNat) (0 : Int)).length) (p.gStates_l.getD (k).toNat 0).toNat (p.gStates_l.getD (k).toNat 0) (p3.add (p.gStates_l.getD (k).toNat 0).toNat) (by kernel_rfl) (by kernel_rfl) hp3 (by omega) (by first | omega | (simp; omega)) (by rw [Nat.mul_one])) ?_
    refine SL.done ?_
    refine TL.stRow1 (Value.int .i64) (int_one _) S8 1 cs 3 p3 (p.gStates_l.getD (k).toNat 0).toNat (p.gInitial_l.getD (k).toNat 0) rfl (by kernel_rfl) hp3 (by first | omega | (simp; omega)) (by kernel_rfl) ?_
    intro w9 S9
    replace S9 : Sep w [box b4 [iv 0, iv 0, iv 0, iv 0, iv 0, iv 0, iv 0, iv 0, iv 0, iv 0, iv 0, iv 0, iv 0, iv 0, iv 0, iv 0, .slice (some ⟨b3, 0, none⟩) ((List.replicate ((p.gCells).toNat) (0 : Int)).length) ((p.gCells).toNat)] 33, rowOf encI (some ⟨b3, 0, none⟩) ((p.gCells).toNat) 3 1 (cs.set (p.gStates_l.getD (k).toNat 0).toNat (p.gInitial_l.getD (k).toNat 0)), box b2 [iv 0, iv 0, iv 0, iv 0, iv 0, iv 0, iv 0, iv 0, iv 0, iv 0, iv 0, iv 0, iv 0, iv 0, iv 0, iv 0, .slice none 0 0] 33, box b1 (prgC p) 28] w9 := S9
    refine TL.done (by kernel_rfl) ?_
    refine J.run 0 (rRest K6_9) [(18, iv k), (17, iv (p.gStates_n : Int)), (16, .slice p.gStates_a p.gStates_n p.gStates_c), (4, pv b4), (2, pv b2), (1, pv b1)] w9 (by kernel_rfl) ?_
    refine J.run 3 K6_10 [(32, iv (IntKind.wrap .i64 (k + 1))), (17, iv (p.gStates_n : Int)), (16, .slice p.gStates_a p.gStates_n p.gStates_c), (4, pv b4), (2, pv b2), (1, pv b1)] w9 (by kernel_rfl) ?_
    refine J.head (iv (k + 1)) (congrArg (Value.int .i64) (IntWalk.i64_in _ (by omega))) ?_
    refine J.run 3 K6_6 [(18, iv (k + 1)), (17, iv (p.gStates_n : Int)), (16, .slice p.gStates_a p.gStates_n p.gStates_c), (4, pv b4), (2, pv b2), (1, pv b1)] w9 (by kernel_rfl) ?_
    refine J.run 0 K6_6 [(18, iv (k + 1)), (17, iv (p.gStates_n : Int)), (16, .slice p.gStates_a p.gStates_n p.gStates_c), (4, pv b4), (2, pv b2), (1, pv b1)] w9 (by kernel_rfl) ?_
    exact ih1 _ (show ((p.gStates_n : Int) - (k + 1)).toNat < mm1 from by omega) (cs.set (p.gStates_l.getD (k).toNat 0).toNat (p.gInitial_l.getD (k).toNat 0)) (k + 1) w9 (by omega) (by omega) (by rw [show (k + 1).toNat = k.toNat + 1 by omega, newN, ← hcs]) S9 rfl
   ·skip
    refine J.head (.bool false) (congrArg Value.bool (decide_eq_false fk2)) ?_
    refine J.run 4 K6_11 [(4, pv b4), (2, pv b2)] w7 (by kernel_rfl) ?_
    refine J.ok (OK.ldBox S7 0 33 33 0 (.agg #[iv 0, iv 0, iv 0, iv 0, iv 0, iv 0, iv 0, iv 0, iv 0, iv 0, iv 0, iv 0, iv 0, iv 0, iv 0, iv 0, .slice (some ⟨b3, 0, none⟩) ((List.replicate ((p.gCells).toNat) (0 : Int)).length) ((p.gCells).toNat)]) (by kernel_rfl) rfl (by kernel_rfl)) ?_
    refine J.stBox S7 2 33 0 (.agg #[iv 0, iv 0, iv 0, iv 0, iv 0, iv 0, iv 0, iv 0, iv 0, iv 0, iv 0, iv 0, iv 0, iv 0, iv 0, iv 0, .slice (some ⟨b3, 0, none⟩) ((List.replicate ((p.gCells).toNat) (0 : Int)).length) ((p.gCells).toNat)]) [iv 0, iv 0, iv 0, iv 0, iv 0, iv 0, iv 0, iv 0, iv 0, iv 0, iv 0, iv 0, iv 0, iv 0, iv 0, iv 0, .slice (some ⟨b3, 0, none⟩) ((List.replicate ((p.gCells).toNat) (0 : Int)).length) ((p.gCells).toNat)] [box b4 [iv 0, iv 0, iv 0, iv 0, iv 0, iv 0, iv 0, iv 0, iv 0, iv 0, iv 0, iv 0, iv 0, iv 0, iv 0, iv 0, .slice (some ⟨b3, 0, none⟩) ((List.replicate ((p.gCells).toNat) (0 : Int)).length) ((p.gCells).toNat)] 33, rowOf encI (some ⟨b3, 0, none⟩) ((p.gCells).toNat) 3 1 cs, box b2 [iv 0, iv 0, iv 0, iv 0, iv 0, iv 0, iv 0, iv 0, iv 0, iv 0, iv 0, iv 0, iv 0, iv 0, iv 0, iv 0, .slice (some ⟨b3, 0, none⟩) ((List.replicate ((p.gCells).toNat) (0 : Int)).length) ((p.gCells).toNat)] 33, box b1 (prgC p) 28] (by kernel_rfl) rfl (by kernel_rfl) (by kernel_rfl) rfl ?_
    intro w10 S10
    refine J.run 2 K6_12 [(3, iv 0), (2, pv b2)] w10 (by kernel_rfl) ?_
    refine J.ret Tryz.f6 [.agg #[iv 0, iv 0, iv 0, iv 0, iv 0, iv 0, iv 0, iv 0, iv 0, iv 0, iv 0, iv 0, iv 0, iv 0, iv 0, iv 0, .slice (some ⟨b3, 0, none⟩) ((List.replicate ((p.gCells).toNat) (0 : Int)).length) ((p.gCells).toNat)], iv 0] Tryz.func6 ⟨⟨⟨b2, 0, none⟩, by kernel_rfl, ldV_run (S10.nth 2 rfl) (by kernel_rfl)⟩, by kernel_rfl, trivial⟩ ?_
    refine hR _ _ ?_
    obtain ⟨e1, e2⟩ := newX_yes hv
    have e3 : cs = newN p p.gStates_l.length := by rw [hcs, show k.toNat = p.gStates_l.length by omega]
    have e4 : (List.replicate (p.gCells).toNat (0 : Int)).length = (newN p p.gStates_l.length).length := by rw [newN_len, List.length_replicate]
    exact ⟨_, _, by rw [e1, e2, ← e4]; rfl, by rw [e1, ← e3]; exact S10.pick 1 rfl⟩
  exact L6_1 _ (List.replicate ((p.gCells).toNat) (0 : Int)) 0 w6 (by omega) (by omega) (rfl) S6 rfl
 ·skip
  refine J.head (.bool true) (congrArg Value.bool (by rw [fk1]; rfl)) ?_
  refine J.run 4 K6_13 [(10, .agg #[iv 0, iv 0, iv 0, iv 0, iv 0, iv 0, iv 0, iv 0, iv 0, iv 0, iv 0, iv 0, iv 0, iv 0, iv 0, iv 0, .slice none 0 0]), (2, pv b2)] w3 (by kernel_rfl) ?_
  refine J.stBox S3 0 33 0 (.agg #[iv 0, iv 0, iv 0, iv 0, iv 0, iv 0, iv 0, iv 0, iv 0, iv 0, iv 0, iv 0, iv 0, iv 0, iv 0, iv 0, .slice none 0 0]) [iv 0, iv 0, iv 0, iv 0, iv 0, iv 0, iv 0, iv 0, iv 0, iv 0, iv 0, iv 0, iv 0, iv 0, iv 0, iv 0, .slice none 0 0] [box b2 [iv 0, iv 0, iv 0, iv 0, iv 0, iv 0, iv 0, iv 0, iv 0, iv 0, iv 0, iv 0, iv 0, iv 0, iv 0, iv 0, .slice none 0 0] 33, box b1 (prgC p) 28] (by kernel_rfl) rfl (by kernel_rfl) (by kernel_rfl) rfl ?_
  intro w11 S11
  refine J.run 2 K6_14 [(3, iv 1), (2, pv b2)] w11 (by kernel_rfl) ?_
  refine J.ret Tryz.f6 [.agg #[iv 0, iv 0, iv 0, iv 0, iv 0, iv 0, iv 0, iv 0, iv 0, iv 0, iv 0, iv 0, iv 0, iv 0, iv 0, iv 0, .slice none 0 0], iv 1] Tryz.func6 ⟨⟨⟨b2, 0, none⟩, by kernel_rfl, ldV_run (S11.nth 0 rfl) (by kernel_rfl)⟩, by kernel_rfl, trivial⟩ ?_
  refine hR _ _ ?_
  obtain ⟨e1, e2⟩ := newX_no fk1
  exact ⟨none, 0, by rw [e1, e2]; rfl, by rw [e1]; exact S11.nil.nilRow 3 1⟩

theorem hb11 : HasBody Tryz.prog 11 := fun _ _ => by kernel_rfl
noncomputable def K11_0 : List Item := adv 2 [] (bodyOf Tryz.f11)
noncomputable def K11_1 : List Item := adv 4 [] (popK (popK K11_0))
noncomputable def K11_2 : List Item := adv 1 [] (popK (popK K11_1))
noncomputable def K11_3 : List Item := adv 8 [] (popK (popK K11_2))
noncomputable def K11_4 : List Item := adv 5 [] K11_3
noncomputable def K11_5 : List Item := adv 3 [] (popK K11_4)
noncomputable def K11_6 : List Item := adv 4 [true] K11_5
noncomputable def K11_7 : List Item := adv 4 [] (rRest K11_6)
noncomputable def K11_8 : List Item := adv 4 [false] K11_5
noncomputable def K11_9 : List Item := adv 1 [] (popK (popK K11_8))
set_option maxRecDepth 20000 in
set_option maxHeartbeats 20000000 in
theorem rnew_any (p : Prg) (w : World) (hp : prgQ w p) (hv : validP p = true) : Ret Tryz.prog 11 #[.agg (prgA p)] w (fun v w' => ∃ a cap, v = .agg #[iv 0, iv 0, iv 0, iv 0, iv 0, iv 0, iv 0, iv 0, iv 0, iv 0, iv 0, iv 0, iv 0, iv 0, iv 0, iv 0, .slice a (newN p p.gStates_l.length).length cap] ∧ Sep w [rowOf encI a cap 3 1 (newN p p.gStates_l.length)] w') := by
 have S0 := Sep.refl w
 refine Ret.named fun R hR => ?_
 refine Ret.of_J (N := 30) [(0, .agg (prgA p))] Tryz.func11 rfl rfl (Nat.le_of_ble_eq_true (by kernel_rfl)) (by kernel_rfl) ?_
 obtain ⟨q1, q2, q3, q4, q5, q6, q7, q8, q9, q10, q11, q12, q13, q14, q15, q16, q17, q18, q19, q20, q21, q22, q23, q24, q25, _⟩ := id hp
 have ql1 := q2.len_eq
 have ql2 := q5.len_eq
 have ql3 := q8.len_eq
 have ql4 := q11.len_eq
 have ql5 := q15.len_eq
 have ql6 := q18.len_eq
 have ql7 := q21.len_eq
 have ql8 := q24.len_eq
 skip
 obtain ⟨hv1, hv2, hv3, hv4, hv5, hv6, hv7, hv8, hv9, hv10, hv11⟩ := validP_facts hv
 have hst := (cellsL_at hv8).2
 have hrp : (List.replicate (p.gCells).toNat (0 : Int)).length = p.gCells.toNat := List.length_replicate
 refine J.run 2 K11_0 [(0, .agg (prgA p))] w (by kernel_rfl) ?_
 refine J.new S0 1 (prgC p) 28 (by kernel_rfl) ?_
 intro b1 w1 S1
 refine J.new S1 2 [iv 0, iv 0, iv 0, iv 0, iv 0, iv 0, iv 0, iv 0, iv 0, iv 0, iv 0, iv 0, iv 0, iv 0, iv 0, iv 0, .slice none 0 0] 33 (by kernel_rfl) ?_
 intro b2 w2 S2
 refine J.run 4 K11_1 [(5, .pointer (some ⟨b1, 4, none⟩)), (2, pv b2), (1, pv b1)] w2 (by kernel_rfl) ?_
 refine J.ok (OK.ldBox S2 1 6 3 4 (iv p.gCells) (by kernel_rfl) rfl (by kernel_rfl)) ?_
 refine J.make encI (0 : Int) S2 7 26 3 1 p.gCells p.gCells ((p.gCells).toNat) (iv 0) 8 (by kernel_rfl) (by omega) (by omega) (by kernel_rfl) (by kernel_rfl) (by kernel_rfl) (by rfl) (by omega) ?_
 intro b3 w3 S3
 refine J.run 1 K11_2 [(8, .agg #[iv 0, iv 0, iv 0, iv 0, iv 0, iv 0, iv 0, iv 0, iv 0, iv 0, iv 0, iv 0, iv 0, iv 0, iv 0, iv 0, .slice (some ⟨b3, 0, none⟩) ((List.replicate ((p.gCells).toNat) (0 : Int)).length) ((p.gCells).toNat)]), (2, pv b2), (1, pv b1)] w3 (by kernel_rfl) ?_
 refine J.new S3 3 [iv 0, iv 0, iv 0, iv 0, iv 0, iv 0, iv 0, iv 0, iv 0, iv 0, iv 0, iv 0, iv 0, iv 0, iv 0, iv 0, .slice none 0 0] 33 (by kernel_rfl) ?_
 intro b4 w4 S4
 refine J.stBox S4 0 33 0 (.agg #[iv 0, iv 0, iv 0, iv 0, iv 0, iv 0, iv 0, iv 0, iv 0, iv 0, iv 0, iv 0, iv 0, iv 0, iv 0, iv 0, .slice (some ⟨b3, 0, none⟩) ((List.replicate ((p.gCells).toNat) (0 : Int)).length) ((p.gCells).toNat)]) [iv 0, iv 0, iv 0, iv 0, iv 0, iv 0, iv 0, iv 0, iv 0, iv 0, iv 0, iv 0, iv 0, iv 0, iv 0, iv 0, .slice (some ⟨b3, 0, none⟩) ((List.replicate ((p.gCells).toNat) (0 : Int)).length) ((p.gCells).toNat)] [box b4 [iv 0, iv 0, iv 0, iv 0, iv 0, iv 0, iv 0, iv 0, iv 0, iv 0, iv 0, iv 0, iv 0, iv 0, iv 0, iv 0, .slice (some ⟨b3, 0, none⟩) ((List.replicate ((p.gCells).toNat) (0 : Int)).length) ((p.gCells).toNat)] 33, rowOf encI (some ⟨b3, 0, none⟩) ((p.gCells).toNat) 3 1 (List.replicate ((p.gCells).toNat) (0 : Int)), box b2 [iv 0, iv 0, iv 0, iv 0, iv 0, iv 0, iv 0, iv 0, iv 0, iv 0, iv 0, iv 0, iv 0, iv 0, iv 0, iv 0, .slice none 0 0] 33, box b1 (prgC p) 28] (by kernel_rfl) rfl (by kernel_rfl) (by kernel_rfl) rfl ?_
 intro w5 S5
 refine J.run 8 K11_3 [(4, iv 0), (3, pv b4), (2, pv b2), (1, pv b1)] w5 (by kernel_rfl) ?_
 have L11_1 : ∀ (mm_ : Nat) (cs : List Int) (k : Int) (w6 : World), (0 ≤ k) → (k ≤ (p.gStates_n : Int)) → (cs = newN p (k).toNat) → Sep w [box b4 [iv 0, iv 0, iv 0, iv 0, iv 0, iv 0, iv 0, iv 0, iv 0, iv 0, iv 0, iv 0, iv 0, iv 0, iv 0, iv 0, .slice (some ⟨b3, 0, none⟩) ((List.replicate ((p.gCells).toNat) (0 : Int)).length) ((p.gCells).toNat)] 33, rowOf encI (some ⟨b3, 0, none⟩) ((p.gCells).toNat) 3 1 cs, box b2 [iv 0, iv 0, iv 0, iv 0, iv 0, iv 0, iv 0, iv 0, iv 0, iv 0, iv 0, iv 0, iv 0, iv 0, iv 0, iv 0, .slice none 0 0] 33, box b1 (prgC p) 28] w6 → ((p.gStates_n : Int) - k).toNat = mm_ → J Tryz.prog 11 30 R K11_3 [(4, iv k), (3, pv b4), (2, pv b2), (1, pv b1)] w6 := by
  intro mm1
  induction mm1 using Nat.strongRecOn with
  | _ mm1 ih1 =>
  intro cs k w6 k0 k1 hcs S6 hm1
  have hcl : cs.length = p.gCells.toNat := by rw [hcs]; exact newN_len p _
  have hsk : k < (p.gStates_n : Int) → _ := fun h_ => hst k.toNat (by omega)
  refine J.run 5 K11_4 [(10, .pointer (some ⟨b1, 6, none⟩)), (9, iv k), (4, iv k), (3, pv b4), (2, pv b2), (1, pv b1)] w6 (by kernel_rfl) ?_
  refine J.ok (OK.ldBox S6 3 11 26 6 (.slice p.gStates_a p.gStates_n p.gStates_c) (by kernel_rfl) rfl (by kernel_rfl)) ?_
  refine J.run 3 K11_5 [(13, .bool (decide (k < (p.gStates_n : Int)))), (4, iv k), (3, pv b4), (2, pv b2), (1, pv b1)] w6 (by kernel_rfl) ?_
  by_cases fk1 : k < (p.gStates_n : Int)
  ·skip
   refine J.head (.bool true) (congrArg Value.bool (decide_eq_true fk1)) ?_
   refine J.run 4 K11_6 [(4, iv k), (3, pv b4), (2, pv b2), (1, pv b1)] w6 (by kernel_rfl) ?_
   obtain ⟨p1, hp1, hc1⟩ := q18.at 0 (k).toNat (by omega)
   have hel1 := getD_Q q19 0 (n := (k).toNat) (by have := q18.len_eq; omega)
   obtain ⟨p2, hp2, hc2⟩ := q24.at 0 (k).toNat (by omega)
   have hel2 := getD_Q q25 0 (n := (k).toNat) (by have := q24.len_eq; omega)
   obtain ⟨p3, hp3⟩ := row1_addr (S6.nth 1 rfl) (show 0 < (cs).length by first | omega | (simp; omega))
   refine J.drawTail S6 13 Tryz.mixed (by kernel_rfl) (by kernel_rfl) ?_
   intro w7 S7
   refine SL.ok (by decide) (OK.run 16 (.pointer (some ⟨b4, 16, none⟩)) (by kernel_rfl)) ?_
   refine SL.ok (by decide) (OK.ldBox S7 0 17 26 16 (.slice (some ⟨b3, 0, none⟩) ((List.replicate ((p.gCells).toNat) (0 : Int)).length) ((p.gCells).toNat)) (by kernel_rfl) rfl (by kernel_rfl)) ?_
   refine SL.ok (by decide) (OK.run 18 (.pointer (some ⟨b1, 6, none⟩)) (by kernel_rfl)) ?_
   refine SL.ok (by decide) (OK.ldBox S7 3 19 26 6 (.slice p.gStates_a p.gStates_n p.gStates_c) (by kernel_rfl) rfl (by kernel_rfl)) ?_
   refine SL.ok (by decide) (OK.run 20 (iv k) (by kernel_rfl)) ?_
   refine SL.ok (by decide) (OK.index 21 26 1 p.gStates_a p1 p.gStates_n (k).toNat k (p1.add (k).toNat) (by kernel_rfl) (by kernel_rfl) hp1 (by omega) (by omega) (by rw [Nat.mul_one])) ?_
   refine SL.ok (by decide) (OK.ldCell 22 3 (p1.add (k).toNat) (iv (p.gStates_l.getD (k).toNat 0)) (by kernel_rfl) (by kernel_rfl) (S7.cell hc1)) ?_
   refine SL.ok (by decide) (OK.run 23 (.pointer (some ⟨b1, 8, none⟩)) (by kernel_rfl)) ?_
   refine SL.ok (by decide) (OK.ldBox S7 3 24 26 8 (.slice p.gInitial_a p.gInitial_n p.gInitial_c) (by kernel_rfl) rfl (by kernel_rfl)) ?_
   refine SL.ok (by decide) (OK.run 25 (iv k) (by kernel_rfl)) ?_
   refine SL.ok (by decide) (OK.index 26 26 1 p.gInitial_a p2 p.gInitial_n (k).toNat k (p2.add (k).toNat) (by kernel_rfl) (by kernel_rfl) hp2 (by omega) (by omega) (by rw [Nat.mul_one])) ?_
   refine SL.ok (by decide) (OK.ldCell 27 3 (p2.add (k).toNat) (iv (p.gInitial_l.getD (k).toNat 0)) (by kernel_rfl) (by kernel_rfl) (S7.cell hc2)) ?_
   refine SL.ok (by decide) (OK.index 28 26 1 (some ⟨b3, 0, none⟩) p3 ((List.replicate ((p.gCells).toNat) (0 : Int)).length) (p.gStates_l.getD (k).toNat 0).toNat (p.gStates_l.getD (k).toNat 0) (p3.add (p.gStates_l.getD (k).toNat 0).toNat) (by kernel_rfl) (by kernel_rfl) hp3 (by omega) (by first | omega | (simp; omega)) (by rw [Nat.mul_one])) ?_
   refine SL.done ?_
   refine TL.stRow1 (Value.int .i64) (int_one _) S7 1 cs 3 p3 (p.gStates_l.getD (k).toNat 0).toNat (p.gInitial_l.getD (k).toNat 0) rfl (by kernel_rfl) hp3 (by first | omega | (simp; omega)) (by kernel_rfl) ?_
   intro w8 S8
   replace S8 : Sep w [box b4 [iv 0, iv 0, iv 0, iv 0, iv 0, iv 0, iv 0, iv 0, iv 0, iv 0, iv 0, iv 0, iv 0, iv 0, iv 0, iv 0, .slice (some ⟨b3, 0, none⟩) ((List.replicate ((p.gCells).toNat) (0 : Int)).length) ((p.gCells).toNat)] 33, rowOf encI (some ⟨b3, 0, none⟩) ((p.gCells).toNat) 3 1 (cs.set (p.gStates_l.getD (k).toNat 0).toNat (p.gInitial_l.getD (k).toNat 0)), box b2 [iv 0, iv 0, iv 0, iv 0, iv 0, iv 0, iv 0, iv 0, iv 0, iv 0, iv 0, iv 0, iv 0, iv 0, iv 0, iv 0, .slice none 0 0] 33, box b1 (prgC p) 28] w8 := S8
   refine TL.done (by kernel_rfl) ?_
   refine J.run 0 (rRest K11_6) [(4, iv k), (3, pv b4), (2, pv b2), (1, pv b1)] w8 (by kernel_rfl) ?_
   refine J.run 4 K11_7 [(15, iv (IntKind.wrap .i64 (k + 1))), (3, pv b4), (2, pv b2), (1, pv b1)] w8 (by kernel_rfl) ?_
   refine J.head (iv (k + 1)) (congrArg (Value.int .i64) (IntWalk.i64_in _ (by omega))) ?_
   refine J.run 3 K11_3 [(4, iv (k + 1)), (3, pv b4), (2, pv b2), (1, pv b1)] w8 (by kernel_rfl) ?_
   refine J.run 0 K11_3 [(4, iv (k + 1)), (3, pv b4), (2, pv b2), (1, pv b1)] w8 (by kernel_rfl) ?_
   exact ih1 _ (show ((p.gStates_n : Int) - (k + 1)).toNat < mm1 from by omega) (cs.set (p.gStates_l.getD (k).toNat 0).toNat (p.gInitial_l.getD (k).toNat 0)) (k + 1) w8 (by omega) (by omega) (by rw [show (k + 1).toNat = k.toNat + 1 by omega, newN, ← hcs]) S8 rfl
  ·skip
   refine J.head (.bool false) (congrArg Value.bool (decide_eq_false fk1)) ?_
   refine J.run 4 K11_8 [(3, pv b4), (2, pv b2)] w6 (by kernel_rfl) ?_
   refine J.ok (OK.ldBox S6 0 29 33 0 (.agg #[iv 0, iv 0, iv 0, iv 0, iv 0, iv 0, iv 0, iv 0, iv 0, iv 0, iv 0, iv 0, iv 0, iv 0, iv 0, iv 0, .slice (some ⟨b3, 0, none⟩) ((List.replicate ((p.gCells).toNat) (0 : Int)).length) ((p.gCells).toNat)]) (by kernel_rfl) rfl (by kernel_rfl)) ?_
   refine J.stBox S6 2 33 0 (.agg #[iv 0, iv 0, iv 0, iv 0, iv 0, iv 0, iv 0, iv 0, iv 0, iv 0, iv 0, iv 0, iv 0, iv 0, iv 0, iv 0, .slice (some ⟨b3, 0, none⟩) ((List.replicate ((p.gCells).toNat) (0 : Int)).length) ((p.gCells).toNat)]) [iv 0, iv 0, iv 0, iv 0, iv 0, iv 0, iv 0, iv 0, iv 0, iv 0, iv 0, iv 0, iv 0, iv 0, iv 0, iv 0, .slice (some ⟨b3, 0, none⟩) ((List.replicate ((p.gCells).toNat) (0 : Int)).length) ((p.gCells).toNat)] [box b4 [iv 0, iv 0, iv 0, iv 0, iv 0, iv 0, iv 0, iv 0, iv 0, iv 0, iv 0, iv 0, iv 0, iv 0, iv 0, iv 0, .slice (some ⟨b3, 0, none⟩) ((List.replicate ((p.gCells).toNat) (0 : Int)).length) ((p.gCells).toNat)] 33, rowOf encI (some ⟨b3, 0, none⟩) ((p.gCells).toNat) 3 1 cs, box b2 [iv 0, iv 0, iv 0, iv 0, iv 0, iv 0, iv 0, iv 0, iv 0, iv 0, iv 0, iv 0, iv 0, iv 0, iv 0, iv 0, .slice (some ⟨b3, 0, none⟩) ((List.replicate ((p.gCells).toNat) (0 : Int)).length) ((p.gCells).toNat)] 33, box b1 (prgC p) 28] (by kernel_rfl) rfl (by kernel_rfl) (by kernel_rfl) rfl ?_
   intro w9 S9
   refine J.run 1 K11_9 [(2, pv b2)] w9 (by kernel_rfl) ?_
   refine J.ret Tryz.f11 [.agg #[iv 0, iv 0, iv 0, iv 0, iv 0, iv 0, iv 0, iv 0, iv 0, iv 0, iv 0, iv 0, iv 0, iv 0, iv 0, iv 0, .slice (some ⟨b3, 0, none⟩) ((List.replicate ((p.gCells).toNat) (0 : Int)).length) ((p.gCells).toNat)]] Tryz.func11 ⟨⟨⟨b2, 0, none⟩, by kernel_rfl, ldV_run (S9.nth 2 rfl) (by kernel_rfl)⟩, trivial⟩ ?_
   refine hR _ _ ?_
   have e3 : cs = newN p p.gStates_l.length := by rw [hcs, show k.toNat = p.gStates_l.length by omega]
   have e4 : (List.replicate (p.gCells).toNat (0 : Int)).length = (newN p p.gStates_l.length).length := by rw [newN_len, List.length_replicate]
   exact ⟨_, _, by rw [← e4]; rfl, by rw [← e3]; exact S9.pick 1 rfl⟩
 exact L11_1 _ (List.replicate ((p.gCells).toNat) (0 : Int)) 0 w5 (by omega) (by omega) (rfl) S5 rfl

theorem hb10 : HasBody Tryz.prog 10 := fun _ _ => by kernel_rfl
noncomputable def K10_0 : List Item := adv 2 [] (bodyOf Tryz.f10)
noncomputable def K10_1 : List Item := adv 5 [] (popK K10_0)
noncomputable def K10_2 : List Item := adv 2 [] (popK (popK K10_1))
noncomputable def K10_3 : List Item := adv 10 [false] K10_2
noncomputable def K10_4 : List Item := adv 5 [] (popK K10_3)
noncomputable def K10_5 : List Item := adv 5 [] K10_4
noncomputable def K10_6 : List Item := adv 6 [true] K10_5
noncomputable def K10_7 : List Item := adv 1 [] (popK (popK (popK (popK K10_6))))
noncomputable def K10_8 : List Item := adv 3 [] (rRest K10_7)
noncomputable def K10_9 : List Item := adv 7 [false] K10_5
noncomputable def K10_10 : List Item := adv 5 [true] K10_2
set_option maxRecDepth 20000 in
set_option maxHeartbeats 20000000 in
theorem cost_any (p : Prg) (w : World) (hp : prgQ w p) : Ret Tryz.prog 10 #[.agg (prgA p)] w (fun v w' => v = iv (costX p) ∧ Sep w [] w') := by
 have S0 := Sep.refl w
 refine Ret.named fun R hR => ?_
 refine Ret.of_J (N := 26) [(0, .agg (prgA p))] Tryz.func10 rfl rfl (Nat.le_of_ble_eq_true (by kernel_rfl)) (by kernel_rfl) ?_
 obtain ⟨q1, q2, q3, q4, q5, q6, q7, q8, q9, q10, q11, q12, q13, q14, q15, q16, q17, q18, q19, q20, q21, q22, q23, q24, q25, _⟩ := id hp
 have ql1 := q2.len_eq
 have ql2 := q5.len_eq
 have ql3 := q8.len_eq
 have ql4 := q11.len_eq
 have ql5 := q15.len_eq
 have ql6 := q18.len_eq
 have ql7 := q21.len_eq
 have ql8 := q24.len_eq
 refine J.run 2 K10_0 [(0, .agg (prgA p))] w (by kernel_rfl) ?_
 refine J.new S0 1 (prgC p) 28 (by kernel_rfl) ?_
 intro b1 w1 S1
 refine J.run 5 K10_1 [(1, pv b1)] w1 (by kernel_rfl) ?_
 refine J.ok (OK.ldBox S1 0 6 28 0 (.agg (prgA p)) (by kernel_rfl) rfl (by kernel_rfl)) ?_
 refine J.callF 7 8 #[.agg (prgA p)] hb8 (by kernel_rfl) (pvalid_any p _ (prgQ_sep hp S1)) ?_
 rintro _ w2 ⟨rfl, T1⟩
 have S2 : Sep w [box b1 (prgC p) 28] w2 := S1.trans T1
 clear T1 S1
 refine J.run 2 K10_2 [(8, .bool (!(validP p))), (1, pv b1)] w2 (by kernel_rfl) ?_
 rcases Bool.eq_false_or_eq_true (validP p) with fk1 | fk1
 ·skip
  refine J.head (.bool false) (congrArg Value.bool (by rw [fk1]; rfl)) ?_
  have hv := fk1
  have hco := fun (j : Nat) (hj : j < p.gCode_l.length) => (formB_iff.1 (fits_form (code_at hv hj)).1).1
  refine J.run 10 K10_3 [(9, pv b1), (3, iv 0)] w2 (by kernel_rfl) ?_
  refine J.ok (OK.ldBox S2 0 10 22 0 (.slice p.gCode_a p.gCode_n p.gCode_c) (by kernel_rfl) rfl (by kernel_rfl)) ?_
  refine J.run 5 K10_4 [(12, iv 0), (11, iv (p.gCode_n : Int)), (10, .slice p.gCode_a p.gCode_n p.gCode_c), (3, iv 0)] w2 (by kernel_rfl) ?_
  have L10_1 : ∀ (mm_ : Nat) (n : Int) (k : Int) (w3 : World), (0 ≤ k) → (k ≤ (p.gCode_n : Int)) → (n = costN p (k).toNat) → Sep w [box b1 (prgC p) 28] w3 → ((p.gCode_n : Int) - k).toNat = mm_ → J Tryz.prog 10 26 R K10_4 [(12, iv k), (11, iv (p.gCode_n : Int)), (10, .slice p.gCode_a p.gCode_n p.gCode_c), (3, iv n)] w3 := by
   intro mm1
   induction mm1 using Nat.strongRecOn with
   | _ mm1 ih1 =>
   intro n k w3 k0 k1 hn S3 hm1
   have hkk : k < (p.gCode_n : Int) → _ := fun h_ => hco k.toNat (by omega)
   have hnb := costN_bd hco k.toNat (by omega)
   have hcb : k < (p.gCode_n : Int) → _ := fun h_ => cost_bd (hkk h_)
   have hrw : k < (p.gCode_n : Int) → _ := fun h_ => rows_at (hkk h_)
   have hrl_ := rows_len
   have hln := (validP_facts hv).1
   refine J.run 5 K10_5 [(13, .bool (decide (k < (p.gCode_n : Int)))), (12, iv k), (11, iv (p.gCode_n : Int)), (10, .slice p.gCode_a p.gCode_n p.gCode_c), (3, iv n)] w3 (by kernel_rfl) ?_
   by_cases fk2 : k < (p.gCode_n : Int)
   ·skip
    refine J.head (.bool true) (congrArg Value.bool (decide_eq_true fk2)) ?_
    have hk1 := hkk (by omega)
    have hk2 := hcb (by omega)
    have hk3 := (hrw (by omega)).2.2
    refine J.run 6 K10_6 [(12, iv k), (11, iv (p.gCode_n : Int)), (10, .slice p.gCode_a p.gCode_n p.gCode_c), (3, iv n)] w3 (by kernel_rfl) ?_
    obtain ⟨p1, hp1, hc1⟩ := q2.at ins0 (k).toNat (by omega)
    have hel1 := getD_Q q3 ins0 (n := (k).toNat) (by have := q2.len_eq; omega)
    obtain ⟨q26, q27, q28, q29, q30, _⟩ := id hel1
    refine J.ok (OK.index 14 22 5 p.gCode_a p1 p.gCode_n (k).toNat k (p1.add ((k).toNat * 5)) (by kernel_rfl) (by kernel_rfl) hp1 (by omega) (by omega) rfl) ?_
    refine J.ok (OK.ldCells 15 44 (p1.add ((k).toNat * 5)) (insC (p.gCode_l.getD (k).toNat ins0)) (by kernel_rfl) (by kernel_rfl) (by kernel_rfl) (fun j_ v_ hj_ => S3.cell (hc1 j_ v_ hj_))) ?_
    refine J.new S3 5 [iv 0, iv 0, iv 0, iv 0, iv 0] 44 (by kernel_rfl) ?_
    intro b2 w4 S4
    refine J.stBox S4 0 44 0 (.agg (insA (p.gCode_l.getD (k).toNat ins0))) (insC (p.gCode_l.getD (k).toNat ins0)) [box b2 (insC (p.gCode_l.getD (k).toNat ins0)) 44, box b1 (prgC p) 28] (by kernel_rfl) rfl (by kernel_rfl) (by kernel_rfl) rfl ?_
    intro w5 S5
    refine J.run 1 K10_7 [(5, pv b2), (12, iv k), (11, iv (p.gCode_n : Int)), (10, .slice p.gCode_a p.gCode_n p.gCode_c), (3, iv n)] w5 (by kernel_rfl) ?_
    refine J.drawPlan (fun w_ => Sep w [box b2 (insC (p.gCode_l.getD (k).toNat ins0)) 44, box b1 (prgC p) 28] w_) [(0, true), (2, true), (3, true), (1, false), (4, true), (5, true), (6, false), (7, true), (8, true)] S5 Tryz.mixed (by kernel_rfl) (planOK_of (T := [(0, some 16, 8), (0, some 17, 0), (0, some 18, 32), (4, some 19, 262144), (10, some 20, 655360), (16, some 21, 1048576), (32, some 22, 2097152), (65, some 23, 4259840), (255, some 3, 8388608)]) (by kernel_rfl) (by kernel_rfl)) ?_
    intro w6 S6
    refine PB.mk S6 ?_
    refine PL.take 0 16 (iv n) (fun _ _ => by kernel_rfl) ?_
    refine PL.take 2 18 (pv b2) (fun _ _ => by kernel_rfl) ?_
    refine PL.takeOK 3 (fun w_ S_ => OK.ldBox S_ 0 19 3 0 (iv ((p.gCode_l.getD (k).toNat ins0).gOp)) (by kernel_rfl) rfl (by kernel_rfl)) rfl ?_
    refine PL.callF 17 42 #[] hb42 (by kernel_rfl) (rows_any _) ?_
    rintro _ w7 ⟨bd1, rfl, T2⟩
    have S7 : Sep w [box bd1 (rowsL.flatMap rwoE) 74, box b2 (insC (p.gCode_l.getD (k).toNat ins0)) 44, box b1 (prgC p) 28] w7 := S6.trans T2
    clear T2 S6
    refine PB.mk (S7.erase 0) ?_
    refine PL.takeOK 4 (fun w_ S_ => OK.index 20 75 3 (some ⟨bd1, 0, none⟩) ⟨bd1, 0, none⟩ 23 ((p.gCode_l.getD (k).toNat ins0).gOp).toNat ((p.gCode_l.getD (k).toNat ins0).gOp) ⟨bd1, (((p.gCode_l.getD (k).toNat ins0).gOp).toNat) * 3, none⟩ (by kernel_rfl) (by kernel_rfl) rfl (by omega) (by first | omega | (simp; omega)) (by rw [add_block, Nat.zero_add])) rfl ?_
    refine PL.take 5 21 (.pointer (some ⟨bd1, (((p.gCode_l.getD (k).toNat ins0).gOp).toNat) * 3 + 2, none⟩)) (fun _ _ => by kernel_rfl) ?_
    refine PL.ok (OK.ldCell 22 3 ⟨bd1, (((p.gCode_l.getD (k).toNat ins0).gOp).toNat) * 3 + 2, none⟩ (iv ((rowsL.getD (((p.gCode_l.getD (k).toNat ins0).gOp).toNat) rwo0).gcost)) (by kernel_rfl) (by kernel_rfl) (box_rec_one (s := 3) (S7.nth 0 rfl) (fun _ => rfl) (by decide) rwo0 (((p.gCode_l.getD (k).toNat ins0).gOp).toNat) (by first | omega | (simp; omega)) 2 _ rfl)) ?_
    refine PB.mk (S7.erase 0) ?_
    refine PL.take 7 23 (iv (IntKind.wrap .i64 (n + ((rowsL.getD (((p.gCode_l.getD (k).toNat ins0).gOp).toNat) rwo0).gcost)))) (fun _ _ => by kernel_rfl) ?_
    refine PL.head (iv (n + ((rowsL.getD (((p.gCode_l.getD (k).toNat ins0).gOp).toNat) rwo0).gcost))) (congrArg (Value.int .i64) (IntWalk.i64_in _ (by omega))) ?_
    refine PL.take 8 3 (iv (n + ((rowsL.getD (((p.gCode_l.getD (k).toNat ins0).gOp).toNat) rwo0).gcost))) (fun _ _ => by kernel_rfl) ?_
    refine PL.done ?_
    refine J.run 0 (rRest K10_7) [(3, iv (n + ((rowsL.getD (((p.gCode_l.getD (k).toNat ins0).gOp).toNat) rwo0).gcost))), (12, iv k), (11, iv (p.gCode_n : Int)), (10, .slice p.gCode_a p.gCode_n p.gCode_c)] w7 (by kernel_rfl) ?_
    refine J.run 3 K10_8 [(24, iv (IntKind.wrap .i64 (k + 1))), (3, iv (n + ((rowsL.getD (((p.gCode_l.getD (k).toNat ins0).gOp).toNat) rwo0).gcost))), (11, iv (p.gCode_n : Int)), (10, .slice p.gCode_a p.gCode_n p.gCode_c)] w7 (by kernel_rfl) ?_
    refine J.head (iv (k + 1)) (congrArg (Value.int .i64) (IntWalk.i64_in _ (by omega))) ?_
    refine J.run 3 K10_4 [(12, iv (k + 1)), (3, iv (n + ((rowsL.getD (((p.gCode_l.getD (k).toNat ins0).gOp).toNat) rwo0).gcost))), (11, iv (p.gCode_n : Int)), (10, .slice p.gCode_a p.gCode_n p.gCode_c)] w7 (by kernel_rfl) ?_
    have S8 : Sep w [box bd1 (rowsL.flatMap rwoE) 74, box b1 (prgC p) 28] w7 := S7.erase 1
    clear S7
    have S9 : Sep w [box b1 (prgC p) 28] w7 := S8.erase 0
    clear S8
    refine J.run 0 K10_4 [(12, iv (k + 1)), (11, iv (p.gCode_n : Int)), (10, .slice p.gCode_a p.gCode_n p.gCode_c), (3, iv (n + ((rowsL.getD (((p.gCode_l.getD (k).toNat ins0).gOp).toNat) rwo0).gcost)))] w7 (by kernel_rfl) ?_
    exact ih1 _ (show ((p.gCode_n : Int) - (k + 1)).toNat < mm1 from by omega) (n + ((rowsL.getD (((p.gCode_l.getD (k).toNat ins0).gOp).toNat) rwo0).gcost)) (k + 1) w7 (by omega) (by omega) (by rw [show (k + 1).toNat = k.toNat + 1 by omega, costN, ← hn, ← hk3]) S9 rfl
   ·skip
    refine J.head (.bool false) (congrArg Value.bool (decide_eq_false fk2)) ?_
    refine J.run 7 K10_9 [(2, iv n)] w3 (by kernel_rfl) ?_
    refine J.ret Tryz.f10 [iv n] Tryz.func10 ⟨by kernel_rfl, trivial⟩ ?_
    refine hR _ _ ?_
    exact ⟨congrArg (Value.int .i64) (by unfold costX; rw [hv, if_pos rfl, hn, show k.toNat = p.gCode_l.length by omega]), S3.nil⟩
  exact L10_1 _ 0 0 w2 (by omega) (by omega) (rfl) S2 rfl
 ·skip
  refine J.head (.bool true) (congrArg Value.bool (by rw [fk1]; rfl)) ?_
  refine J.run 5 K10_10 [(2, iv 0)] w2 (by kernel_rfl) ?_
  refine J.ret Tryz.f10 [iv 0] Tryz.func10 ⟨by kernel_rfl, trivial⟩ ?_
  refine hR _ _ ?_
  exact ⟨congrArg (Value.int .i64) (by unfold costX; rw [fk1]; rfl), S2.nil⟩

theorem hb43 : HasBody Tryz.prog 43 := fun _ _ => by kernel_rfl
noncomputable def K43_0 : List Item := adv 6 [] (bodyOf Tryz.f43)
noncomputable def K43_1 : List Item := adv 2 [] (popK K43_0)
set_option maxRecDepth 20000 in
set_option maxHeartbeats 20000000 in
theorem costs_any  (w : World) : Ret Tryz.prog 43 #[] w (fun v w' => ∃ b, v = .slice (some ⟨b, 0, none⟩) 23 23 ∧ Sep w [box b (costL.map (Value.int .i64)) 3] w') := by
 have S0 := Sep.refl w
 refine Ret.named fun R hR => ?_
 refine Ret.of_J (N := 2) [] Tryz.func43 rfl rfl (Nat.le_of_ble_eq_true (by kernel_rfl)) (by kernel_rfl) ?_
 refine J.run 6 K43_0 [] w (by kernel_rfl) ?_
 refine J.newSlice S0 1 23 [iv 0, iv 1, iv 2, iv 2, iv 1, iv 3, iv 3, iv 4, iv 12, iv 3, iv 4, iv 1, iv 1, iv 3, iv 4, iv 1, iv 1, iv 1, iv 1, iv 2, iv 20, iv 40, iv 8] 3 (by kernel_rfl) ?_
 intro b1 w1 S1
 refine J.run 2 K43_1 [(0, .slice (some ⟨b1, 0, none⟩) 23 23)] w1 (by kernel_rfl) ?_
 refine J.ret Tryz.f43 [.slice (some ⟨b1, 0, none⟩) 23 23] Tryz.func43 ⟨by kernel_rfl, trivial⟩ ?_
 refine hR _ _ ?_
 exact ⟨_, rfl, S1⟩

theorem hb12 : HasBody Tryz.prog 12 := fun _ _ => by kernel_rfl
noncomputable def K12_0 : List Item := adv 2 [] (bodyOf Tryz.f12)
noncomputable def K12_1 : List Item := adv 8 [] (popK K12_0)
noncomputable def K12_2 : List Item := adv 9 [] (popK K12_1)
noncomputable def K12_3 : List Item := adv 5 [] K12_2
noncomputable def K12_4 : List Item := adv 3 [] (popK K12_3)
noncomputable def K12_5 : List Item := adv 8 [true] K12_4
noncomputable def K12_6 : List Item := adv 1 [] (popK K12_5)
noncomputable def K12_7 : List Item := adv 1 [] (popK K12_6)
noncomputable def K12_8 : List Item := adv 1 [] (popK (popK (popK K12_7)))
noncomputable def K12_9 : List Item := adv 6 [] K12_8
noncomputable def K12_10 : List Item := adv 7 [false] K12_4
set_option maxRecDepth 20000 in
set_option maxHeartbeats 20000000 in
theorem rcost_any (p : Prg) (w : World) (hp : prgQ w p) (hv : validP p = true) : Ret Tryz.prog 12 #[.agg (prgA p)] w (fun v w' => v = iv (costX p) ∧ Sep w [] w') := by
 have S0 := Sep.refl w
 refine Ret.named fun R hR => ?_
 refine Ret.of_J (N := 26) [(0, .agg (prgA p))] Tryz.func12 rfl rfl (Nat.le_of_ble_eq_true (by kernel_rfl)) (by kernel_rfl) ?_
 obtain ⟨q1, q2, q3, q4, q5, q6, q7, q8, q9, q10, q11, q12, q13, q14, q15, q16, q17, q18, q19, q20, q21, q22, q23, q24, q25, _⟩ := id hp
 have ql1 := q2.len_eq
 have ql2 := q5.len_eq
 have ql3 := q8.len_eq
 have ql4 := q11.len_eq
 have ql5 := q15.len_eq
 have ql6 := q18.len_eq
 have ql7 := q21.len_eq
 have ql8 := q24.len_eq
 have hco := fun (j : Nat) (hj : j < p.gCode_l.length) => (formB_iff.1 (fits_form (code_at hv hj)).1).1
 have hcl_ : costL.length = 23 := rfl
 refine J.run 2 K12_0 [(0, .agg (prgA p))] w (by kernel_rfl) ?_
 refine J.new S0 1 (prgC p) 28 (by kernel_rfl) ?_
 intro b1 w1 S1
 refine J.run 8 K12_1 [(3, iv 0), (1, pv b1)] w1 (by kernel_rfl) ?_
 refine J.callF 6 43 #[] hb43 (by kernel_rfl) (costs_any _) ?_
 rintro _ w2 ⟨b2, rfl, T1⟩
 have S2 : Sep w [box b2 (costL.map (Value.int .i64)) 3, box b1 (prgC p) 28] w2 := S1.trans T1
 refine J.run 9 K12_2 [(5, iv 0), (4, .slice (some ⟨b2, 0, none⟩) 23 23), (3, iv 0), (1, pv b1)] w2 (by kernel_rfl) ?_
 have L12_1 : ∀ (mm_ : Nat) (n : Int) (k : Int) (w3 : World), (0 ≤ k) → (k ≤ (p.gCode_n : Int)) → (n = costN p (k).toNat) → Sep w [box b2 (costL.map (Value.int .i64)) 3, box b1 (prgC p) 28] w3 → ((p.gCode_n : Int) - k).toNat = mm_ → J Tryz.prog 12 26 R K12_2 [(5, iv k), (4, .slice (some ⟨b2, 0, none⟩) 23 23), (3, iv n), (1, pv b1)] w3 := by
  intro mm1
  induction mm1 using Nat.strongRecOn with
  | _ mm1 ih1 =>
  intro n k w3 k0 k1 hn S3 hm1
  have hkk : k < (p.gCode_n : Int) → _ := fun h_ => hco k.toNat (by omega)
  have hnb := costN_bd hco k.toNat (by omega)
  have hcb : k < (p.gCode_n : Int) → _ := fun h_ => cost_bd (hkk h_)
  have hrw : k < (p.gCode_n : Int) → _ := fun h_ => rows_at (hkk h_)
  have hrl_ := rows_len
  have hln := (validP_facts hv).1
  refine J.run 5 K12_3 [(8, pv b1), (7, iv k), (5, iv k), (4, .slice (some ⟨b2, 0, none⟩) 23 23), (3, iv n), (1, pv b1)] w3 (by kernel_rfl) ?_
  refine J.ok (OK.ldBox S3 1 9 22 0 (.slice p.gCode_a p.gCode_n p.gCode_c) (by kernel_rfl) rfl (by kernel_rfl)) ?_
  refine J.run 3 K12_4 [(11, .bool (decide (k < (p.gCode_n : Int)))), (5, iv k), (4, .slice (some ⟨b2, 0, none⟩) 23 23), (3, iv n), (1, pv b1)] w3 (by kernel_rfl) ?_
  by_cases fk1 : k < (p.gCode_n : Int)
  ·skip
   refine J.head (.bool true) (congrArg Value.bool (decide_eq_true fk1)) ?_
   have hk1 := hkk (by omega)
   have hk2 := hcb (by omega)
   refine J.run 8 K12_5 [(16, pv b1), (15, .slice (some ⟨b2, 0, none⟩) 23 23), (14, iv n), (5, iv k), (4, .slice (some ⟨b2, 0, none⟩) 23 23), (1, pv b1)] w3 (by kernel_rfl) ?_
   refine J.ok (OK.ldBox S3 1 17 22 0 (.slice p.gCode_a p.gCode_n p.gCode_c) (by kernel_rfl) rfl (by kernel_rfl)) ?_
   refine J.run 1 K12_6 [(18, iv k), (17, .slice p.gCode_a p.gCode_n p.gCode_c), (15, .slice (some ⟨b2, 0, none⟩) 23 23), (14, iv n), (5, iv k), (4, .slice (some ⟨b2, 0, none⟩) 23 23), (1, pv b1)] w3 (by kernel_rfl) ?_
   obtain ⟨p1, hp1, hc1⟩ := q2.at ins0 (k).toNat (by omega)
   have hel1 := getD_Q q3 ins0 (n := (k).toNat) (by have := q2.len_eq; omega)
   obtain ⟨q26, q27, q28, q29, q30, _⟩ := id hel1
   refine J.ok (OK.index 19 22 5 p.gCode_a p1 p.gCode_n (k).toNat k (p1.add ((k).toNat * 5)) (by kernel_rfl) (by kernel_rfl) hp1 (by omega) (by omega) rfl) ?_
   refine J.run 1 K12_7 [(20, .pointer (some ((p1.add ((k).toNat * 5)).add 0))), (15, .slice (some ⟨b2, 0, none⟩) 23 23), (14, iv n), (5, iv k), (4, .slice (some ⟨b2, 0, none⟩) 23 23), (1, pv b1)] w3 (by kernel_rfl) ?_
   refine J.ok (OK.ldCell 21 3 ((p1.add ((k).toNat * 5)).add 0) (iv ((p.gCode_l.getD (k).toNat ins0).gOp)) (by kernel_rfl) (by kernel_rfl) (S3.cell (hc1 0 _ rfl))) ?_
   refine J.ok (OK.index 22 26 1 (some ⟨b2, 0, none⟩) ⟨b2, 0, none⟩ 23 ((p.gCode_l.getD (k).toNat ins0).gOp).toNat ((p.gCode_l.getD (k).toNat ins0).gOp) ⟨b2, ((p.gCode_l.getD (k).toNat ins0).gOp).toNat, none⟩ (by kernel_rfl) (by kernel_rfl) rfl (by omega) (by first | omega | (simp; omega)) (by rw [Nat.mul_one, add_block, Nat.zero_add])) ?_
   refine J.ok (OK.ldArr (Value.int .i64) S3 0 23 3 (((p.gCode_l.getD (k).toNat ins0).gOp).toNat) 0 (by kernel_rfl) (by kernel_rfl) rfl (by first | omega | (simp; omega))) ?_
   refine J.run 1 K12_8 [(24, iv (IntKind.wrap .i64 (n + (costL.getD (((p.gCode_l.getD (k).toNat ins0).gOp).toNat) 0)))), (5, iv k), (4, .slice (some ⟨b2, 0, none⟩) 23 23), (1, pv b1)] w3 (by kernel_rfl) ?_
   refine J.head (iv (n + (costL.getD (((p.gCode_l.getD (k).toNat ins0).gOp).toNat) 0))) (congrArg (Value.int .i64) (IntWalk.i64_in _ (by omega))) ?_
   refine J.run 6 K12_9 [(13, iv (IntKind.wrap .i64 (k + 1))), (3, iv (n + (costL.getD (((p.gCode_l.getD (k).toNat ins0).gOp).toNat) 0))), (4, .slice (some ⟨b2, 0, none⟩) 23 23), (1, pv b1)] w3 (by kernel_rfl) ?_
   refine J.head (iv (k + 1)) (congrArg (Value.int .i64) (IntWalk.i64_in _ (by omega))) ?_
   refine J.run 3 K12_2 [(5, iv (k + 1)), (3, iv (n + (costL.getD (((p.gCode_l.getD (k).toNat ins0).gOp).toNat) 0))), (4, .slice (some ⟨b2, 0, none⟩) 23 23), (1, pv b1)] w3 (by kernel_rfl) ?_
   refine J.run 0 K12_2 [(5, iv (k + 1)), (4, .slice (some ⟨b2, 0, none⟩) 23 23), (3, iv (n + (costL.getD (((p.gCode_l.getD (k).toNat ins0).gOp).toNat) 0))), (1, pv b1)] w3 (by kernel_rfl) ?_
   exact ih1 _ (show ((p.gCode_n : Int) - (k + 1)).toNat < mm1 from by omega) (n + (costL.getD (((p.gCode_l.getD (k).toNat ins0).gOp).toNat) 0)) (k + 1) w3 (by omega) (by omega) (by rw [show (k + 1).toNat = k.toNat + 1 by omega, costN, ← hn]) S3 rfl
  ·skip
   refine J.head (.bool false) (congrArg Value.bool (decide_eq_false fk1)) ?_
   refine J.run 7 K12_10 [(2, iv n)] w3 (by kernel_rfl) ?_
   refine J.ret Tryz.f12 [iv n] Tryz.func12 ⟨by kernel_rfl, trivial⟩ ?_
   refine hR _ _ ?_
   exact ⟨congrArg (Value.int .i64) (by unfold costX; rw [hv, if_pos rfl, hn, show k.toNat = p.gCode_l.length by omega]), S3.nil⟩
 exact L12_1 _ 0 0 w2 (by omega) (by omega) (rfl) S2 rfl

theorem list_ext_getD {l m : List Int} (h : l.length = m.length) (h2 : ∀ k, k < l.length → l.getD k 0 = m.getD k 0) : l = m := by
  apply List.ext_getElem h
  intro k h3 h4
  have := h2 k h3
  simpa [List.getD, h3, h4] using this
theorem hb9 : HasBody Tryz.prog 9 := fun _ _ => by kernel_rfl
noncomputable def K9_0 : List Item := adv 2 [] (bodyOf Tryz.f9)
noncomputable def K9_1 : List Item := adv 6 [] (popK (popK K9_0))
noncomputable def K9_2 : List Item := adv 1 [] (popK K9_1)
noncomputable def K9_3 : List Item := adv 1 [] (popK (popK K9_2))
noncomputable def K9_4 : List Item := adv 1 [] K9_3
noncomputable def K9_5 : List Item := adv 2 [] (popK K9_4)
noncomputable def K9_6 : List Item := adv 4 [] (popK K9_5)
noncomputable def K9_7 : List Item := adv 9 [false] K9_6
noncomputable def K9_8 : List Item := adv 5 [] K9_7
noncomputable def K9_9 : List Item := adv 3 [] (popK K9_8)
noncomputable def K9_10 : List Item := adv 5 [true] K9_9
noncomputable def K9_11 : List Item := adv 6 [false] (rRest K9_10)
noncomputable def K9_12 : List Item := adv 5 [true] (rRest K9_10)
noncomputable def K9_13 : List Item := adv 6 [false] K9_9
noncomputable def K9_14 : List Item := adv 5 [true] K9_6
noncomputable def K9_15 : List Item := adv 14 [true] K9_3
set_option maxRecDepth 20000 in
set_option maxHeartbeats 20000000 in
theorem same_any (x0 x1 x2 x3 x4 x5 x6 x7 x8 x9 x10 x11 x12 x13 x14 x15 : Int) (y0 y1 y2 y3 y4 y5 y6 y7 y8 y9 y10 y11 y12 y13 y14 y15 : Int) (la : Option Addr) (na ca : Nat) (xl : List Int) (lb : Option Addr) (nb cb : Nat) (yl : List Int) (w : World) (ha : Ints w la na xl) (hb : Ints w lb nb yl) (hla : na ≤ 9223372036854775807) : Ret Tryz.prog 9 #[.agg #[iv x0, iv x1, iv x2, iv x3, iv x4, iv x5, iv x6, iv x7, iv x8, iv x9, iv x10, iv x11, iv x12, iv x13, iv x14, iv x15, .slice la na ca], .agg #[iv y0, iv y1, iv y2, iv y3, iv y4, iv y5, iv y6, iv y7, iv y8, iv y9, iv y10, iv y11, iv y12, iv y13, iv y14, iv y15, .slice lb nb cb]] w (fun v w' => v = .bool (sameR [x0, x1, x2, x3, x4, x5, x6, x7, x8, x9, x10, x11, x12, x13, x14, x15] [y0, y1, y2, y3, y4, y5, y6, y7, y8, y9, y10, y11, y12, y13, y14, y15] xl yl) ∧ Sep w [] w') := by
 have S0 := Sep.refl w
 refine Ret.named fun R hR => ?_
 refine Ret.of_J (N := 38) [(0, .agg #[iv x0, iv x1, iv x2, iv x3, iv x4, iv x5, iv x6, iv x7, iv x8, iv x9, iv x10, iv x11, iv x12, iv x13, iv x14, iv x15, .slice la na ca]), (1, .agg #[iv y0, iv y1, iv y2, iv y3, iv y4, iv y5, iv y6, iv y7, iv y8, iv y9, iv y10, iv y11, iv y12, iv y13, iv y14, iv y15, .slice lb nb cb])] Tryz.func9 rfl rfl (Nat.le_of_ble_eq_true (by kernel_rfl)) (by kernel_rfl) ?_
 have hla_ := ha.len_eq
 have hlb_ := hb.len_eq
 refine J.run 2 K9_0 [(0, .agg #[iv x0, iv x1, iv x2, iv x3, iv x4, iv x5, iv x6, iv x7, iv x8, iv x9, iv x10, iv x11, iv x12, iv x13, iv x14, iv x15, .slice la na ca]), (1, .agg #[iv y0, iv y1, iv y2, iv y3, iv y4, iv y5, iv y6, iv y7, iv y8, iv y9, iv y10, iv y11, iv y12, iv y13, iv y14, iv y15, .slice lb nb cb])] w (by kernel_rfl) ?_
 refine J.new S0 2 [iv x0, iv x1, iv x2, iv x3, iv x4, iv x5, iv x6, iv x7, iv x8, iv x9, iv x10, iv x11, iv x12, iv x13, iv x14, iv x15, .slice la na ca] 33 (by kernel_rfl) ?_
 intro b1 w1 S1
 refine J.new S1 3 [iv y0, iv y1, iv y2, iv y3, iv y4, iv y5, iv y6, iv y7, iv y8, iv y9, iv y10, iv y11, iv y12, iv y13, iv y14, iv y15, .slice lb nb cb] 33 (by kernel_rfl) ?_
 intro b2 w2 S2
 refine J.run 6 K9_1 [(6, pv b1), (3, pv b2), (2, pv b1)] w2 (by kernel_rfl) ?_
 refine J.ok (OK.ldBox S2 1 7 31 0 (.agg #[iv x0, iv x1, iv x2, iv x3, iv x4, iv x5, iv x6, iv x7, iv x8, iv x9, iv x10, iv x11, iv x12, iv x13, iv x14, iv x15]) (by kernel_rfl) rfl (by kernel_rfl)) ?_
 refine J.run 1 K9_2 [(8, pv b2), (7, .agg #[iv x0, iv x1, iv x2, iv x3, iv x4, iv x5, iv x6, iv x7, iv x8, iv x9, iv x10, iv x11, iv x12, iv x13, iv x14, iv x15]), (3, pv b2), (2, pv b1)] w2 (by kernel_rfl) ?_
 refine J.ok (OK.ldBox S2 0 9 31 0 (.agg #[iv y0, iv y1, iv y2, iv y3, iv y4, iv y5, iv y6, iv y7, iv y8, iv y9, iv y10, iv y11, iv y12, iv y13, iv y14, iv y15]) (by kernel_rfl) rfl (by kernel_rfl)) ?_
 refine J.ok (OK.eqS 10 false 31 #[iv x0, iv x1, iv x2, iv x3, iv x4, iv x5, iv x6, iv x7, iv x8, iv x9, iv x10, iv x11, iv x12, iv x13, iv x14, iv x15] #[iv y0, iv y1, iv y2, iv y3, iv y4, iv y5, iv y6, iv y7, iv y8, iv y9, iv y10, iv y11, iv y12, iv y13, iv y14, iv y15] ((x0 == y0) && ((x1 == y1) && ((x2 == y2) && ((x3 == y3) && ((x4 == y4) && ((x5 == y5) && ((x6 == y6) && ((x7 == y7) && ((x8 == y8) && ((x9 == y9) && ((x10 == y10) && ((x11 == y11) && ((x12 == y12) && ((x13 == y13) && ((x14 == y14) && ((x15 == y15) && true)))))))))))))))) (by kernel_rfl) (by kernel_rfl) (by kernel_rfl) (!((x0 == y0) && ((x1 == y1) && ((x2 == y2) && ((x3 == y3) && ((x4 == y4) && ((x5 == y5) && ((x6 == y6) && ((x7 == y7) && ((x8 == y8) && ((x9 == y9) && ((x10 == y10) && ((x11 == y11) && ((x12 == y12) && ((x13 == y13) && ((x14 == y14) && (x15 == y15))))))))))))))))) (by simp)) ?_
 refine J.run 1 K9_3 [(11, .bool (!((x0 == y0) && ((x1 == y1) && ((x2 == y2) && ((x3 == y3) && ((x4 == y4) && ((x5 == y5) && ((x6 == y6) && ((x7 == y7) && ((x8 == y8) && ((x9 == y9) && ((x10 == y10) && ((x11 == y11) && ((x12 == y12) && ((x13 == y13) && ((x14 == y14) && (x15 == y15)))))))))))))))))), (3, pv b2), (2, pv b1)] w2 (by kernel_rfl) ?_
 rcases Bool.eq_false_or_eq_true ((x0 == y0) && ((x1 == y1) && ((x2 == y2) && ((x3 == y3) && ((x4 == y4) && ((x5 == y5) && ((x6 == y6) && ((x7 == y7) && ((x8 == y8) && ((x9 == y9) && ((x10 == y10) && ((x11 == y11) && ((x12 == y12) && ((x13 == y13) && ((x14 == y14) && (x15 == y15)))))))))))))))) with fk1 | fk1
 ·skip
  refine J.head (.bool false) (congrArg Value.bool (by rw [fk1]; rfl)) ?_
  refine J.run 1 K9_4 [(12, .pointer (some ⟨b1, 16, none⟩)), (11, .bool false), (3, pv b2), (2, pv b1)] w2 (by kernel_rfl) ?_
  refine J.ok (OK.ldBox S2 1 13 26 16 (.slice la na ca) (by kernel_rfl) rfl (by kernel_rfl)) ?_
  refine J.run 2 K9_5 [(15, .pointer (some ⟨b2, 16, none⟩)), (14, iv (na : Int)), (11, .bool false), (3, pv b2), (2, pv b1)] w2 (by kernel_rfl) ?_
  refine J.ok (OK.ldBox S2 0 16 26 16 (.slice lb nb cb) (by kernel_rfl) rfl (by kernel_rfl)) ?_
  refine J.run 4 K9_6 [(19, .bool ((na : Int) != (nb : Int))), (3, pv b2), (2, pv b1)] w2 (by kernel_rfl) ?_
  by_cases fk2 : (na : Int) = (nb : Int)
  ·skip
   refine J.head (.bool false) (congrArg Value.bool (bne_eq_false_iff_eq.2 fk2)) ?_
   refine J.run 9 K9_7 [(5, iv 0), (3, pv b2), (2, pv b1)] w2 (by kernel_rfl) ?_
   have L9_1 : ∀ (mm_ : Nat) (i : Int) (w3 : World), (0 ≤ i) → (i ≤ (na : Int)) → (∀ j, j < (i).toNat → xl.getD j 0 = yl.getD j 0) → Sep w [box b2 [iv y0, iv y1, iv y2, iv y3, iv y4, iv y5, iv y6, iv y7, iv y8, iv y9, iv y10, iv y11, iv y12, iv y13, iv y14, iv y15, .slice lb nb cb] 33, box b1 [iv x0, iv x1, iv x2, iv x3, iv x4, iv x5, iv x6, iv x7, iv x8, iv x9, iv x10, iv x11, iv x12, iv x13, iv x14, iv x15, .slice la na ca] 33] w3 → ((na : Int) - i).toNat = mm_ → J Tryz.prog 9 38 R K9_7 [(5, iv i), (3, pv b2), (2, pv b1)] w3 := by
    intro mm1
    induction mm1 using Nat.strongRecOn with
    | _ mm1 ih1 =>
    intro i w3 h0 h1 hq S3 hm1
    refine J.run 5 K9_8 [(21, .pointer (some ⟨b1, 16, none⟩)), (20, iv i), (5, iv i), (3, pv b2), (2, pv b1)] w3 (by kernel_rfl) ?_
    refine J.ok (OK.ldBox S3 1 22 26 16 (.slice la na ca) (by kernel_rfl) rfl (by kernel_rfl)) ?_
    refine J.run 3 K9_9 [(24, .bool (decide (i < (na : Int)))), (5, iv i), (3, pv b2), (2, pv b1)] w3 (by kernel_rfl) ?_
    by_cases fk3 : i < (na : Int)
    ·skip
     refine J.head (.bool true) (congrArg Value.bool (decide_eq_true fk3)) ?_
     refine J.run 5 K9_10 [(5, iv i), (3, pv b2), (2, pv b1)] w3 (by kernel_rfl) ?_
     obtain ⟨p1, hp1, hc1⟩ := ha.at 0 (i).toNat (by omega)
     obtain ⟨p2, hp2, hc2⟩ := hb.at 0 (i).toNat (by omega)
     refine J.drawStill S3 11 Tryz.mixed (by kernel_rfl) (by kernel_rfl) (by kernel_rfl) ?_
     intro w4 S4
     refine SL.ok (by decide) (OK.run 27 (.pointer (some ⟨b1, 16, none⟩)) (by kernel_rfl)) ?_
     refine SL.ok (by decide) (OK.ldBox S4 1 28 26 16 (.slice la na ca) (by kernel_rfl) rfl (by kernel_rfl)) ?_
     refine SL.ok (by decide) (OK.run 29 (iv i) (by kernel_rfl)) ?_
     refine SL.ok (by decide) (OK.index 30 26 1 la p1 na (i).toNat i (p1.add (i).toNat) (by kernel_rfl) (by kernel_rfl) hp1 (by omega) (by omega) (by rw [Nat.mul_one])) ?_
     refine SL.ok (by decide) (OK.ldCell 31 3 (p1.add (i).toNat) (iv (xl.getD (i).toNat 0)) (by kernel_rfl) (by kernel_rfl) (S4.cell hc1)) ?_
     refine SL.ok (by decide) (OK.run 32 (.pointer (some ⟨b2, 16, none⟩)) (by kernel_rfl)) ?_
     refine SL.ok (by decide) (OK.ldBox S4 0 33 26 16 (.slice lb nb cb) (by kernel_rfl) rfl (by kernel_rfl)) ?_
     refine SL.ok (by decide) (OK.run 34 (iv i) (by kernel_rfl)) ?_
     refine SL.ok (by decide) (OK.index 35 26 1 lb p2 nb (i).toNat i (p2.add (i).toNat) (by kernel_rfl) (by kernel_rfl) hp2 (by omega) (by omega) (by rw [Nat.mul_one])) ?_
     refine SL.ok (by decide) (OK.ldCell 36 3 (p2.add (i).toNat) (iv (yl.getD (i).toNat 0)) (by kernel_rfl) (by kernel_rfl) (S4.cell hc2)) ?_
     refine SL.ok (by decide) (OK.run 37 (.bool ((xl.getD (i).toNat 0) != (yl.getD (i).toNat 0))) (by kernel_rfl)) ?_
     refine SL.done ?_
     refine TL.done (by kernel_rfl) ?_
     refine J.run 0 (rRest K9_10) [(37, .bool ((xl.getD (i).toNat 0) != (yl.getD (i).toNat 0))), (5, iv i), (3, pv b2), (2, pv b1)] w4 (by kernel_rfl) ?_
     by_cases fk4 : (xl.getD (i).toNat 0) = (yl.getD (i).toNat 0)
     ·skip
      refine J.head (.bool false) (congrArg Value.bool (bne_eq_false_iff_eq.2 fk4)) ?_
      refine J.run 6 K9_11 [(26, iv (IntKind.wrap .i64 (i + 1))), (3, pv b2), (2, pv b1)] w4 (by kernel_rfl) ?_
      refine J.head (iv (i + 1)) (congrArg (Value.int .i64) (IntWalk.i64_in _ (by omega))) ?_
      refine J.run 3 K9_7 [(5, iv (i + 1)), (3, pv b2), (2, pv b1)] w4 (by kernel_rfl) ?_
      refine J.run 0 K9_7 [(5, iv (i + 1)), (3, pv b2), (2, pv b1)] w4 (by kernel_rfl) ?_
      exact ih1 _ (show ((na : Int) - (i + 1)).toNat < mm1 from by omega) (i + 1) w4 (by omega) (by omega) (by intro j hj; by_cases e : j = i.toNat; (subst e; exact fk4); exact hq j (by omega)) S4 rfl
     ·skip
      refine J.head (.bool true) (congrArg Value.bool (bne_iff_ne.2 fk4)) ?_
      refine J.run 5 K9_12 [(4, .bool false)] w4 (by kernel_rfl) ?_
      refine J.ret Tryz.f9 [.bool false] Tryz.func9 ⟨by kernel_rfl, trivial⟩ ?_
      refine hR _ _ ?_
      exact ⟨congrArg Value.bool (sameR_no (.inr (.inr ⟨i.toNat, fk4⟩))).symm, S4.nil⟩
    ·skip
     refine J.head (.bool false) (congrArg Value.bool (decide_eq_false fk3)) ?_
     refine J.run 6 K9_13 [(4, .bool true)] w3 (by kernel_rfl) ?_
     refine J.ret Tryz.f9 [.bool true] Tryz.func9 ⟨by kernel_rfl, trivial⟩ ?_
     refine hR _ _ ?_
     have hre : ([x0, x1, x2, x3, x4, x5, x6, x7, x8, x9, x10, x11, x12, x13, x14, x15] == [y0, y1, y2, y3, y4, y5, y6, y7, y8, y9, y10, y11, y12, y13, y14, y15]) = true := by simp only [List.cons_beq_cons]; simpa using fk1
     have hle : xl = yl := list_ext_getD (by omega) (fun j hj => hq j (by omega))
     exact ⟨congrArg Value.bool (by unfold sameR; rw [hre, hle, beq_self_eq_true]; rfl), S3.nil⟩
   exact L9_1 _ 0 w2 (by omega) (by omega) (by intro j hj; simp at hj) S2 rfl
  ·skip
   refine J.head (.bool true) (congrArg Value.bool (bne_iff_ne.2 fk2)) ?_
   refine J.run 5 K9_14 [(4, .bool false)] w2 (by kernel_rfl) ?_
   refine J.ret Tryz.f9 [.bool false] Tryz.func9 ⟨by kernel_rfl, trivial⟩ ?_
   refine hR _ _ ?_
   exact ⟨congrArg Value.bool (sameR_no (.inr (.inl (by omega)))).symm, S2.nil⟩
 ·skip
  refine J.head (.bool true) (congrArg Value.bool (by rw [fk1]; rfl)) ?_
  refine J.run 14 K9_15 [(4, .bool false)] w2 (by kernel_rfl) ?_
  refine J.ret Tryz.f9 [.bool false] Tryz.func9 ⟨by kernel_rfl, trivial⟩ ?_
  refine hR _ _ ?_
  have hre : ([x0, x1, x2, x3, x4, x5, x6, x7, x8, x9, x10, x11, x12, x13, x14, x15] == [y0, y1, y2, y3, y4, y5, y6, y7, y8, y9, y10, y11, y12, y13, y14, y15]) = false := by simp only [List.cons_beq_cons]; simpa using fk1
  exact ⟨congrArg Value.bool (sameR_no (.inl hre)).symm, S2.nil⟩

end Go.Proofs.YthfpejhonhaggaaGreatDoor

