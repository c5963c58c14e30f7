/- Walks of functions of this seat, printed by a program over the engine. Conditions: as each theorem says. -/
import Derived.Test.YthiklimfffhbaaaDoorZtS6
namespace Go.Proofs.YthiklimfffhbaaaDoor
open Go.Eng Go.RowKit
set_option linter.unusedSimpArgs false
set_option linter.unusedVariables false
theorem fault_zero {d : Db} (h : (faultF d).2 = 0) : ∀ k, k < d.gFrames_l.length → headErr d k = 0 ∧ ∀ j, j < (d.gFrames_l.getD k frm0).gSignals_l.length → sigErr (d.gFrames_l.getD k frm0) j = 0 := by
  intro k hk
  unfold faultF at h
  split at h
  · cases h
  · have := pick_zero h k hk
    unfold frmR at this
    split at this
    · rename_i h2; exact absurd this h2
    · rename_i h2; exact ⟨by simpa using h2, sigs_zero this⟩
theorem sig_zero {f : Frm} {k : Nat} (h : sigErr f k = 0) : sigOK (f.gSignals_l.getD k sig0) = true ∧ (∀ b ∈ sbits (f.gSignals_l.getD k sig0), outB f b = false) ∧ ∀ x ∈ f.gSignals_l.take k, lapB (f.gSignals_l.getD k sig0) x = false := by
  unfold sigErr at h
  split at h
  · omega
  rename_i h1
  split at h
  · omega
  rename_i h2
  split at h
  · omega
  rename_i h3
  simp only [Bool.not_eq_true, Bool.not_eq_false, List.any_eq_false] at h1 h2 h3
  refine ⟨h1, h2, fun x hx => ?_⟩
  have := h3 x hx
  simp only [Bool.or_eq_false_iff] at this
  exact this.2
theorem hb11 : HasBody Tryd.prog 11 := fun _ _ => by kernel_rfl
theorem hb13 : HasBody Tryd.prog 13 := fun _ _ => by kernel_rfl
noncomputable def K13_0 : List Item := adv 2 [] (bodyOf Tryd.f13)
noncomputable def K13_1 : List Item := adv 6 [] (popK (popK K13_0))
noncomputable def K13_2 : List Item := adv 1 [] (popK K13_1)
noncomputable def K13_3 : List Item := adv 1 [] (popK K13_2)
noncomputable def K13_4 : List Item := adv 2 [] K13_3
noncomputable def K13_5 : List Item := adv 1 [] (popK K13_4)
noncomputable def K13_6 : List Item := adv 1 [] (popK K13_5)
noncomputable def K13_7 : List Item := adv 3 [] K13_6
noncomputable def K13_8 : List Item := adv 1 [] (popK K13_7)
noncomputable def K13_9 : List Item := adv 1 [] (popK K13_8)
noncomputable def K13_10 : List Item := adv 3 [] K13_9
noncomputable def K13_11 : List Item := adv 1 [] (popK K13_10)
noncomputable def K13_12 : List Item := adv 1 [] (popK K13_11)
noncomputable def K13_13 : List Item := adv 3 [] K13_12
noncomputable def K13_14 : List Item := adv 2 [] (popK K13_13)
noncomputable def K13_15 : List Item := adv 2 [] (popK K13_14)
noncomputable def K13_16 : List Item := adv 11 [false] K13_15
noncomputable def K13_17 : List Item := adv 5 [] K13_16
noncomputable def K13_18 : List Item := adv 3 [] (popK K13_17)
noncomputable def K13_19 : List Item := adv 5 [true] K13_18
noncomputable def K13_20 : List Item := adv 6 [false] (rRest K13_19)
noncomputable def K13_21 : List Item := adv 6 [false] K13_18
set_option maxRecDepth 20000 in
set_option maxHeartbeats 20000000 in
theorem same_any (f : Frm) (w : World) (hf : frmQ w f) : Ret Tryd.prog 13 #[.agg #[.string f.gName, .int .i64 f.gID, .int .i64 f.gLength, .bool f.gGuarded, .slice f.gSignals_a f.gSignals_n f.gSignals_c], .agg #[.string f.gName, .int .i64 f.gID, .int .i64 f.gLength, .bool f.gGuarded, .slice f.gSignals_a f.gSignals_n f.gSignals_c]] w (fun v w' => v = .bool true ∧ Sep w [] w') := by
 have S0 := Sep.refl w
 refine Ret.named fun R hR => ?_
 refine Ret.of_J (N := 59) [(0, .agg #[.string f.gName, .int .i64 f.gID, .int .i64 f.gLength, .bool f.gGuarded, .slice f.gSignals_a f.gSignals_n f.gSignals_c]), (1, .agg #[.string f.gName, .int .i64 f.gID, .int .i64 f.gLength, .bool f.gGuarded, .slice f.gSignals_a f.gSignals_n f.gSignals_c])] Tryd.func13 rfl rfl (Nat.le_of_ble_eq_true (by kernel_rfl)) (by kernel_rfl) ?_
 obtain ⟨q1, q2, q3, q4, q5, q6, _⟩ := id hf
 have ql1 := q5.len_eq
 refine J.run 2 K13_0 [(0, .agg #[.string f.gName, .int .i64 f.gID, .int .i64 f.gLength, .bool f.gGuarded, .slice f.gSignals_a f.gSignals_n f.gSignals_c]), (1, .agg #[.string f.gName, .int .i64 f.gID, .int .i64 f.gLength, .bool f.gGuarded, .slice f.gSignals_a f.gSignals_n f.gSignals_c])] w (by kernel_rfl) ?_
 refine J.new S0 2 [.string f.gName, .int .i64 f.gID, .int .i64 f.gLength, .bool f.gGuarded, .slice f.gSignals_a f.gSignals_n f.gSignals_c] 34 (by kernel_rfl) ?_
 intro b1 w1 S1
 refine J.new S1 3 [.string f.gName, .int .i64 f.gID, .int .i64 f.gLength, .bool f.gGuarded, .slice f.gSignals_a f.gSignals_n f.gSignals_c] 34 (by kernel_rfl) ?_
 intro b2 w2 S2
 refine J.run 6 K13_1 [(6, .pointer (some ⟨b1, 0, none⟩)), (3, .pointer (some ⟨b2, 0, none⟩)), (2, .pointer (some ⟨b1, 0, none⟩))] w2 (by kernel_rfl) ?_
 refine J.ok (OK.ldBox S2 1 7 9 0 (.string f.gName) (by kernel_rfl) rfl (by kernel_rfl)) ?_
 refine J.run 1 K13_2 [(8, .pointer (some ⟨b2, 0, none⟩)), (7, .string f.gName), (3, .pointer (some ⟨b2, 0, none⟩)), (2, .pointer (some ⟨b1, 0, none⟩))] w2 (by kernel_rfl) ?_
 refine J.ok (OK.ldBox S2 0 9 9 0 (.string f.gName) (by kernel_rfl) rfl (by kernel_rfl)) ?_
 refine J.run 1 K13_3 [(10, .bool (!(f.gName.toList == f.gName.toList))), (3, .pointer (some ⟨b2, 0, none⟩)), (2, .pointer (some ⟨b1, 0, none⟩))] w2 (by kernel_rfl) ?_
 refine J.head (.bool false) (congrArg Value.bool (by simp)) ?_
 refine J.run 2 K13_4 [(12, .pointer (some ⟨b1, 1, none⟩)), (11, .bool false), (3, .pointer (some ⟨b2, 0, none⟩)), (2, .pointer (some ⟨b1, 0, none⟩))] w2 (by kernel_rfl) ?_
 refine J.ok (OK.ldBox S2 1 13 3 1 (.int .i64 f.gID) (by kernel_rfl) rfl (by kernel_rfl)) ?_
 refine J.run 1 K13_5 [(14, .pointer (some ⟨b2, 1, none⟩)), (13, .int .i64 f.gID), (11, .bool false), (3, .pointer (some ⟨b2, 0, none⟩)), (2, .pointer (some ⟨b1, 0, none⟩))] w2 (by kernel_rfl) ?_
 refine J.ok (OK.ldBox S2 0 15 3 1 (.int .i64 f.gID) (by kernel_rfl) rfl (by kernel_rfl)) ?_
 refine J.run 1 K13_6 [(16, .bool (f.gID != f.gID)), (11, .bool false), (3, .pointer (some ⟨b2, 0, none⟩)), (2, .pointer (some ⟨b1, 0, none⟩))] w2 (by kernel_rfl) ?_
 refine J.head (.bool false) (congrArg Value.bool (by simp)) ?_
 refine J.run 3 K13_7 [(19, .pointer (some ⟨b1, 2, none⟩)), (18, .bool false), (3, .pointer (some ⟨b2, 0, none⟩)), (2, .pointer (some ⟨b1, 0, none⟩))] w2 (by kernel_rfl) ?_
 refine J.ok (OK.ldBox S2 1 20 3 2 (.int .i64 f.gLength) (by kernel_rfl) rfl (by kernel_rfl)) ?_
 refine J.run 1 K13_8 [(21, .pointer (some ⟨b2, 2, none⟩)), (20, .int .i64 f.gLength), (18, .bool false), (3, .pointer (some ⟨b2, 0, none⟩)), (2, .pointer (some ⟨b1, 0, none⟩))] w2 (by kernel_rfl) ?_
 refine J.ok (OK.ldBox S2 0 22 3 2 (.int .i64 f.gLength) (by kernel_rfl) rfl (by kernel_rfl)) ?_
 refine J.run 1 K13_9 [(23, .bool (f.gLength != f.gLength)), (18, .bool false), (3, .pointer (some ⟨b2, 0, none⟩)), (2, .pointer (some ⟨b1, 0, none⟩))] w2 (by kernel_rfl) ?_
 refine J.head (.bool false) (congrArg Value.bool (by simp)) ?_
 refine J.run 3 K13_10 [(26, .pointer (some ⟨b1, 3, none⟩)), (25, .bool false), (3, .pointer (some ⟨b2, 0, none⟩)), (2, .pointer (some ⟨b1, 0, none⟩))] w2 (by kernel_rfl) ?_
 refine J.ok (OK.ldBox S2 1 27 4 3 (.bool f.gGuarded) (by kernel_rfl) rfl (by kernel_rfl)) ?_
 refine J.run 1 K13_11 [(28, .pointer (some ⟨b2, 3, none⟩)), (27, .bool f.gGuarded), (25, .bool false), (3, .pointer (some ⟨b2, 0, none⟩)), (2, .pointer (some ⟨b1, 0, none⟩))] w2 (by kernel_rfl) ?_
 refine J.ok (OK.ldBox S2 0 29 4 3 (.bool f.gGuarded) (by kernel_rfl) rfl (by kernel_rfl)) ?_
 refine J.run 1 K13_12 [(30, .bool (!(f.gGuarded == f.gGuarded))), (25, .bool false), (3, .pointer (some ⟨b2, 0, none⟩)), (2, .pointer (some ⟨b1, 0, none⟩))] w2 (by kernel_rfl) ?_
 refine J.head (.bool false) (congrArg Value.bool (by simp)) ?_
 refine J.run 3 K13_13 [(33, .pointer (some ⟨b1, 4, none⟩)), (32, .bool false), (3, .pointer (some ⟨b2, 0, none⟩)), (2, .pointer (some ⟨b1, 0, none⟩))] w2 (by kernel_rfl) ?_
 refine J.ok (OK.ldBox S2 1 34 32 4 (.slice f.gSignals_a f.gSignals_n f.gSignals_c) (by kernel_rfl) rfl (by kernel_rfl)) ?_
 refine J.run 2 K13_14 [(36, .pointer (some ⟨b2, 4, none⟩)), (35, .int .i64 (f.gSignals_n : Int)), (32, .bool false), (3, .pointer (some ⟨b2, 0, none⟩)), (2, .pointer (some ⟨b1, 0, none⟩))] w2 (by kernel_rfl) ?_
 refine J.ok (OK.ldBox S2 0 37 32 4 (.slice f.gSignals_a f.gSignals_n f.gSignals_c) (by kernel_rfl) rfl (by kernel_rfl)) ?_
 refine J.run 2 K13_15 [(39, .bool ((f.gSignals_n : Int) != (f.gSignals_n : Int))), (32, .bool false), (3, .pointer (some ⟨b2, 0, none⟩)), (2, .pointer (some ⟨b1, 0, none⟩))] w2 (by kernel_rfl) ?_
 refine J.head (.bool false) (congrArg Value.bool (by simp)) ?_
 refine J.run 11 K13_16 [(5, .int .i64 0), (3, .pointer (some ⟨b2, 0, none⟩)), (2, .pointer (some ⟨b1, 0, none⟩))] w2 (by kernel_rfl) ?_
 have L13_1 : ∀ (mm_ : Nat) (i : Int) (w3 : World), (0 ≤ i) → (i ≤ (f.gSignals_n : Int)) → Sep w [box b2 [.string f.gName, .int .i64 f.gID, .int .i64 f.gLength, .bool f.gGuarded, .slice f.gSignals_a f.gSignals_n f.gSignals_c] 34, box b1 [.string f.gName, .int .i64 f.gID, .int .i64 f.gLength, .bool f.gGuarded, .slice f.gSignals_a f.gSignals_n f.gSignals_c] 34] w3 → ((f.gSignals_n : Int) - i).toNat = mm_ → J Tryd.prog 13 59 R K13_16 [(5, .int .i64 i), (3, .pointer (some ⟨b2, 0, none⟩)), (2, .pointer (some ⟨b1, 0, none⟩))] w3 := by
  intro mm1
  induction mm1 using Nat.strongRecOn with
  | _ mm1 ih1 =>
  intro i w3 h0 h1 S3 hm1
  refine J.run 5 K13_17 [(42, .pointer (some ⟨b1, 4, none⟩)), (41, .int .i64 i), (5, .int .i64 i), (3, .pointer (some ⟨b2, 0, none⟩)), (2, .pointer (some ⟨b1, 0, none⟩))] w3 (by kernel_rfl) ?_
  refine J.ok (OK.ldBox S3 1 43 32 4 (.slice f.gSignals_a f.gSignals_n f.gSignals_c) (by kernel_rfl) rfl (by kernel_rfl)) ?_
  refine J.run 3 K13_18 [(45, .bool (decide (i < (f.gSignals_n : Int)))), (5, .int .i64 i), (3, .pointer (some ⟨b2, 0, none⟩)), (2, .pointer (some ⟨b1, 0, none⟩))] w3 (by kernel_rfl) ?_
  by_cases fk1 : i < (f.gSignals_n : Int)
  ·skip
   refine J.head (.bool true) (congrArg Value.bool (decide_eq_true fk1)) ?_
   refine J.run 5 K13_19 [(5, .int .i64 i), (3, .pointer (some ⟨b2, 0, none⟩)), (2, .pointer (some ⟨b1, 0, none⟩))] w3 (by kernel_rfl) ?_
   obtain ⟨p1, hp1, hc1⟩ := q5.at sig0 (i).toNat (by omega)
   have hel1 := getD_Q q6 sig0 (n := (i).toNat) (by have := q5.len_eq; omega)
   obtain ⟨q7, q8, q9, q10, q11, q12, q13, q14, _⟩ := id hel1
   refine J.drawStill S3 11 Tryd.mixed (by kernel_rfl) (by kernel_rfl) (by kernel_rfl) ?_
   intro w4 S4
   refine SL.ok (by decide) (OK.run 48 (.pointer (some ⟨b1, 4, none⟩)) (by kernel_rfl)) ?_
   refine SL.ok (by decide) (OK.ldBox S4 1 49 32 4 (.slice f.gSignals_a f.gSignals_n f.gSignals_c) (by kernel_rfl) rfl (by kernel_rfl)) ?_
   refine SL.ok (by decide) (OK.run 50 (.int .i64 i) (by kernel_rfl)) ?_
   refine SL.ok (by decide) (OK.index 51 32 10 f.gSignals_a p1 f.gSignals_n (i).toNat i (p1.add ((i).toNat * 10)) (by kernel_rfl) (by kernel_rfl) hp1 (by omega) (by omega) rfl) ?_
   refine SL.ok (by decide) (OK.ldCells 52 57 (p1.add ((i).toNat * 10)) [.string ((f.gSignals_l.getD (i).toNat sig0).gName), .int .i64 ((f.gSignals_l.getD (i).toNat sig0).gStart), .int .i64 ((f.gSignals_l.getD (i).toNat sig0).gLength), .bool ((f.gSignals_l.getD (i).toNat sig0).gMotorola), .bool ((f.gSignals_l.getD (i).toNat sig0).gSigned), .int .i64 ((f.gSignals_l.getD (i).toNat sig0).gNum), .int .i64 ((f.gSignals_l.getD (i).toNat sig0).gOff), .int .i64 ((f.gSignals_l.getD (i).toNat sig0).gDen), .int .i64 ((f.gSignals_l.getD (i).toNat sig0).gLow), .int .i64 ((f.gSignals_l.getD (i).toNat sig0).gHigh)] (by kernel_rfl) (by kernel_rfl) (by kernel_rfl) (fun j_ v_ hj_ => S4.cell (hc1 j_ v_ hj_))) ?_
   refine SL.ok (by decide) (OK.run 53 (.pointer (some ⟨b2, 4, none⟩)) (by kernel_rfl)) ?_
   refine SL.ok (by decide) (OK.ldBox S4 0 54 32 4 (.slice f.gSignals_a f.gSignals_n f.gSignals_c) (by kernel_rfl) rfl (by kernel_rfl)) ?_
   refine SL.ok (by decide) (OK.run 55 (.int .i64 i) (by kernel_rfl)) ?_
   refine SL.ok (by decide) (OK.index 56 32 10 f.gSignals_a p1 f.gSignals_n (i).toNat i (p1.add ((i).toNat * 10)) (by kernel_rfl) (by kernel_rfl) hp1 (by omega) (by omega) rfl) ?_
   refine SL.ok (by decide) (OK.ldCells 57 57 (p1.add ((i).toNat * 10)) [.string ((f.gSignals_l.getD (i).toNat sig0).gName), .int .i64 ((f.gSignals_l.getD (i).toNat sig0).gStart), .int .i64 ((f.gSignals_l.getD (i).toNat sig0).gLength), .bool ((f.gSignals_l.getD (i).toNat sig0).gMotorola), .bool ((f.gSignals_l.getD (i).toNat sig0).gSigned), .int .i64 ((f.gSignals_l.getD (i).toNat sig0).gNum), .int .i64 ((f.gSignals_l.getD (i).toNat sig0).gOff), .int .i64 ((f.gSignals_l.getD (i).toNat sig0).gDen), .int .i64 ((f.gSignals_l.getD (i).toNat sig0).gLow), .int .i64 ((f.gSignals_l.getD (i).toNat sig0).gHigh)] (by kernel_rfl) (by kernel_rfl) (by kernel_rfl) (fun j_ v_ hj_ => S4.cell (hc1 j_ v_ hj_))) ?_
   refine SL.ok (by decide) (OK.eqS 58 false 57 #[.string ((f.gSignals_l.getD (i).toNat sig0).gName), .int .i64 ((f.gSignals_l.getD (i).toNat sig0).gStart), .int .i64 ((f.gSignals_l.getD (i).toNat sig0).gLength), .bool ((f.gSignals_l.getD (i).toNat sig0).gMotorola), .bool ((f.gSignals_l.getD (i).toNat sig0).gSigned), .int .i64 ((f.gSignals_l.getD (i).toNat sig0).gNum), .int .i64 ((f.gSignals_l.getD (i).toNat sig0).gOff), .int .i64 ((f.gSignals_l.getD (i).toNat sig0).gDen), .int .i64 ((f.gSignals_l.getD (i).toNat sig0).gLow), .int .i64 ((f.gSignals_l.getD (i).toNat sig0).gHigh)] #[.string ((f.gSignals_l.getD (i).toNat sig0).gName), .int .i64 ((f.gSignals_l.getD (i).toNat sig0).gStart), .int .i64 ((f.gSignals_l.getD (i).toNat sig0).gLength), .bool ((f.gSignals_l.getD (i).toNat sig0).gMotorola), .bool ((f.gSignals_l.getD (i).toNat sig0).gSigned), .int .i64 ((f.gSignals_l.getD (i).toNat sig0).gNum), .int .i64 ((f.gSignals_l.getD (i).toNat sig0).gOff), .int .i64 ((f.gSignals_l.getD (i).toNat sig0).gDen), .int .i64 ((f.gSignals_l.getD (i).toNat sig0).gLow), .int .i64 ((f.gSignals_l.getD (i).toNat sig0).gHigh)] ((((f.gSignals_l.getD (i).toNat sig0).gName).toList == ((f.gSignals_l.getD (i).toNat sig0).gName).toList) && ((((f.gSignals_l.getD (i).toNat sig0).gStart) == ((f.gSignals_l.getD (i).toNat sig0).gStart)) && ((((f.gSignals_l.getD (i).toNat sig0).gLength) == ((f.gSignals_l.getD (i).toNat sig0).gLength)) && ((((f.gSignals_l.getD (i).toNat sig0).gMotorola) == ((f.gSignals_l.getD (i).toNat sig0).gMotorola)) && ((((f.gSignals_l.getD (i).toNat sig0).gSigned) == ((f.gSignals_l.getD (i).toNat sig0).gSigned)) && ((((f.gSignals_l.getD (i).toNat sig0).gNum) == ((f.gSignals_l.getD (i).toNat sig0).gNum)) && ((((f.gSignals_l.getD (i).toNat sig0).gOff) == ((f.gSignals_l.getD (i).toNat sig0).gOff)) && ((((f.gSignals_l.getD (i).toNat sig0).gDen) == ((f.gSignals_l.getD (i).toNat sig0).gDen)) && ((((f.gSignals_l.getD (i).toNat sig0).gLow) == ((f.gSignals_l.getD (i).toNat sig0).gLow)) && ((((f.gSignals_l.getD (i).toNat sig0).gHigh) == ((f.gSignals_l.getD (i).toNat sig0).gHigh)) && true)))))))))) (by kernel_rfl) (by kernel_rfl) (by kernel_rfl) false (by simp)) ?_
   refine SL.done ?_
   refine TL.done (by kernel_rfl) ?_
   refine J.run 0 (rRest K13_19) [(58, .bool false), (5, .int .i64 i), (3, .pointer (some ⟨b2, 0, none⟩)), (2, .pointer (some ⟨b1, 0, none⟩))] w4 (by kernel_rfl) ?_
   refine J.run 6 K13_20 [(47, .int .i64 (IntKind.wrap .i64 (i + 1))), (3, .pointer (some ⟨b2, 0, none⟩)), (2, .pointer (some ⟨b1, 0, none⟩))] w4 (by kernel_rfl) ?_
   refine J.head (.int .i64 (i + 1)) (congrArg (Value.int .i64) (IntWalk.i64_in _ (by omega))) ?_
   refine J.run 3 K13_16 [(5, .int .i64 (i + 1)), (3, .pointer (some ⟨b2, 0, none⟩)), (2, .pointer (some ⟨b1, 0, none⟩))] w4 (by kernel_rfl) ?_
   refine J.run 0 K13_16 [(5, .int .i64 (i + 1)), (3, .pointer (some ⟨b2, 0, none⟩)), (2, .pointer (some ⟨b1, 0, none⟩))] w4 (by kernel_rfl) ?_
   exact ih1 _ (show ((f.gSignals_n : Int) - (i + 1)).toNat < mm1 from by omega) (i + 1) w4 (by omega) (by omega) S4 rfl
  ·skip
   refine J.head (.bool false) (congrArg Value.bool (decide_eq_false fk1)) ?_
   refine J.run 6 K13_21 [(4, .bool true)] w3 (by kernel_rfl) ?_
   refine J.ret Tryd.f13 [.bool true] Tryd.func13 ⟨by kernel_rfl, trivial⟩ ?_
   refine hR _ _ ?_
   exact ⟨rfl, S3.nil⟩
 exact L13_1 _ 0 w2 (by omega) (by omega) S2 rfl

end Go.Proofs.YthiklimfffhbaaaDoor

