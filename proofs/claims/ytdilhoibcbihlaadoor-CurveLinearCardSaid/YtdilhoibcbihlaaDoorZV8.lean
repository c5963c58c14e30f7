/- Walks of functions of this seat, printed by a program over the engine. Conditions: as each theorem says. -/
import Derived.Test.YtdilhoibcbihlaaDoorZV7
namespace Go.Proofs.YtdilhoibcbihlaaDoor
open Go.Eng Go.RowKit
set_option linter.unusedSimpArgs false
set_option linter.unusedVariables false
theorem hb18 : HasBody Tryd.prog 18 := fun _ _ => by kernel_rfl
noncomputable def K18_0 : List Item := adv 2 [] (bodyOf Tryd.f18)
noncomputable def K18_1 : List Item := adv 5 [] (popK K18_0)
noncomputable def K18_2 : List Item := adv 2 [] (popK (popK K18_1))
noncomputable def K18_3 : List Item := adv 11 [false] K18_2
noncomputable def K18_4 : List Item := adv 2 [] (popK K18_3)
noncomputable def K18_5 : List Item := adv 4 [] K18_4
noncomputable def K18_6 : List Item := adv 5 [] K18_5
noncomputable def K18_7 : List Item := adv 10 [true] K18_6
noncomputable def K18_8 : List Item := adv 3 [] (rRest (rRest K18_7))
noncomputable def K18_9 : List Item := adv 3 [] (rRest (rRest K18_7))
noncomputable def K18_10 : List Item := adv 3 [] (rRest (rRest K18_7))
noncomputable def K18_11 : List Item := adv 3 [] (rRest (rRest K18_7))
noncomputable def K18_12 : List Item := adv 9 [false] K18_6
noncomputable def K18_13 : List Item := adv 5 [true] K18_12
noncomputable def K18_14 : List Item := adv 6 [false] K18_12
noncomputable def K18_15 : List Item := adv 5 [true] K18_14
noncomputable def K18_16 : List Item := adv 7 [false] K18_14
noncomputable def K18_17 : List Item := adv 5 [true] K18_2
set_option maxRecDepth 20000 in
set_option maxHeartbeats 20000000 in
theorem cdir_any (c : Crv) (w : World) (hc : crvQ w c) : Ret Tryd.prog 18 #[.agg #[.slice c.gX_a c.gX_n c.gX_c, .slice c.gY_a c.gY_n c.gY_c]] w (fun v w' => v = .int .i64 (dirV c) ∧ Sep w [] w') := by
  have S0 := Sep.refl w
  refine Ret.named fun R hR => ?_
  refine Ret.of_J (N := 51) [(0, .agg #[.slice c.gX_a c.gX_n c.gX_c, .slice c.gY_a c.gY_n c.gY_c])] Tryd.func18 rfl rfl (Nat.le_of_ble_eq_true (by kernel_rfl)) (by kernel_rfl) ?_
  obtain ⟨q1, q2, q3, q4, q5, q6, _⟩ := id hc
  have ql1 := q2.len_eq
  have ql2 := q5.len_eq
  refine J.run 2 K18_0 [(0, .agg #[.slice c.gX_a c.gX_n c.gX_c, .slice c.gY_a c.gY_n c.gY_c])] w (by kernel_rfl) ?_
  refine J.new S0 1 [.slice c.gX_a c.gX_n c.gX_c, .slice c.gY_a c.gY_n c.gY_c] 24 (by kernel_rfl) ?_
  intro b1 w1 S1
  refine J.run 5 K18_1 [(1, .pointer (some ⟨b1, 0, none⟩))] w1 (by kernel_rfl) ?_
  refine J.ok (OK.ldBox S1 0 6 24 0 (.agg #[.slice c.gX_a c.gX_n c.gX_c, .slice c.gY_a c.gY_n c.gY_c]) (by kernel_rfl) rfl (by kernel_rfl)) ?_
  refine J.callF 7 16 #[.agg #[.slice c.gX_a c.gX_n c.gX_c, .slice c.gY_a c.gY_n c.gY_c]] hb16 (by kernel_rfl) (cvalid_any c _ (crvQ_sep hc S1)) ?_
  rintro _ w2 ⟨rfl, T1⟩
  have S2 : Sep w [box b1 [.slice c.gX_a c.gX_n c.gX_c, .slice c.gY_a c.gY_n c.gY_c] 24] w2 := S1.trans T1
  clear T1 S1
  refine J.run 2 K18_2 [(8, .bool (!(validV c))), (1, .pointer (some ⟨b1, 0, none⟩))] w2 (by kernel_rfl) ?_
  rcases Bool.eq_false_or_eq_true (validV c) with fk1 | fk1
  · skip
    refine J.head (.bool false) (congrArg Value.bool (by rw [fk1]; rfl)) ?_
    have hv := fk1
    obtain ⟨hv1, hv2, hv3⟩ := validV_facts hv
    obtain ⟨hx1, hx2, hx3⟩ := axis_facts hv2
    have hX : c.gX_l.length = c.gX_n := by omega
    have hY : c.gY_l.length = c.gX_n := by omega
    have hxm := axis_mono hv2 (show 0 < ((c.gX_n : Int) - 1).toNat by omega) (by omega)
    have hx0 := hx2 0 (by omega)
    have hxl := hx2 ((c.gX_n : Int) - 1).toNat (by omega)
    have hdv : dirV c = dirL c.gY_l := by unfold dirV; rw [hv]; rfl
    have hyn : ((c.gY_n : Int) - 1).toNat = ((c.gX_n : Int) - 1).toNat := by omega
    refine J.run 11 K18_3 [(9, .pointer (some ⟨b1, 1, none⟩)), (4, .bool true), (3, .bool true), (1, .pointer (some ⟨b1, 0, none⟩))] w2 (by kernel_rfl) ?_
    refine J.ok (OK.ldBox S2 0 10 22 1 (.slice c.gY_a c.gY_n c.gY_c) (by kernel_rfl) rfl (by kernel_rfl)) ?_
    refine J.run 2 K18_4 [(12, .int .i64 (IntKind.wrap .i64 ((c.gY_n : Int) - 1))), (4, .bool true), (3, .bool true), (1, .pointer (some ⟨b1, 0, none⟩))] w2 (by kernel_rfl) ?_
    refine J.head (.int .i64 ((c.gY_n : Int) - 1)) (congrArg (Value.int .i64) (IntWalk.i64_in _ (by omega))) ?_
    refine J.run 4 K18_5 [(13, .int .i64 0), (12, .int .i64 ((c.gY_n : Int) - 1)), (4, .bool true), (3, .bool true), (1, .pointer (some ⟨b1, 0, none⟩))] w2 (by kernel_rfl) ?_
    have L18_1 : ∀ (mm_ : Nat) (up : Bool) (dn : Bool) (i : Int) (w3 : World), (0 ≤ i) → (i + 1 ≤ (c.gY_n : Int)) → (up = upT c.gY_l i) → (dn = dnT c.gY_l i) → Sep w [box b1 [.slice c.gX_a c.gX_n c.gX_c, .slice c.gY_a c.gY_n c.gY_c] 24] w3 → ((c.gY_n : Int) - i).toNat = mm_ → J Tryd.prog 18 51 R K18_5 [(13, .int .i64 i), (12, .int .i64 ((c.gY_n : Int) - 1)), (4, .bool dn), (3, .bool up), (1, .pointer (some ⟨b1, 0, none⟩))] w3 := by
      intro mm1
      induction mm1 using Nat.strongRecOn with
      | _ mm1 ih1 =>
      intro up dn i w3 h0 h1 hup hdn S3 hm1
      refine J.run 5 K18_6 [(14, .bool (decide (i < ((c.gY_n : Int) - 1)))), (13, .int .i64 i), (12, .int .i64 ((c.gY_n : Int) - 1)), (4, .bool dn), (3, .bool up), (1, .pointer (some ⟨b1, 0, none⟩))] w3 (by kernel_rfl) ?_
      by_cases fk2 : i < ((c.gY_n : Int) - 1)
      · skip
        refine J.head (.bool true) (congrArg Value.bool (decide_eq_true fk2)) ?_
        refine J.run 10 K18_7 [(5, .int .i64 i), (13, .int .i64 i), (12, .int .i64 ((c.gY_n : Int) - 1)), (4, .bool dn), (3, .bool up), (1, .pointer (some ⟨b1, 0, none⟩))] w3 (by kernel_rfl) ?_
        rcases Bool.eq_false_or_eq_true up with fk3 | fk3
        · skip
          obtain ⟨p1, hp1, hc1⟩ := q5.at 0 (i).toNat (by omega)
          have hel1 := getD_Q q6 0 (n := (i).toNat) (by have := q5.len_eq; omega)
          obtain ⟨p2, hp2, hc2⟩ := q5.at 0 (i + 1).toNat (by omega)
          have hel2 := getD_Q q6 0 (n := (i + 1).toNat) (by have := q5.len_eq; omega)
          refine J.drawStill S3 16 Tryd.mixed (by kernel_rfl) (by kernel_rfl) (by kernel_rfl) ?_
          intro w4 S4
          refine SL.ok (by decide) (OK.run 16 (.bool up) (by kernel_rfl)) ?_
          refine SL.head (.bool true) (congrArg Value.bool fk3) ?_
          refine SL.ok (by decide) (OK.run 17 (.bool true) (by kernel_rfl)) ?_
          refine SL.ok (by decide) (OK.run 18 (.pointer (some ⟨b1, 1, none⟩)) (by kernel_rfl)) ?_
          refine SL.ok (by decide) (OK.ldBox S4 0 19 22 1 (.slice c.gY_a c.gY_n c.gY_c) (by kernel_rfl) rfl (by kernel_rfl)) ?_
          refine SL.ok (by decide) (OK.run 20 (.int .i64 i) (by kernel_rfl)) ?_
          refine SL.ok (by decide) (OK.index 21 22 1 c.gY_a p1 c.gY_n (i).toNat i (p1.add (i).toNat) (by kernel_rfl) (by kernel_rfl) hp1 (by omega) (by omega) (by rw [Nat.mul_one])) ?_
          refine SL.ok (by decide) (OK.ldCell 22 3 (p1.add (i).toNat) (.int .i64 (c.gY_l.getD (i).toNat 0)) (by kernel_rfl) (by kernel_rfl) (S4.cell hc1)) ?_
          refine SL.ok (by decide) (OK.run 23 (.pointer (some ⟨b1, 1, none⟩)) (by kernel_rfl)) ?_
          refine SL.ok (by decide) (OK.ldBox S4 0 24 22 1 (.slice c.gY_a c.gY_n c.gY_c) (by kernel_rfl) rfl (by kernel_rfl)) ?_
          refine SL.ok (by decide) (OK.run 25 (.int .i64 i) (by kernel_rfl)) ?_
          refine SL.ok (by decide) (OK.run 26 (.int .i64 (IntKind.wrap .i64 (i + 1))) (by kernel_rfl)) ?_
          refine SL.head (.int .i64 (i + 1)) (congrArg (Value.int .i64) (IntWalk.i64_in _ (by omega))) ?_
          refine SL.ok (by decide) (OK.index 27 22 1 c.gY_a p2 c.gY_n (i + 1).toNat (i + 1) (p2.add (i + 1).toNat) (by kernel_rfl) (by kernel_rfl) hp2 (by omega) (by omega) (by rw [Nat.mul_one])) ?_
          refine SL.ok (by decide) (OK.ldCell 28 3 (p2.add (i + 1).toNat) (.int .i64 (c.gY_l.getD (i + 1).toNat 0)) (by kernel_rfl) (by kernel_rfl) (S4.cell hc2)) ?_
          refine SL.ok (by decide) (OK.run 29 (.bool (decide ((c.gY_l.getD (i).toNat 0) ≤ (c.gY_l.getD (i + 1).toNat 0)))) (by kernel_rfl)) ?_
          refine SL.ok (by decide) (OK.run 30 (.bool (decide ((c.gY_l.getD (i).toNat 0) ≤ (c.gY_l.getD (i + 1).toNat 0)))) (by kernel_rfl)) ?_
          refine SL.ok (by decide) (OK.run 3 (.bool (decide ((c.gY_l.getD (i).toNat 0) ≤ (c.gY_l.getD (i + 1).toNat 0)))) (by kernel_rfl)) ?_
          refine SL.done ?_
          refine TL.done (by kernel_rfl) ?_
          refine J.run 0 (rRest K18_7) [(3, .bool (decide ((c.gY_l.getD (i).toNat 0) ≤ (c.gY_l.getD (i + 1).toNat 0)))), (5, .int .i64 i), (13, .int .i64 i), (12, .int .i64 ((c.gY_n : Int) - 1)), (4, .bool dn), (1, .pointer (some ⟨b1, 0, none⟩))] w4 (by kernel_rfl) ?_
          rcases Bool.eq_false_or_eq_true dn with fk4 | fk4
          · skip
            refine J.drawStill S4 16 Tryd.mixed (by kernel_rfl) (by kernel_rfl) (by kernel_rfl) ?_
            intro w5 S5
            refine SL.ok (by decide) (OK.run 31 (.bool dn) (by kernel_rfl)) ?_
            refine SL.head (.bool true) (congrArg Value.bool fk4) ?_
            refine SL.ok (by decide) (OK.run 32 (.bool true) (by kernel_rfl)) ?_
            refine SL.ok (by decide) (OK.run 33 (.pointer (some ⟨b1, 1, none⟩)) (by kernel_rfl)) ?_
            refine SL.ok (by decide) (OK.ldBox S5 0 34 22 1 (.slice c.gY_a c.gY_n c.gY_c) (by kernel_rfl) rfl (by kernel_rfl)) ?_
            refine SL.ok (by decide) (OK.run 35 (.int .i64 i) (by kernel_rfl)) ?_
            refine SL.ok (by decide) (OK.index 36 22 1 c.gY_a p1 c.gY_n (i).toNat i (p1.add (i).toNat) (by kernel_rfl) (by kernel_rfl) hp1 (by omega) (by omega) (by rw [Nat.mul_one])) ?_
            refine SL.ok (by decide) (OK.ldCell 37 3 (p1.add (i).toNat) (.int .i64 (c.gY_l.getD (i).toNat 0)) (by kernel_rfl) (by kernel_rfl) (S5.cell hc1)) ?_
            refine SL.ok (by decide) (OK.run 38 (.pointer (some ⟨b1, 1, none⟩)) (by kernel_rfl)) ?_
            refine SL.ok (by decide) (OK.ldBox S5 0 39 22 1 (.slice c.gY_a c.gY_n c.gY_c) (by kernel_rfl) rfl (by kernel_rfl)) ?_
            refine SL.ok (by decide) (OK.run 40 (.int .i64 i) (by kernel_rfl)) ?_
            refine SL.ok (by decide) (OK.run 41 (.int .i64 (IntKind.wrap .i64 (i + 1))) (by kernel_rfl)) ?_
            refine SL.head (.int .i64 (i + 1)) (congrArg (Value.int .i64) (IntWalk.i64_in _ (by omega))) ?_
            refine SL.ok (by decide) (OK.index 42 22 1 c.gY_a p2 c.gY_n (i + 1).toNat (i + 1) (p2.add (i + 1).toNat) (by kernel_rfl) (by kernel_rfl) hp2 (by omega) (by omega) (by rw [Nat.mul_one])) ?_
            refine SL.ok (by decide) (OK.ldCell 43 3 (p2.add (i + 1).toNat) (.int .i64 (c.gY_l.getD (i + 1).toNat 0)) (by kernel_rfl) (by kernel_rfl) (S5.cell hc2)) ?_
            refine SL.ok (by decide) (OK.run 44 (.bool (decide ((c.gY_l.getD (i).toNat 0) ≥ (c.gY_l.getD (i + 1).toNat 0)))) (by kernel_rfl)) ?_
            refine SL.ok (by decide) (OK.run 45 (.bool (decide ((c.gY_l.getD (i).toNat 0) ≥ (c.gY_l.getD (i + 1).toNat 0)))) (by kernel_rfl)) ?_
            refine SL.ok (by decide) (OK.run 4 (.bool (decide ((c.gY_l.getD (i).toNat 0) ≥ (c.gY_l.getD (i + 1).toNat 0)))) (by kernel_rfl)) ?_
            refine SL.done ?_
            refine TL.done (by kernel_rfl) ?_
            refine J.run 0 (rRest (rRest K18_7)) [(4, .bool (decide ((c.gY_l.getD (i).toNat 0) ≥ (c.gY_l.getD (i + 1).toNat 0)))), (3, .bool (decide ((c.gY_l.getD (i).toNat 0) ≤ (c.gY_l.getD (i + 1).toNat 0)))), (13, .int .i64 i), (12, .int .i64 ((c.gY_n : Int) - 1)), (1, .pointer (some ⟨b1, 0, none⟩))] w5 (by kernel_rfl) ?_
            refine J.run 3 K18_8 [(46, .int .i64 (IntKind.wrap .i64 (i + 1))), (4, .bool (decide ((c.gY_l.getD (i).toNat 0) ≥ (c.gY_l.getD (i + 1).toNat 0)))), (3, .bool (decide ((c.gY_l.getD (i).toNat 0) ≤ (c.gY_l.getD (i + 1).toNat 0)))), (12, .int .i64 ((c.gY_n : Int) - 1)), (1, .pointer (some ⟨b1, 0, none⟩))] w5 (by kernel_rfl) ?_
            refine J.head (.int .i64 (i + 1)) (congrArg (Value.int .i64) (IntWalk.i64_in _ (by omega))) ?_
            refine J.run 3 K18_5 [(13, .int .i64 (i + 1)), (4, .bool (decide ((c.gY_l.getD (i).toNat 0) ≥ (c.gY_l.getD (i + 1).toNat 0)))), (3, .bool (decide ((c.gY_l.getD (i).toNat 0) ≤ (c.gY_l.getD (i + 1).toNat 0)))), (12, .int .i64 ((c.gY_n : Int) - 1)), (1, .pointer (some ⟨b1, 0, none⟩))] w5 (by kernel_rfl) ?_
            refine J.run 0 K18_5 [(13, .int .i64 (i + 1)), (12, .int .i64 ((c.gY_n : Int) - 1)), (4, .bool (decide ((c.gY_l.getD (i).toNat 0) ≥ (c.gY_l.getD (i + 1).toNat 0)))), (3, .bool (decide ((c.gY_l.getD (i).toNat 0) ≤ (c.gY_l.getD (i + 1).toNat 0)))), (1, .pointer (some ⟨b1, 0, none⟩))] w5 (by kernel_rfl) ?_
            exact ih1 _ (show ((c.gY_n : Int) - (i + 1)).toNat < mm1 from by omega) (decide ((c.gY_l.getD (i).toNat 0) ≤ (c.gY_l.getD (i + 1).toNat 0))) (decide ((c.gY_l.getD (i).toNat 0) ≥ (c.gY_l.getD (i + 1).toNat 0))) (i + 1) w5 (by omega) (by omega) (by rw [upT_step h0, ← hup, fk3]; rfl) (by rw [dnT_step h0, ← hdn, fk4]; rfl) S5 rfl
          · skip
            refine J.drawStill S4 16 Tryd.mixed (by kernel_rfl) (by kernel_rfl) (by kernel_rfl) ?_
            intro w6 S6
            refine SL.ok (by decide) (OK.run 31 (.bool dn) (by kernel_rfl)) ?_
            refine SL.head (.bool false) (congrArg Value.bool fk4) ?_
            refine SL.ok (by decide) (OK.run 32 (.bool false) (by kernel_rfl)) ?_
            refine SL.pass (d := some 33) (by decide) (by kernel_rfl) ?_
            refine SL.pass (d := some 34) (by decide) (by kernel_rfl) ?_
            refine SL.pass (d := some 35) (by decide) (by kernel_rfl) ?_
            refine SL.pass (d := some 36) (by decide) (by kernel_rfl) ?_
            refine SL.pass (d := some 37) (by decide) (by kernel_rfl) ?_
            refine SL.pass (d := some 38) (by decide) (by kernel_rfl) ?_
            refine SL.pass (d := some 39) (by decide) (by kernel_rfl) ?_
            refine SL.pass (d := some 40) (by decide) (by kernel_rfl) ?_
            refine SL.pass (d := some 41) (by decide) (by kernel_rfl) ?_
            refine SL.pass (d := some 42) (by decide) (by kernel_rfl) ?_
            refine SL.pass (d := some 43) (by decide) (by kernel_rfl) ?_
            refine SL.pass (d := some 44) (by decide) (by kernel_rfl) ?_
            refine SL.ok (by decide) (OK.run 45 (.bool false) (by kernel_rfl)) ?_
            refine SL.ok (by decide) (OK.run 4 (.bool false) (by kernel_rfl)) ?_
            refine SL.done ?_
            refine TL.done (by kernel_rfl) ?_
            refine J.run 0 (rRest (rRest K18_7)) [(4, .bool false), (3, .bool (decide ((c.gY_l.getD (i).toNat 0) ≤ (c.gY_l.getD (i + 1).toNat 0)))), (13, .int .i64 i), (12, .int .i64 ((c.gY_n : Int) - 1)), (1, .pointer (some ⟨b1, 0, none⟩))] w6 (by kernel_rfl) ?_
            refine J.run 3 K18_9 [(46, .int .i64 (IntKind.wrap .i64 (i + 1))), (4, .bool false), (3, .bool (decide ((c.gY_l.getD (i).toNat 0) ≤ (c.gY_l.getD (i + 1).toNat 0)))), (12, .int .i64 ((c.gY_n : Int) - 1)), (1, .pointer (some ⟨b1, 0, none⟩))] w6 (by kernel_rfl) ?_
            refine J.head (.int .i64 (i + 1)) (congrArg (Value.int .i64) (IntWalk.i64_in _ (by omega))) ?_
            refine J.run 3 K18_5 [(13, .int .i64 (i + 1)), (4, .bool false), (3, .bool (decide ((c.gY_l.getD (i).toNat 0) ≤ (c.gY_l.getD (i + 1).toNat 0)))), (12, .int .i64 ((c.gY_n : Int) - 1)), (1, .pointer (some ⟨b1, 0, none⟩))] w6 (by kernel_rfl) ?_
            refine J.run 0 K18_5 [(13, .int .i64 (i + 1)), (12, .int .i64 ((c.gY_n : Int) - 1)), (4, .bool false), (3, .bool (decide ((c.gY_l.getD (i).toNat 0) ≤ (c.gY_l.getD (i + 1).toNat 0)))), (1, .pointer (some ⟨b1, 0, none⟩))] w6 (by kernel_rfl) ?_
            exact ih1 _ (show ((c.gY_n : Int) - (i + 1)).toNat < mm1 from by omega) (decide ((c.gY_l.getD (i).toNat 0) ≤ (c.gY_l.getD (i + 1).toNat 0))) false (i + 1) w6 (by omega) (by omega) (by rw [upT_step h0, ← hup, fk3]; rfl) (by rw [dnT_step h0, ← hdn, fk4]; rfl) S6 rfl
        · skip
          refine J.drawStill S3 16 Tryd.mixed (by kernel_rfl) (by kernel_rfl) (by kernel_rfl) ?_
          intro w7 S7
          refine SL.ok (by decide) (OK.run 16 (.bool up) (by kernel_rfl)) ?_
          refine SL.head (.bool false) (congrArg Value.bool fk3) ?_
          refine SL.ok (by decide) (OK.run 17 (.bool false) (by kernel_rfl)) ?_
          refine SL.pass (d := some 18) (by decide) (by kernel_rfl) ?_
          refine SL.pass (d := some 19) (by decide) (by kernel_rfl) ?_
          refine SL.pass (d := some 20) (by decide) (by kernel_rfl) ?_
          refine SL.pass (d := some 21) (by decide) (by kernel_rfl) ?_
          refine SL.pass (d := some 22) (by decide) (by kernel_rfl) ?_
          refine SL.pass (d := some 23) (by decide) (by kernel_rfl) ?_
          refine SL.pass (d := some 24) (by decide) (by kernel_rfl) ?_
          refine SL.pass (d := some 25) (by decide) (by kernel_rfl) ?_
          refine SL.pass (d := some 26) (by decide) (by kernel_rfl) ?_
          refine SL.pass (d := some 27) (by decide) (by kernel_rfl) ?_
          refine SL.pass (d := some 28) (by decide) (by kernel_rfl) ?_
          refine SL.pass (d := some 29) (by decide) (by kernel_rfl) ?_
          refine SL.ok (by decide) (OK.run 30 (.bool false) (by kernel_rfl)) ?_
          refine SL.ok (by decide) (OK.run 3 (.bool false) (by kernel_rfl)) ?_
          refine SL.done ?_
          refine TL.done (by kernel_rfl) ?_
          refine J.run 0 (rRest K18_7) [(3, .bool false), (5, .int .i64 i), (13, .int .i64 i), (12, .int .i64 ((c.gY_n : Int) - 1)), (4, .bool dn), (1, .pointer (some ⟨b1, 0, none⟩))] w7 (by kernel_rfl) ?_
          rcases Bool.eq_false_or_eq_true dn with fk5 | fk5
          · skip
            obtain ⟨p3, hp3, hc3⟩ := q5.at 0 (i).toNat (by omega)
            have hel3 := getD_Q q6 0 (n := (i).toNat) (by have := q5.len_eq; omega)
            obtain ⟨p4, hp4, hc4⟩ := q5.at 0 (i + 1).toNat (by omega)
            have hel4 := getD_Q q6 0 (n := (i + 1).toNat) (by have := q5.len_eq; omega)
            refine J.drawStill S7 16 Tryd.mixed (by kernel_rfl) (by kernel_rfl) (by kernel_rfl) ?_
            intro w8 S8
            refine SL.ok (by decide) (OK.run 31 (.bool dn) (by kernel_rfl)) ?_
            refine SL.head (.bool true) (congrArg Value.bool fk5) ?_
            refine SL.ok (by decide) (OK.run 32 (.bool true) (by kernel_rfl)) ?_
            refine SL.ok (by decide) (OK.run 33 (.pointer (some ⟨b1, 1, none⟩)) (by kernel_rfl)) ?_
            refine SL.ok (by decide) (OK.ldBox S8 0 34 22 1 (.slice c.gY_a c.gY_n c.gY_c) (by kernel_rfl) rfl (by kernel_rfl)) ?_
            refine SL.ok (by decide) (OK.run 35 (.int .i64 i) (by kernel_rfl)) ?_
            refine SL.ok (by decide) (OK.index 36 22 1 c.gY_a p3 c.gY_n (i).toNat i (p3.add (i).toNat) (by kernel_rfl) (by kernel_rfl) hp3 (by omega) (by omega) (by rw [Nat.mul_one])) ?_
            refine SL.ok (by decide) (OK.ldCell 37 3 (p3.add (i).toNat) (.int .i64 (c.gY_l.getD (i).toNat 0)) (by kernel_rfl) (by kernel_rfl) (S8.cell hc3)) ?_
            refine SL.ok (by decide) (OK.run 38 (.pointer (some ⟨b1, 1, none⟩)) (by kernel_rfl)) ?_
            refine SL.ok (by decide) (OK.ldBox S8 0 39 22 1 (.slice c.gY_a c.gY_n c.gY_c) (by kernel_rfl) rfl (by kernel_rfl)) ?_
            refine SL.ok (by decide) (OK.run 40 (.int .i64 i) (by kernel_rfl)) ?_
            refine SL.ok (by decide) (OK.run 41 (.int .i64 (IntKind.wrap .i64 (i + 1))) (by kernel_rfl)) ?_
            refine SL.head (.int .i64 (i + 1)) (congrArg (Value.int .i64) (IntWalk.i64_in _ (by omega))) ?_
            refine SL.ok (by decide) (OK.index 42 22 1 c.gY_a p4 c.gY_n (i + 1).toNat (i + 1) (p4.add (i + 1).toNat) (by kernel_rfl) (by kernel_rfl) hp4 (by omega) (by omega) (by rw [Nat.mul_one])) ?_
            refine SL.ok (by decide) (OK.ldCell 43 3 (p4.add (i + 1).toNat) (.int .i64 (c.gY_l.getD (i + 1).toNat 0)) (by kernel_rfl) (by kernel_rfl) (S8.cell hc4)) ?_
            refine SL.ok (by decide) (OK.run 44 (.bool (decide ((c.gY_l.getD (i).toNat 0) ≥ (c.gY_l.getD (i + 1).toNat 0)))) (by kernel_rfl)) ?_
            refine SL.ok (by decide) (OK.run 45 (.bool (decide ((c.gY_l.getD (i).toNat 0) ≥ (c.gY_l.getD (i + 1).toNat 0)))) (by kernel_rfl)) ?_
            refine SL.ok (by decide) (OK.run 4 (.bool (decide ((c.gY_l.getD (i).toNat 0) ≥ (c.gY_l.getD (i + 1).toNat 0)))) (by kernel_rfl)) ?_
            refine SL.done ?_
            refine TL.done (by kernel_rfl) ?_
            refine J.run 0 (rRest (rRest K18_7)) [(4, .bool (decide ((c.gY_l.getD (i).toNat 0) ≥ (c.gY_l.getD (i + 1).toNat 0)))), (3, .bool false), (13, .int .i64 i), (12, .int .i64 ((c.gY_n : Int) - 1)), (1, .pointer (some ⟨b1, 0, none⟩))] w8 (by kernel_rfl) ?_
            refine J.run 3 K18_10 [(46, .int .i64 (IntKind.wrap .i64 (i + 1))), (4, .bool (decide ((c.gY_l.getD (i).toNat 0) ≥ (c.gY_l.getD (i + 1).toNat 0)))), (3, .bool false), (12, .int .i64 ((c.gY_n : Int) - 1)), (1, .pointer (some ⟨b1, 0, none⟩))] w8 (by kernel_rfl) ?_
            refine J.head (.int .i64 (i + 1)) (congrArg (Value.int .i64) (IntWalk.i64_in _ (by omega))) ?_
            refine J.run 3 K18_5 [(13, .int .i64 (i + 1)), (4, .bool (decide ((c.gY_l.getD (i).toNat 0) ≥ (c.gY_l.getD (i + 1).toNat 0)))), (3, .bool false), (12, .int .i64 ((c.gY_n : Int) - 1)), (1, .pointer (some ⟨b1, 0, none⟩))] w8 (by kernel_rfl) ?_
            refine J.run 0 K18_5 [(13, .int .i64 (i + 1)), (12, .int .i64 ((c.gY_n : Int) - 1)), (4, .bool (decide ((c.gY_l.getD (i).toNat 0) ≥ (c.gY_l.getD (i + 1).toNat 0)))), (3, .bool false), (1, .pointer (some ⟨b1, 0, none⟩))] w8 (by kernel_rfl) ?_
            exact ih1 _ (show ((c.gY_n : Int) - (i + 1)).toNat < mm1 from by omega) false (decide ((c.gY_l.getD (i).toNat 0) ≥ (c.gY_l.getD (i + 1).toNat 0))) (i + 1) w8 (by omega) (by omega) (by rw [upT_step h0, ← hup, fk3]; rfl) (by rw [dnT_step h0, ← hdn, fk5]; rfl) S8 rfl
          · skip
            refine J.drawStill S7 16 Tryd.mixed (by kernel_rfl) (by kernel_rfl) (by kernel_rfl) ?_
            intro w9 S9
            refine SL.ok (by decide) (OK.run 31 (.bool dn) (by kernel_rfl)) ?_
            refine SL.head (.bool false) (congrArg Value.bool fk5) ?_
            refine SL.ok (by decide) (OK.run 32 (.bool false) (by kernel_rfl)) ?_
            refine SL.pass (d := some 33) (by decide) (by kernel_rfl) ?_
            refine SL.pass (d := some 34) (by decide) (by kernel_rfl) ?_
            refine SL.pass (d := some 35) (by decide) (by kernel_rfl) ?_
            refine SL.pass (d := some 36) (by decide) (by kernel_rfl) ?_
            refine SL.pass (d := some 37) (by decide) (by kernel_rfl) ?_
            refine SL.pass (d := some 38) (by decide) (by kernel_rfl) ?_
            refine SL.pass (d := some 39) (by decide) (by kernel_rfl) ?_
            refine SL.pass (d := some 40) (by decide) (by kernel_rfl) ?_
            refine SL.pass (d := some 41) (by decide) (by kernel_rfl) ?_
            refine SL.pass (d := some 42) (by decide) (by kernel_rfl) ?_
            refine SL.pass (d := some 43) (by decide) (by kernel_rfl) ?_
            refine SL.pass (d := some 44) (by decide) (by kernel_rfl) ?_
            refine SL.ok (by decide) (OK.run 45 (.bool false) (by kernel_rfl)) ?_
            refine SL.ok (by decide) (OK.run 4 (.bool false) (by kernel_rfl)) ?_
            refine SL.done ?_
            refine TL.done (by kernel_rfl) ?_
            refine J.run 0 (rRest (rRest K18_7)) [(4, .bool false), (3, .bool false), (13, .int .i64 i), (12, .int .i64 ((c.gY_n : Int) - 1)), (1, .pointer (some ⟨b1, 0, none⟩))] w9 (by kernel_rfl) ?_
            refine J.run 3 K18_11 [(46, .int .i64 (IntKind.wrap .i64 (i + 1))), (4, .bool false), (3, .bool false), (12, .int .i64 ((c.gY_n : Int) - 1)), (1, .pointer (some ⟨b1, 0, none⟩))] w9 (by kernel_rfl) ?_
            refine J.head (.int .i64 (i + 1)) (congrArg (Value.int .i64) (IntWalk.i64_in _ (by omega))) ?_
            refine J.run 3 K18_5 [(13, .int .i64 (i + 1)), (4, .bool false), (3, .bool false), (12, .int .i64 ((c.gY_n : Int) - 1)), (1, .pointer (some ⟨b1, 0, none⟩))] w9 (by kernel_rfl) ?_
            refine J.run 0 K18_5 [(13, .int .i64 (i + 1)), (12, .int .i64 ((c.gY_n : Int) - 1)), (4, .bool false), (3, .bool false), (1, .pointer (some ⟨b1, 0, none⟩))] w9 (by kernel_rfl) ?_
            exact ih1 _ (show ((c.gY_n : Int) - (i + 1)).toNat < mm1 from by omega) false false (i + 1) w9 (by omega) (by omega) (by rw [upT_step h0, ← hup, fk3]; rfl) (by rw [dnT_step h0, ← hdn, fk5]; rfl) S9 rfl
      · skip
        refine J.head (.bool false) (congrArg Value.bool (decide_eq_false fk2)) ?_
        refine J.run 9 K18_12 [(47, .bool up), (4, .bool dn)] w3 (by kernel_rfl) ?_
        rcases Bool.eq_false_or_eq_true up with fk6 | fk6
        · skip
          refine J.head (.bool true) (congrArg Value.bool fk6) ?_
          refine J.run 5 K18_13 [(2, .int .i64 1)] w3 (by kernel_rfl) ?_
          refine J.ret Tryd.f18 [.int .i64 1] Tryd.func18 ⟨by kernel_rfl, trivial⟩ ?_
          refine hR _ _ ?_
          have eu : upT c.gY_l ((c.gY_l.length : Int) - 1) = up := by rw [hup]; unfold upT; rw [show ((c.gY_l.length : Int) - 1).toNat = i.toNat by omega]
          have ed : dnT c.gY_l ((c.gY_l.length : Int) - 1) = dn := by rw [hdn]; unfold dnT; rw [show ((c.gY_l.length : Int) - 1).toNat = i.toNat by omega]
          exact ⟨congrArg (Value.int .i64) (by rw [hdv]; rw [dir_up (eu.trans fk6)]), S3.nil⟩
        · skip
          refine J.head (.bool false) (congrArg Value.bool fk6) ?_
          refine J.run 6 K18_14 [(49, .bool dn)] w3 (by kernel_rfl) ?_
          rcases Bool.eq_false_or_eq_true dn with fk7 | fk7
          · skip
            refine J.head (.bool true) (congrArg Value.bool fk7) ?_
            refine J.run 5 K18_15 [(2, .int .i64 (-1))] w3 (by kernel_rfl) ?_
            refine J.ret Tryd.f18 [.int .i64 (-1)] Tryd.func18 ⟨by kernel_rfl, trivial⟩ ?_
            refine hR _ _ ?_
            have eu : upT c.gY_l ((c.gY_l.length : Int) - 1) = up := by rw [hup]; unfold upT; rw [show ((c.gY_l.length : Int) - 1).toNat = i.toNat by omega]
            have ed : dnT c.gY_l ((c.gY_l.length : Int) - 1) = dn := by rw [hdn]; unfold dnT; rw [show ((c.gY_l.length : Int) - 1).toNat = i.toNat by omega]
            exact ⟨congrArg (Value.int .i64) (by rw [hdv]; rw [dir_dn (eu.trans fk6) (ed.trans fk7)]), S3.nil⟩
          · skip
            refine J.head (.bool false) (congrArg Value.bool fk7) ?_
            refine J.run 7 K18_16 [(2, .int .i64 0)] w3 (by kernel_rfl) ?_
            refine J.ret Tryd.f18 [.int .i64 0] Tryd.func18 ⟨by kernel_rfl, trivial⟩ ?_
            refine hR _ _ ?_
            have eu : upT c.gY_l ((c.gY_l.length : Int) - 1) = up := by rw [hup]; unfold upT; rw [show ((c.gY_l.length : Int) - 1).toNat = i.toNat by omega]
            have ed : dnT c.gY_l ((c.gY_l.length : Int) - 1) = dn := by rw [hdn]; unfold dnT; rw [show ((c.gY_l.length : Int) - 1).toNat = i.toNat by omega]
            exact ⟨congrArg (Value.int .i64) (by rw [hdv]; rw [dir_no (eu.trans fk6) (ed.trans fk7)]), S3.nil⟩
    exact L18_1 _ true true 0 w2 (by omega) (by omega) (rfl) (rfl) S2 rfl
  · skip
    refine J.head (.bool true) (congrArg Value.bool (by rw [fk1]; rfl)) ?_
    refine J.run 5 K18_17 [(2, .int .i64 0)] w2 (by kernel_rfl) ?_
    refine J.ret Tryd.f18 [.int .i64 0] Tryd.func18 ⟨by kernel_rfl, trivial⟩ ?_
    refine hR _ _ ?_
    exact ⟨congrArg (Value.int .i64) (by unfold dirV; rw [fk1]; rfl), S2.nil⟩

end Go.Proofs.YtdilhoibcbihlaaDoor

