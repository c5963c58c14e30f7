/- Walks of functions of this seat, printed by a program over the engine. Conditions: as each theorem says. -/
import Derived.Test.YthhdaackhfffiaaDoorZxD8
namespace Go.Proofs.YthhdaackhfffiaaDoor
open Go.Eng Go.RowKit
set_option linter.unusedSimpArgs false
set_option linter.unusedVariables false
theorem hb28 : HasBody Tryd.prog 28 := fun _ _ => by kernel_rfl
noncomputable def K28_0 : List Item := adv 2 [] (bodyOf Tryd.f28)
noncomputable def K28_1 : List Item := adv 5 [] (popK K28_0)
noncomputable def K28_2 : List Item := adv 2 [] (popK K28_1)
noncomputable def K28_3 : List Item := adv 1 [] K28_2
noncomputable def K28_4 : List Item := adv 3 [] (popK K28_3)
noncomputable def K28_5 : List Item := adv 1 [] K28_4
noncomputable def K28_6 : List Item := adv 3 [] (popK K28_5)
noncomputable def K28_7 : List Item := adv 1 [] K28_6
noncomputable def K28_8 : List Item := adv 3 [] (popK K28_7)
noncomputable def K28_9 : List Item := adv 1 [] K28_8
noncomputable def K28_10 : List Item := adv 3 [] (popK K28_9)
noncomputable def K28_11 : List Item := adv 1 [] K28_10
noncomputable def K28_12 : List Item := adv 3 [] (popK K28_11)
noncomputable def K28_13 : List Item := adv 1 [] K28_12
noncomputable def K28_14 : List Item := adv 3 [] (popK K28_13)
noncomputable def K28_15 : List Item := adv 1 [] K28_14
noncomputable def K28_16 : List Item := adv 3 [] (popK K28_15)
noncomputable def K28_17 : List Item := adv 1 [] K28_16
noncomputable def K28_18 : List Item := adv 3 [] (popK K28_17)
noncomputable def K28_19 : List Item := adv 1 [] K28_18
noncomputable def K28_20 : List Item := adv 4 [] (popK K28_19)
noncomputable def K28_21 : List Item := adv 6 [] K28_18
noncomputable def K28_22 : List Item := adv 11 [] K28_16
noncomputable def K28_23 : List Item := adv 16 [] K28_14
noncomputable def K28_24 : List Item := adv 21 [] K28_12
noncomputable def K28_25 : List Item := adv 26 [] K28_10
noncomputable def K28_26 : List Item := adv 31 [] K28_8
noncomputable def K28_27 : List Item := adv 36 [] K28_6
noncomputable def K28_28 : List Item := adv 41 [] K28_4
noncomputable def K28_29 : List Item := adv 46 [] K28_2
set_option maxRecDepth 20000 in
set_option maxHeartbeats 20000000 in
theorem good_any (d : Dr) (w : World) : Ret Tryd.prog 28 #[.agg #[iv d.gAt, iv d.gPedal, iv d.gBrake, iv d.gGear, iv d.gLoad]] w (fun v w' => v = .bool (goodD d) ∧ Sep w [] w') := by
 have S0 := Sep.refl w
 refine Ret.named fun R hR => ?_
 refine Ret.of_J (N := 51) [(0, .agg #[iv d.gAt, iv d.gPedal, iv d.gBrake, iv d.gGear, iv d.gLoad])] Tryd.func28 rfl rfl (Nat.le_of_ble_eq_true (by kernel_rfl)) (by kernel_rfl) ?_
 refine J.run 2 K28_0 [(0, .agg #[iv d.gAt, iv d.gPedal, iv d.gBrake, iv d.gGear, iv d.gLoad])] w (by kernel_rfl) ?_
 refine J.new S0 1 [iv d.gAt, iv d.gPedal, iv d.gBrake, iv d.gGear, iv d.gLoad] 27 (by kernel_rfl) ?_
 intro b1 w1 S1
 refine J.run 5 K28_1 [(3, .pointer (some ⟨b1, 0, none⟩)), (1, .pointer (some ⟨b1, 0, none⟩))] w1 (by kernel_rfl) ?_
 refine J.ok (OK.ldBox S1 0 4 3 0 (iv d.gAt) (by kernel_rfl) rfl (by kernel_rfl)) ?_
 refine J.run 2 K28_2 [(6, .bool (decide (d.gAt ≥ 0))), (1, .pointer (some ⟨b1, 0, none⟩))] w1 (by kernel_rfl) ?_
 by_cases fk1 : d.gAt ≥ 0
 ·skip
  refine J.head (.bool true) (congrArg Value.bool (decide_eq_true fk1)) ?_
  refine J.run 1 K28_3 [(7, .pointer (some ⟨b1, 0, none⟩)), (6, .bool true), (1, .pointer (some ⟨b1, 0, none⟩))] w1 (by kernel_rfl) ?_
  refine J.ok (OK.ldBox S1 0 8 3 0 (iv d.gAt) (by kernel_rfl) rfl (by kernel_rfl)) ?_
  refine J.run 3 K28_4 [(11, .bool (decide (d.gAt ≤ 1099511627776))), (1, .pointer (some ⟨b1, 0, none⟩))] w1 (by kernel_rfl) ?_
  by_cases fk2 : d.gAt ≤ 1099511627776
  ·skip
   refine J.head (.bool true) (congrArg Value.bool (decide_eq_true fk2)) ?_
   refine J.run 1 K28_5 [(12, .pointer (some ⟨b1, 1, none⟩)), (11, .bool true), (1, .pointer (some ⟨b1, 0, none⟩))] w1 (by kernel_rfl) ?_
   refine J.ok (OK.ldBox S1 0 13 3 1 (iv d.gPedal) (by kernel_rfl) rfl (by kernel_rfl)) ?_
   refine J.run 3 K28_6 [(16, .bool (decide (d.gPedal ≥ 0))), (1, .pointer (some ⟨b1, 0, none⟩))] w1 (by kernel_rfl) ?_
   by_cases fk3 : d.gPedal ≥ 0
   ·skip
    refine J.head (.bool true) (congrArg Value.bool (decide_eq_true fk3)) ?_
    refine J.run 1 K28_7 [(17, .pointer (some ⟨b1, 1, none⟩)), (16, .bool true), (1, .pointer (some ⟨b1, 0, none⟩))] w1 (by kernel_rfl) ?_
    refine J.ok (OK.ldBox S1 0 18 3 1 (iv d.gPedal) (by kernel_rfl) rfl (by kernel_rfl)) ?_
    refine J.run 3 K28_8 [(21, .bool (decide (d.gPedal ≤ 1000))), (1, .pointer (some ⟨b1, 0, none⟩))] w1 (by kernel_rfl) ?_
    by_cases fk4 : d.gPedal ≤ 1000
    ·skip
     refine J.head (.bool true) (congrArg Value.bool (decide_eq_true fk4)) ?_
     refine J.run 1 K28_9 [(22, .pointer (some ⟨b1, 2, none⟩)), (21, .bool true), (1, .pointer (some ⟨b1, 0, none⟩))] w1 (by kernel_rfl) ?_
     refine J.ok (OK.ldBox S1 0 23 3 2 (iv d.gBrake) (by kernel_rfl) rfl (by kernel_rfl)) ?_
     refine J.run 3 K28_10 [(26, .bool (decide (d.gBrake ≥ 0))), (1, .pointer (some ⟨b1, 0, none⟩))] w1 (by kernel_rfl) ?_
     by_cases fk5 : d.gBrake ≥ 0
     ·skip
      refine J.head (.bool true) (congrArg Value.bool (decide_eq_true fk5)) ?_
      refine J.run 1 K28_11 [(27, .pointer (some ⟨b1, 2, none⟩)), (26, .bool true), (1, .pointer (some ⟨b1, 0, none⟩))] w1 (by kernel_rfl) ?_
      refine J.ok (OK.ldBox S1 0 28 3 2 (iv d.gBrake) (by kernel_rfl) rfl (by kernel_rfl)) ?_
      refine J.run 3 K28_12 [(31, .bool (decide (d.gBrake ≤ 1000))), (1, .pointer (some ⟨b1, 0, none⟩))] w1 (by kernel_rfl) ?_
      by_cases fk6 : d.gBrake ≤ 1000
      ·skip
       refine J.head (.bool true) (congrArg Value.bool (decide_eq_true fk6)) ?_
       refine J.run 1 K28_13 [(32, .pointer (some ⟨b1, 3, none⟩)), (31, .bool true), (1, .pointer (some ⟨b1, 0, none⟩))] w1 (by kernel_rfl) ?_
       refine J.ok (OK.ldBox S1 0 33 3 3 (iv d.gGear) (by kernel_rfl) rfl (by kernel_rfl)) ?_
       refine J.run 3 K28_14 [(36, .bool (decide (d.gGear ≥ 0))), (1, .pointer (some ⟨b1, 0, none⟩))] w1 (by kernel_rfl) ?_
       by_cases fk7 : d.gGear ≥ 0
       ·skip
        refine J.head (.bool true) (congrArg Value.bool (decide_eq_true fk7)) ?_
        refine J.run 1 K28_15 [(37, .pointer (some ⟨b1, 3, none⟩)), (36, .bool true), (1, .pointer (some ⟨b1, 0, none⟩))] w1 (by kernel_rfl) ?_
        refine J.ok (OK.ldBox S1 0 38 3 3 (iv d.gGear) (by kernel_rfl) rfl (by kernel_rfl)) ?_
        refine J.run 3 K28_16 [(41, .bool (decide (d.gGear ≤ 6))), (1, .pointer (some ⟨b1, 0, none⟩))] w1 (by kernel_rfl) ?_
        by_cases fk8 : d.gGear ≤ 6
        ·skip
         refine J.head (.bool true) (congrArg Value.bool (decide_eq_true fk8)) ?_
         refine J.run 1 K28_17 [(42, .pointer (some ⟨b1, 4, none⟩)), (41, .bool true), (1, .pointer (some ⟨b1, 0, none⟩))] w1 (by kernel_rfl) ?_
         refine J.ok (OK.ldBox S1 0 43 3 4 (iv d.gLoad) (by kernel_rfl) rfl (by kernel_rfl)) ?_
         refine J.run 3 K28_18 [(46, .bool (decide (d.gLoad ≥ (-500)))), (1, .pointer (some ⟨b1, 0, none⟩))] w1 (by kernel_rfl) ?_
         by_cases fk9 : d.gLoad ≥ (-500)
         ·skip
          refine J.head (.bool true) (congrArg Value.bool (decide_eq_true fk9)) ?_
          refine J.run 1 K28_19 [(47, .pointer (some ⟨b1, 4, none⟩)), (46, .bool true)] w1 (by kernel_rfl) ?_
          refine J.ok (OK.ldBox S1 0 48 3 4 (iv d.gLoad) (by kernel_rfl) rfl (by kernel_rfl)) ?_
          refine J.run 4 K28_20 [(2, .bool (decide (d.gLoad ≤ 2000)))] w1 (by kernel_rfl) ?_
          refine J.ret Tryd.f28 [.bool (decide (d.gLoad ≤ 2000))] Tryd.func28 ⟨by kernel_rfl, trivial⟩ ?_
          refine hR _ _ ?_
          exact ⟨congrArg Value.bool (by cases hg_ : goodD d with | true => (rw [good_iff] at hg_ <;> first | rfl | omega | (simp; done) | (simp; omega) | (exfalso; omega)) | false => (have hn_ : ¬ goodD d = true := (by rw [hg_]; decide); rw [good_iff] at hn_ <;> first | rfl | omega | (simp; done) | (simp; omega) | (exfalso; omega))), S1.nil⟩
         ·skip
          refine J.head (.bool false) (congrArg Value.bool (decide_eq_false fk9)) ?_
          refine J.run 6 K28_21 [(2, .bool false)] w1 (by kernel_rfl) ?_
          refine J.ret Tryd.f28 [.bool false] Tryd.func28 ⟨by kernel_rfl, trivial⟩ ?_
          refine hR _ _ ?_
          exact ⟨congrArg Value.bool (by cases hg_ : goodD d with | true => (rw [good_iff] at hg_ <;> first | rfl | omega | (simp; done) | (simp; omega) | (exfalso; omega)) | false => (have hn_ : ¬ goodD d = true := (by rw [hg_]; decide); rw [good_iff] at hn_ <;> first | rfl | omega | (simp; done) | (simp; omega) | (exfalso; omega))), S1.nil⟩
        ·skip
         refine J.head (.bool false) (congrArg Value.bool (decide_eq_false fk8)) ?_
         refine J.run 11 K28_22 [(2, .bool false)] w1 (by kernel_rfl) ?_
         refine J.ret Tryd.f28 [.bool false] Tryd.func28 ⟨by kernel_rfl, trivial⟩ ?_
         refine hR _ _ ?_
         exact ⟨congrArg Value.bool (by cases hg_ : goodD d with | true => (rw [good_iff] at hg_ <;> first | rfl | omega | (simp; done) | (simp; omega) | (exfalso; omega)) | false => (have hn_ : ¬ goodD d = true := (by rw [hg_]; decide); rw [good_iff] at hn_ <;> first | rfl | omega | (simp; done) | (simp; omega) | (exfalso; omega))), S1.nil⟩
       ·skip
        refine J.head (.bool false) (congrArg Value.bool (decide_eq_false fk7)) ?_
        refine J.run 16 K28_23 [(2, .bool false)] w1 (by kernel_rfl) ?_
        refine J.ret Tryd.f28 [.bool false] Tryd.func28 ⟨by kernel_rfl, trivial⟩ ?_
        refine hR _ _ ?_
        exact ⟨congrArg Value.bool (by cases hg_ : goodD d with | true => (rw [good_iff] at hg_ <;> first | rfl | omega | (simp; done) | (simp; omega) | (exfalso; omega)) | false => (have hn_ : ¬ goodD d = true := (by rw [hg_]; decide); rw [good_iff] at hn_ <;> first | rfl | omega | (simp; done) | (simp; omega) | (exfalso; omega))), S1.nil⟩
      ·skip
       refine J.head (.bool false) (congrArg Value.bool (decide_eq_false fk6)) ?_
       refine J.run 21 K28_24 [(2, .bool false)] w1 (by kernel_rfl) ?_
       refine J.ret Tryd.f28 [.bool false] Tryd.func28 ⟨by kernel_rfl, trivial⟩ ?_
       refine hR _ _ ?_
       exact ⟨congrArg Value.bool (by cases hg_ : goodD d with | true => (rw [good_iff] at hg_ <;> first | rfl | omega | (simp; done) | (simp; omega) | (exfalso; omega)) | false => (have hn_ : ¬ goodD d = true := (by rw [hg_]; decide); rw [good_iff] at hn_ <;> first | rfl | omega | (simp; done) | (simp; omega) | (exfalso; omega))), S1.nil⟩
     ·skip
      refine J.head (.bool false) (congrArg Value.bool (decide_eq_false fk5)) ?_
      refine J.run 26 K28_25 [(2, .bool false)] w1 (by kernel_rfl) ?_
      refine J.ret Tryd.f28 [.bool false] Tryd.func28 ⟨by kernel_rfl, trivial⟩ ?_
      refine hR _ _ ?_
      exact ⟨congrArg Value.bool (by cases hg_ : goodD d with | true => (rw [good_iff] at hg_ <;> first | rfl | omega | (simp; done) | (simp; omega) | (exfalso; omega)) | false => (have hn_ : ¬ goodD d = true := (by rw [hg_]; decide); rw [good_iff] at hn_ <;> first | rfl | omega | (simp; done) | (simp; omega) | (exfalso; omega))), S1.nil⟩
    ·skip
     refine J.head (.bool false) (congrArg Value.bool (decide_eq_false fk4)) ?_
     refine J.run 31 K28_26 [(2, .bool false)] w1 (by kernel_rfl) ?_
     refine J.ret Tryd.f28 [.bool false] Tryd.func28 ⟨by kernel_rfl, trivial⟩ ?_
     refine hR _ _ ?_
     exact ⟨congrArg Value.bool (by cases hg_ : goodD d with | true => (rw [good_iff] at hg_ <;> first | rfl | omega | (simp; done) | (simp; omega) | (exfalso; omega)) | false => (have hn_ : ¬ goodD d = true := (by rw [hg_]; decide); rw [good_iff] at hn_ <;> first | rfl | omega | (simp; done) | (simp; omega) | (exfalso; omega))), S1.nil⟩
   ·skip
    refine J.head (.bool false) (congrArg Value.bool (decide_eq_false fk3)) ?_
    refine J.run 36 K28_27 [(2, .bool false)] w1 (by kernel_rfl) ?_
    refine J.ret Tryd.f28 [.bool false] Tryd.func28 ⟨by kernel_rfl, trivial⟩ ?_
    refine hR _ _ ?_
    exact ⟨congrArg Value.bool (by cases hg_ : goodD d with | true => (rw [good_iff] at hg_ <;> first | rfl | omega | (simp; done) | (simp; omega) | (exfalso; omega)) | false => (have hn_ : ¬ goodD d = true := (by rw [hg_]; decide); rw [good_iff] at hn_ <;> first | rfl | omega | (simp; done) | (simp; omega) | (exfalso; omega))), S1.nil⟩
  ·skip
   refine J.head (.bool false) (congrArg Value.bool (decide_eq_false fk2)) ?_
   refine J.run 41 K28_28 [(2, .bool false)] w1 (by kernel_rfl) ?_
   refine J.ret Tryd.f28 [.bool false] Tryd.func28 ⟨by kernel_rfl, trivial⟩ ?_
   refine hR _ _ ?_
   exact ⟨congrArg Value.bool (by cases hg_ : goodD d with | true => (rw [good_iff] at hg_ <;> first | rfl | omega | (simp; done) | (simp; omega) | (exfalso; omega)) | false => (have hn_ : ¬ goodD d = true := (by rw [hg_]; decide); rw [good_iff] at hn_ <;> first | rfl | omega | (simp; done) | (simp; omega) | (exfalso; omega))), S1.nil⟩
 ·skip
  refine J.head (.bool false) (congrArg Value.bool (decide_eq_false fk1)) ?_
  refine J.run 46 K28_29 [(2, .bool false)] w1 (by kernel_rfl) ?_
  refine J.ret Tryd.f28 [.bool false] Tryd.func28 ⟨by kernel_rfl, trivial⟩ ?_
  refine hR _ _ ?_
  exact ⟨congrArg Value.bool (by cases hg_ : goodD d with | true => (rw [good_iff] at hg_ <;> first | rfl | omega | (simp; done) | (simp; omega) | (exfalso; omega)) | false => (have hn_ : ¬ goodD d = true := (by rw [hg_]; decide); rw [good_iff] at hn_ <;> first | rfl | omega | (simp; done) | (simp; omega) | (exfalso; omega))), S1.nil⟩

theorem hb13 : HasBody Tryd.prog 13 := fun _ _ => by kernel_rfl
noncomputable def K13_0 : List Item := adv 11 [] (bodyOf Tryd.f13)
noncomputable def K13_1 : List Item := adv 17 [true] K13_0
noncomputable def K13_2 : List Item := adv 5 [] K13_0
noncomputable def K13_3 : List Item := adv 12 [true] K13_2
noncomputable def K13_4 : List Item := adv 1 [] K13_2
noncomputable def K13_5 : List Item := adv 1 [] (popK K13_4)
noncomputable def K13_6 : List Item := adv 3 [] (popK K13_5)
noncomputable def K13_7 : List Item := adv 9 [false] K13_6
noncomputable def K13_8 : List Item := adv 8 [] K13_7
noncomputable def K13_9 : List Item := adv 5 [true] K13_8
noncomputable def K13_10 : List Item := adv 5 [true] (rRest K13_9)
noncomputable def K13_11 : List Item := adv 6 [false] (rRest K13_9)
noncomputable def K13_12 : List Item := adv 6 [false] (rRest K13_9)
noncomputable def K13_13 : List Item := adv 5 [true] (rRest K13_9)
noncomputable def K13_14 : List Item := adv 6 [false] K13_8
noncomputable def K13_15 : List Item := adv 5 [true] K13_6
set_option maxRecDepth 20000 in
set_option maxHeartbeats 20000000 in
theorem rvalid_any (a : Option Addr) (n c : Nat) (l : List Dr) (w : World) (hl : Recs drE 5 w a n l) : Ret Tryd.prog 13 #[.slice a n c] w (fun v w' => v = .bool (validD l) ∧ Sep w [] w') := by
 have S0 := Sep.refl w
 refine Ret.named fun R hR => ?_
 refine Ret.of_J (N := 49) [(0, .slice a n c)] Tryd.func13 rfl rfl (Nat.le_of_ble_eq_true (by kernel_rfl)) (by kernel_rfl) ?_
 have hll := hl.len_eq
 refine J.run 11 K13_0 [(7, .bool (decide ((n : Int) < 1))), (0, .slice a n c)] w (by kernel_rfl) ?_
 by_cases fk1 : (n : Int) < 1
 ·skip
  refine J.head (.bool true) (congrArg Value.bool (decide_eq_true fk1)) ?_
  refine J.run 17 K13_1 [(2, .bool false)] w (by kernel_rfl) ?_
  refine J.ret Tryd.f13 [.bool false] Tryd.func13 ⟨by kernel_rfl, trivial⟩ ?_
  refine hR _ _ ?_
  exact ⟨congrArg Value.bool (valid_no (by omega)).symm, S0.nil⟩
 ·skip
  refine J.head (.bool false) (congrArg Value.bool (decide_eq_false fk1)) ?_
  refine J.run 5 K13_2 [(12, .bool (decide ((n : Int) > 200))), (0, .slice a n c)] w (by kernel_rfl) ?_
  by_cases fk2 : (n : Int) > 200
  ·skip
   refine J.head (.bool true) (congrArg Value.bool (decide_eq_true fk2)) ?_
   refine J.run 12 K13_3 [(2, .bool false)] w (by kernel_rfl) ?_
   refine J.ret Tryd.f13 [.bool false] Tryd.func13 ⟨by kernel_rfl, trivial⟩ ?_
   refine hR _ _ ?_
   exact ⟨congrArg Value.bool (valid_no (by omega)).symm, S0.nil⟩
  ·skip
   refine J.head (.bool false) (congrArg Value.bool (decide_eq_false fk2)) ?_
   refine J.run 1 K13_4 [(13, .slice a n c), (12, .bool false), (0, .slice a n c)] w (by kernel_rfl) ?_
   obtain ⟨p1, hp1, hc1⟩ := hl.at dr0 0 (by omega)
   refine J.ok (OK.index 14 22 5 a p1 n 0 0 (p1.add (0 * 5)) (by kernel_rfl) (by kernel_rfl) hp1 (by omega) (by omega) rfl) ?_
   refine J.run 1 K13_5 [(15, .pointer (some ((p1.add (0 * 5)).add 0))), (12, .bool false), (0, .slice a n c)] w (by kernel_rfl) ?_
   refine J.ok (OK.ldCell 16 3 ((p1.add (0 * 5)).add 0) (iv ((l.getD 0 dr0).gAt)) (by kernel_rfl) (by kernel_rfl) (S0.cell (hc1 0 _ rfl))) ?_
   refine J.run 3 K13_6 [(18, .bool (((l.getD 0 dr0).gAt) != 0)), (0, .slice a n c)] w (by kernel_rfl) ?_
   by_cases fk3 : ((l.getD 0 dr0).gAt) = 0
   ·skip
    refine J.head (.bool false) (congrArg Value.bool (bne_eq_false_iff_eq.2 fk3)) ?_
    refine J.run 9 K13_7 [(3, iv 0), (0, .slice a n c)] w (by kernel_rfl) ?_
    have L13_1 : ∀ (mm_ : Nat) (i : Int) (w1 : World), (0 ≤ i) → (i ≤ (n : Int)) → (∀ j, j < (i).toNat → okAt l j = true) → Sep w [] w1 → ((n : Int) - i).toNat = mm_ → J Tryd.prog 13 49 R K13_7 [(3, iv i), (0, .slice a n c)] w1 := by
     intro mm1
     induction mm1 using Nat.strongRecOn with
     | _ mm1 ih1 =>
     intro i w1 h0 h1 hq S1 hm1
     refine J.run 8 K13_8 [(22, .bool (decide (i < (n : Int)))), (3, iv i), (0, .slice a n c)] w1 (by kernel_rfl) ?_
     by_cases fk4 : i < (n : Int)
     ·skip
      refine J.head (.bool true) (congrArg Value.bool (decide_eq_true fk4)) ?_
      refine J.run 5 K13_9 [(3, iv i), (0, .slice a n c)] w1 (by kernel_rfl) ?_
      rcases Bool.eq_false_or_eq_true (goodD (l.getD (i).toNat dr0)) with fk5 | fk5
      ·skip
       by_cases fk6 : i > 0
       ·skip
        obtain ⟨p2, hp2, hc2⟩ := hl.at dr0 (i).toNat (by omega)
        obtain ⟨p3, hp3, hc3⟩ := hl.at dr0 (i - 1).toNat (by omega)
        refine J.drawPlan (fun w_ => Sep w [] w_) [(0, true), (1, true), (2, true), (3, true), (4, false), (5, true), (6, true), (7, true), (8, true), (9, true), (10, true), (11, true), (12, true), (13, true), (14, true), (15, true), (16, true), (17, true), (18, true), (19, true), (20, true), (21, true), (22, true), (23, true)] S1 Tryd.mixed (by kernel_rfl) (planOK_of (T := [(0, some 25, 1), (0, some 26, 8), (3, some 27, 100663296), (4, some 28, 134217728), (8, some 29, 268435456), (16, some 30, 536870912), (48, some 31, 1073741824), (64, some 32, 2147483656), (192, some 33, 6442450944), (320, some 34, 10737418240), (512, some 35, 17179869185), (512, some 36, 17179869192), (3584, some 37, 120259084288), (4608, some 38, 154618822656), (8704, some 39, 292057776128), (512, some 40, 17179869185), (512, some 41, 17179869192), (66048, some 42, 2216203124736), (164352, some 43, 5514738008064), (262656, some 44, 8813272891392), (524800, some 45, 17609365913600), (1065472, some 46, 35751307771904), (2097728, some 47, 70388071530496), (4194368, some 48, 140739635838976)]) (by kernel_rfl) (by kernel_rfl)) ?_
        intro w2 S2
        refine PB.mk S2 ?_
        refine PL.take 0 25 (.slice a n c) (fun _ _ => by kernel_rfl) ?_
        refine PL.take 1 26 (iv i) (fun _ _ => by kernel_rfl) ?_
        refine PL.takeOK 2 (fun w_ S_ => OK.index 27 22 5 a p2 n (i).toNat i (p2.add ((i).toNat * 5)) (by kernel_rfl) (by kernel_rfl) hp2 (by omega) (by omega) rfl) rfl ?_
        refine PL.takeOK 3 (fun w_ S_ => OK.ldCells 28 27 (p2.add ((i).toNat * 5)) [iv ((l.getD (i).toNat dr0).gAt), iv ((l.getD (i).toNat dr0).gPedal), iv ((l.getD (i).toNat dr0).gBrake), iv ((l.getD (i).toNat dr0).gGear), iv ((l.getD (i).toNat dr0).gLoad)] (by kernel_rfl) (by kernel_rfl) (by kernel_rfl) (fun j_ v_ hj_ => S_.cell (hc2 j_ v_ hj_))) rfl ?_
        refine PL.callF 29 28 #[.agg #[iv ((l.getD (i).toNat dr0).gAt), iv ((l.getD (i).toNat dr0).gPedal), iv ((l.getD (i).toNat dr0).gBrake), iv ((l.getD (i).toNat dr0).gGear), iv ((l.getD (i).toNat dr0).gLoad)]] hb28 (by kernel_rfl) (good_any (l.getD (i).toNat dr0) _) ?_
        rintro _ w3 ⟨rfl, T1⟩
        have S3 : Sep w [] w3 := S2.trans T1
        clear T1 S2
        refine PB.head (.bool true) (congrArg Value.bool fk5) ?_
        refine PB.mk S3 ?_
        refine PL.take 5 30 (.bool false) (fun _ _ => by kernel_rfl) ?_
        refine PL.take 6 31 (.bool false) (fun _ _ => by kernel_rfl) ?_
        refine PL.take 7 32 (iv i) (fun _ _ => by kernel_rfl) ?_
        refine PL.take 8 33 (.bool (decide (i > 0))) (fun _ _ => by kernel_rfl) ?_
        refine PL.head (.bool true) (congrArg Value.bool (decide_eq_true fk6)) ?_
        refine PL.take 9 34 (.bool true) (fun _ _ => by kernel_rfl) ?_
        refine PL.take 10 35 (.slice a n c) (fun _ _ => by kernel_rfl) ?_
        refine PL.take 11 36 (iv i) (fun _ _ => by kernel_rfl) ?_
        refine PL.takeOK 12 (fun w_ S_ => OK.index 37 22 5 a p2 n (i).toNat i (p2.add ((i).toNat * 5)) (by kernel_rfl) (by kernel_rfl) hp2 (by omega) (by omega) rfl) rfl ?_
        refine PL.take 13 38 (.pointer (some ((p2.add ((i).toNat * 5)).add 0))) (fun _ _ => by kernel_rfl) ?_
        refine PL.takeOK 14 (fun w_ S_ => OK.ldCell 39 3 ((p2.add ((i).toNat * 5)).add 0) (iv ((l.getD (i).toNat dr0).gAt)) (by kernel_rfl) (by kernel_rfl) (S_.cell (hc2 0 _ rfl))) rfl ?_
        refine PL.take 15 40 (.slice a n c) (fun _ _ => by kernel_rfl) ?_
        refine PL.take 16 41 (iv i) (fun _ _ => by kernel_rfl) ?_
        refine PL.take 17 42 (iv (IntKind.wrap .i64 (i - 1))) (fun _ _ => by kernel_rfl) ?_
        refine PL.head (iv (i - 1)) (congrArg (Value.int .i64) (IntWalk.i64_in _ (by omega))) ?_
        refine PL.takeOK 18 (fun w_ S_ => OK.index 43 22 5 a p3 n (i - 1).toNat (i - 1) (p3.add ((i - 1).toNat * 5)) (by kernel_rfl) (by kernel_rfl) hp3 (by omega) (by omega) rfl) rfl ?_
        refine PL.take 19 44 (.pointer (some ((p3.add ((i - 1).toNat * 5)).add 0))) (fun _ _ => by kernel_rfl) ?_
        refine PL.takeOK 20 (fun w_ S_ => OK.ldCell 45 3 ((p3.add ((i - 1).toNat * 5)).add 0) (iv ((l.getD (i - 1).toNat dr0).gAt)) (by kernel_rfl) (by kernel_rfl) (S_.cell (hc3 0 _ rfl))) rfl ?_
        refine PL.take 21 46 (.bool (decide (((l.getD (i).toNat dr0).gAt) ≤ ((l.getD (i - 1).toNat dr0).gAt)))) (fun _ _ => by kernel_rfl) ?_
        refine PL.take 22 47 (.bool (decide (((l.getD (i).toNat dr0).gAt) ≤ ((l.getD (i - 1).toNat dr0).gAt)))) (fun _ _ => by kernel_rfl) ?_
        refine PL.take 23 48 (.bool (decide (((l.getD (i).toNat dr0).gAt) ≤ ((l.getD (i - 1).toNat dr0).gAt)))) (fun _ _ => by kernel_rfl) ?_
        refine PL.done ?_
        refine J.run 0 (rRest K13_9) [(48, .bool (decide (((l.getD (i).toNat dr0).gAt) ≤ ((l.getD (i - 1).toNat dr0).gAt)))), (3, iv i), (0, .slice a n c)] w3 (by kernel_rfl) ?_
        by_cases fk7 : ((l.getD (i).toNat dr0).gAt) ≤ ((l.getD (i - 1).toNat dr0).gAt)
        ·skip
         refine J.head (.bool true) (congrArg Value.bool (decide_eq_true fk7)) ?_
         refine J.run 5 K13_10 [(2, .bool false)] w3 (by kernel_rfl) ?_
         refine J.ret Tryd.f13 [.bool false] Tryd.func13 ⟨by kernel_rfl, trivial⟩ ?_
         refine hR _ _ ?_
         exact ⟨congrArg Value.bool (valid_bad (i := i.toNat) (by omega) (ok_badI h0 (fun hh_ => by omega))).symm, S3.nil⟩
        ·skip
         refine J.head (.bool false) (congrArg Value.bool (decide_eq_false fk7)) ?_
         refine J.run 6 K13_11 [(24, iv (IntKind.wrap .i64 (i + 1))), (0, .slice a n c)] w3 (by kernel_rfl) ?_
         refine J.head (iv (i + 1)) (congrArg (Value.int .i64) (IntWalk.i64_in _ (by omega))) ?_
         refine J.run 3 K13_7 [(3, iv (i + 1)), (0, .slice a n c)] w3 (by kernel_rfl) ?_
         refine J.run 0 K13_7 [(3, iv (i + 1)), (0, .slice a n c)] w3 (by kernel_rfl) ?_
         exact ih1 _ (show ((n : Int) - (i + 1)).toNat < mm1 from by omega) (i + 1) w3 (by omega) (by omega) (dg_step (q := fun j => okAt l j = true) h0 hq ((ok_I h0).2 ⟨good_iff.1 fk5, by omega⟩)) S3 rfl
       ·skip
        obtain ⟨p4, hp4, hc4⟩ := hl.at dr0 (i).toNat (by omega)
        refine J.drawPlan (fun w_ => Sep w [] w_) [(0, true), (1, true), (2, true), (3, true), (4, false), (5, true), (6, true), (7, true), (8, true), (9, true), (10, true), (11, true), (12, true), (13, true), (14, true), (15, true), (16, true), (17, true), (18, true), (19, true), (20, true), (21, true), (22, true), (23, true)] S1 Tryd.mixed (by kernel_rfl) (planOK_of (T := [(0, some 25, 1), (0, some 26, 8), (3, some 27, 100663296), (4, some 28, 134217728), (8, some 29, 268435456), (16, some 30, 536870912), (48, some 31, 1073741824), (64, some 32, 2147483656), (192, some 33, 6442450944), (320, some 34, 10737418240), (512, some 35, 17179869185), (512, some 36, 17179869192), (3584, some 37, 120259084288), (4608, some 38, 154618822656), (8704, some 39, 292057776128), (512, some 40, 17179869185), (512, some 41, 17179869192), (66048, some 42, 2216203124736), (164352, some 43, 5514738008064), (262656, some 44, 8813272891392), (524800, some 45, 17609365913600), (1065472, some 46, 35751307771904), (2097728, some 47, 70388071530496), (4194368, some 48, 140739635838976)]) (by kernel_rfl) (by kernel_rfl)) ?_
        intro w4 S4
        refine PB.mk S4 ?_
        refine PL.take 0 25 (.slice a n c) (fun _ _ => by kernel_rfl) ?_
        refine PL.take 1 26 (iv i) (fun _ _ => by kernel_rfl) ?_
        refine PL.takeOK 2 (fun w_ S_ => OK.index 27 22 5 a p4 n (i).toNat i (p4.add ((i).toNat * 5)) (by kernel_rfl) (by kernel_rfl) hp4 (by omega) (by omega) rfl) rfl ?_
        refine PL.takeOK 3 (fun w_ S_ => OK.ldCells 28 27 (p4.add ((i).toNat * 5)) [iv ((l.getD (i).toNat dr0).gAt), iv ((l.getD (i).toNat dr0).gPedal), iv ((l.getD (i).toNat dr0).gBrake), iv ((l.getD (i).toNat dr0).gGear), iv ((l.getD (i).toNat dr0).gLoad)] (by kernel_rfl) (by kernel_rfl) (by kernel_rfl) (fun j_ v_ hj_ => S_.cell (hc4 j_ v_ hj_))) rfl ?_
        refine PL.callF 29 28 #[.agg #[iv ((l.getD (i).toNat dr0).gAt), iv ((l.getD (i).toNat dr0).gPedal), iv ((l.getD (i).toNat dr0).gBrake), iv ((l.getD (i).toNat dr0).gGear), iv ((l.getD (i).toNat dr0).gLoad)]] hb28 (by kernel_rfl) (good_any (l.getD (i).toNat dr0) _) ?_
        rintro _ w5 ⟨rfl, T2⟩
        have S5 : Sep w [] w5 := S4.trans T2
        clear T2 S4
        refine PB.head (.bool true) (congrArg Value.bool fk5) ?_
        refine PB.mk S5 ?_
        refine PL.take 5 30 (.bool false) (fun _ _ => by kernel_rfl) ?_
        refine PL.take 6 31 (.bool false) (fun _ _ => by kernel_rfl) ?_
        refine PL.take 7 32 (iv i) (fun _ _ => by kernel_rfl) ?_
        refine PL.take 8 33 (.bool (decide (i > 0))) (fun _ _ => by kernel_rfl) ?_
        refine PL.head (.bool false) (congrArg Value.bool (decide_eq_false fk6)) ?_
        refine PL.take 9 34 (.bool false) (fun _ _ => by kernel_rfl) ?_
        refine PL.takePass 10 (some 35) (by kernel_rfl) ?_
        refine PL.takePass 11 (some 36) (by kernel_rfl) ?_
        refine PL.takePass 12 (some 37) (by kernel_rfl) ?_
        refine PL.takePass 13 (some 38) (by kernel_rfl) ?_
        refine PL.takePass 14 (some 39) (by kernel_rfl) ?_
        refine PL.takePass 15 (some 40) (by kernel_rfl) ?_
        refine PL.takePass 16 (some 41) (by kernel_rfl) ?_
        refine PL.takePass 17 (some 42) (by kernel_rfl) ?_
        refine PL.takePass 18 (some 43) (by kernel_rfl) ?_
        refine PL.takePass 19 (some 44) (by kernel_rfl) ?_
        refine PL.takePass 20 (some 45) (by kernel_rfl) ?_
        refine PL.takePass 21 (some 46) (by kernel_rfl) ?_
        refine PL.take 22 47 (.bool false) (fun _ _ => by kernel_rfl) ?_
        refine PL.take 23 48 (.bool false) (fun _ _ => by kernel_rfl) ?_
        refine PL.done ?_
        refine J.run 0 (rRest K13_9) [(48, .bool false), (3, iv i), (0, .slice a n c)] w5 (by kernel_rfl) ?_
        refine J.run 6 K13_12 [(24, iv (IntKind.wrap .i64 (i + 1))), (0, .slice a n c)] w5 (by kernel_rfl) ?_
        refine J.head (iv (i + 1)) (congrArg (Value.int .i64) (IntWalk.i64_in _ (by omega))) ?_
        refine J.run 3 K13_7 [(3, iv (i + 1)), (0, .slice a n c)] w5 (by kernel_rfl) ?_
        refine J.run 0 K13_7 [(3, iv (i + 1)), (0, .slice a n c)] w5 (by kernel_rfl) ?_
        exact ih1 _ (show ((n : Int) - (i + 1)).toNat < mm1 from by omega) (i + 1) w5 (by omega) (by omega) (dg_step (q := fun j => okAt l j = true) h0 hq ((ok_I h0).2 ⟨good_iff.1 fk5, by omega⟩)) S5 rfl
      ·skip
       obtain ⟨p5, hp5, hc5⟩ := hl.at dr0 (i).toNat (by omega)
       refine J.drawPlan (fun w_ => Sep w [] w_) [(0, true), (1, true), (2, true), (3, true), (4, false), (5, true), (6, true), (7, true), (8, true), (9, true), (10, true), (11, true), (12, true), (13, true), (14, true), (15, true), (16, true), (17, true), (18, true), (19, true), (20, true), (21, true), (22, true), (23, true)] S1 Tryd.mixed (by kernel_rfl) (planOK_of (T := [(0, some 25, 1), (0, some 26, 8), (3, some 27, 100663296), (4, some 28, 134217728), (8, some 29, 268435456), (16, some 30, 536870912), (48, some 31, 1073741824), (64, some 32, 2147483656), (192, some 33, 6442450944), (320, some 34, 10737418240), (512, some 35, 17179869185), (512, some 36, 17179869192), (3584, some 37, 120259084288), (4608, some 38, 154618822656), (8704, some 39, 292057776128), (512, some 40, 17179869185), (512, some 41, 17179869192), (66048, some 42, 2216203124736), (164352, some 43, 5514738008064), (262656, some 44, 8813272891392), (524800, some 45, 17609365913600), (1065472, some 46, 35751307771904), (2097728, some 47, 70388071530496), (4194368, some 48, 140739635838976)]) (by kernel_rfl) (by kernel_rfl)) ?_
       intro w6 S6
       refine PB.mk S6 ?_
       refine PL.take 0 25 (.slice a n c) (fun _ _ => by kernel_rfl) ?_
       refine PL.take 1 26 (iv i) (fun _ _ => by kernel_rfl) ?_
       refine PL.takeOK 2 (fun w_ S_ => OK.index 27 22 5 a p5 n (i).toNat i (p5.add ((i).toNat * 5)) (by kernel_rfl) (by kernel_rfl) hp5 (by omega) (by omega) rfl) rfl ?_
       refine PL.takeOK 3 (fun w_ S_ => OK.ldCells 28 27 (p5.add ((i).toNat * 5)) [iv ((l.getD (i).toNat dr0).gAt), iv ((l.getD (i).toNat dr0).gPedal), iv ((l.getD (i).toNat dr0).gBrake), iv ((l.getD (i).toNat dr0).gGear), iv ((l.getD (i).toNat dr0).gLoad)] (by kernel_rfl) (by kernel_rfl) (by kernel_rfl) (fun j_ v_ hj_ => S_.cell (hc5 j_ v_ hj_))) rfl ?_
       refine PL.callF 29 28 #[.agg #[iv ((l.getD (i).toNat dr0).gAt), iv ((l.getD (i).toNat dr0).gPedal), iv ((l.getD (i).toNat dr0).gBrake), iv ((l.getD (i).toNat dr0).gGear), iv ((l.getD (i).toNat dr0).gLoad)]] hb28 (by kernel_rfl) (good_any (l.getD (i).toNat dr0) _) ?_
       rintro _ w7 ⟨rfl, T3⟩
       have S7 : Sep w [] w7 := S6.trans T3
       clear T3 S6
       refine PB.head (.bool false) (congrArg Value.bool fk5) ?_
       refine PB.mk S7 ?_
       refine PL.take 5 30 (.bool true) (fun _ _ => by kernel_rfl) ?_
       refine PL.take 6 31 (.bool true) (fun _ _ => by kernel_rfl) ?_
       refine PL.takePass 7 (some 32) (by kernel_rfl) ?_
       refine PL.takePass 8 (some 33) (by kernel_rfl) ?_
       refine PL.takePass 9 (some 34) (by kernel_rfl) ?_
       refine PL.takePass 10 (some 35) (by kernel_rfl) ?_
       refine PL.takePass 11 (some 36) (by kernel_rfl) ?_
       refine PL.takePass 12 (some 37) (by kernel_rfl) ?_
       refine PL.takePass 13 (some 38) (by kernel_rfl) ?_
       refine PL.takePass 14 (some 39) (by kernel_rfl) ?_
       refine PL.takePass 15 (some 40) (by kernel_rfl) ?_
       refine PL.takePass 16 (some 41) (by kernel_rfl) ?_
       refine PL.takePass 17 (some 42) (by kernel_rfl) ?_
       refine PL.takePass 18 (some 43) (by kernel_rfl) ?_
       refine PL.takePass 19 (some 44) (by kernel_rfl) ?_
       refine PL.takePass 20 (some 45) (by kernel_rfl) ?_
       refine PL.takePass 21 (some 46) (by kernel_rfl) ?_
       refine PL.takePass 22 (some 47) (by kernel_rfl) ?_
       refine PL.take 23 48 (.bool true) (fun _ _ => by kernel_rfl) ?_
       refine PL.done ?_
       refine J.run 0 (rRest K13_9) [(48, .bool true), (3, iv i), (0, .slice a n c)] w7 (by kernel_rfl) ?_
       refine J.run 5 K13_13 [(2, .bool false)] w7 (by kernel_rfl) ?_
       refine J.ret Tryd.f13 [.bool false] Tryd.func13 ⟨by kernel_rfl, trivial⟩ ?_
       refine hR _ _ ?_
       exact ⟨congrArg Value.bool (valid_bad (i := i.toNat) (by omega) (ok_badI h0 (fun hh_ => by have := good_iff.2 hh_.1; rw [fk5] at this; cases this))).symm, S7.nil⟩
     ·skip
      refine J.head (.bool false) (congrArg Value.bool (decide_eq_false fk4)) ?_
      refine J.run 6 K13_14 [(2, .bool true)] w1 (by kernel_rfl) ?_
      refine J.ret Tryd.f13 [.bool true] Tryd.func13 ⟨by kernel_rfl, trivial⟩ ?_
      refine hR _ _ ?_
      exact ⟨congrArg Value.bool (valid_yes (by omega) (by omega) (fun j hj => hq j (by omega))).symm, S1.nil⟩
    exact L13_1 _ 0 w (by omega) (by omega) (by intro j hj; simp at hj) S0 rfl
   ·skip
    refine J.head (.bool true) (congrArg Value.bool (bne_iff_ne.2 fk3)) ?_
    refine J.run 5 K13_15 [(2, .bool false)] w (by kernel_rfl) ?_
    refine J.ret Tryd.f13 [.bool false] Tryd.func13 ⟨by kernel_rfl, trivial⟩ ?_
    refine hR _ _ ?_
    exact ⟨congrArg Value.bool (valid_no (by omega)).symm, S0.nil⟩

end Go.Proofs.YthhdaackhfffiaaDoor

