/- Walks of functions of this seat, printed by a program over the engine. Conditions: as each theorem says. -/
import Derived.Test.YtempepmfifljmaaF12
namespace Go.Proofs.Ytempepmfifljmaa
open Go.Eng Go.RowKit
set_option linter.unusedSimpArgs false
set_option linter.unusedVariables false
theorem atF_valid {m : Mp} (hv : validM m = true) (x y : Int) : atF m x y = valueF m x y := by unfold atF; rw [hv]; rfl
theorem nodes_facts {m : Mp} (hX : m.gX_l.length = m.gX_n) (hY : m.gY_l.length = m.gY_n) (hv : validM m = true) (vm : Vm m) :
    (∀ a b : Nat, a < m.gX_n → b < m.gY_n → atF m (m.gX_l.getD a 0) (m.gY_l.getD b 0) = (m.gZ_l.getD a rw0).gS_l.getD b 0) ∧
    (∀ (f : Int) (b : Nat), 0 ≤ f → b < m.gY_n → atF m (m.gX_l.getD 0 0 - f) (m.gY_l.getD b 0) = (m.gZ_l.getD 0 rw0).gS_l.getD b 0) ∧
    (∀ (f : Int) (b : Nat), 0 ≤ f → b < m.gY_n → atF m (m.gX_l.getD ((m.gX_n : Int) - 1).toNat 0 + f) (m.gY_l.getD b 0) = (m.gZ_l.getD ((m.gX_n : Int) - 1).toNat rw0).gS_l.getD b 0) ∧
    (∀ (f : Int) (a : Nat), 0 ≤ f → a < m.gX_n → atF m (m.gX_l.getD a 0) (m.gY_l.getD 0 0 - f) = (m.gZ_l.getD a rw0).gS_l.getD 0 0) ∧
    (∀ (f : Int) (a : Nat), 0 ≤ f → a < m.gX_n → atF m (m.gX_l.getD a 0) (m.gY_l.getD ((m.gY_n : Int) - 1).toNat 0 + f) = (m.gZ_l.getD a rw0).gS_l.getD ((m.gY_n : Int) - 1).toNat 0) := by
  have ex : ((m.gX_n : Int) - 1).toNat = m.gX_n - 1 := by omega
  have ey : ((m.gY_n : Int) - 1).toNat = m.gY_n - 1 := by omega
  rw [ex, ey]
  refine ⟨fun a b ha hb => ?_, fun f b hf hb => ?_, fun f b hf hb => ?_, fun f a hf ha => ?_, fun f a hf ha => ?_⟩ <;> rw [atF_valid hv]
  · exact value_node hX hY vm.ax vm.ay ha hb
  · exact value_left hX hY vm.ax vm.ay (by omega) hb
  · exact value_right hX hY vm.ax vm.ay (by rw [hX]; omega) hb
  · exact value_down hX hY vm.ax vm.ay ha (by omega)
  · exact value_up hX hY vm.ax vm.ay ha (by rw [hY]; omega)
def invQ (m : Mp) (y z i : Int) : Bool := decide (valueF m (m.gX_l.getD 0 0 + i) y ≥ z)
def invN (m : Mp) : Int := m.gX_l.getD ((m.gX_n : Int) - 1).toNat 0 - m.gX_l.getD 0 0
def invE (m : Mp) (y z : Int) : Int := if validM m then (if risesM m then (if valueF m (m.gX_l.getD ((m.gX_n : Int) - 1).toNat 0) y < z then 2 else 0) else 6) else 1
def invX (m : Mp) (y z : Int) : Int := if invE m y z = 0 then m.gX_l.getD 0 0 + leastF (invQ m y z) (invN m) else 0
theorem inv1 {m : Mp} {y z : Int} (h : validM m = false) : invE m y z = 1 ∧ invX m y z = 0 := by
  have e : invE m y z = 1 := by unfold invE; rw [h]; rfl
  exact ⟨e, by unfold invX; rw [e]; rfl⟩
theorem inv2 {m : Mp} {y z : Int} (h : validM m = true) (h2 : risesM m = false) : invE m y z = 6 ∧ invX m y z = 0 := by
  have e : invE m y z = 6 := by unfold invE; rw [h, h2]; rfl
  exact ⟨e, by unfold invX; rw [e]; rfl⟩
theorem inv3 {m : Mp} {y z : Int} (h : validM m = true) (h2 : risesM m = true) (h3 : valueF m (m.gX_l.getD ((m.gX_n : Int) - 1).toNat 0) y < z) : invE m y z = 2 ∧ invX m y z = 0 := by
  have e : invE m y z = 2 := by unfold invE; rw [h, h2, if_pos rfl, if_pos rfl, if_pos h3]
  exact ⟨e, by unfold invX; rw [e]; rfl⟩
theorem inv_mono {m : Mp} (hX : m.gX_l.length = m.gX_n) (hY : m.gY_l.length = m.gY_n) (h2 : risesM m = true) (y z n : Int) : ∀ i j, 0 ≤ i → i ≤ j → j < n → invQ m y z i = true → invQ m y z j = true := by
  intro i j _ hij _ h
  have := value_mono hX hY h2 y (show m.gX_l.getD 0 0 + i ≤ m.gX_l.getD 0 0 + j by omega)
  unfold invQ at h ⊢
  rw [decide_eq_true_eq] at h ⊢
  omega
theorem inv4 {m : Mp} (hX : m.gX_l.length = m.gX_n) (hY : m.gY_l.length = m.gY_n) {y z r x : Int} (h : validM m = true) (h2 : risesM m = true) (h3 : ¬ valueF m (m.gX_l.getD ((m.gX_n : Int) - 1).toNat 0) y < z)
    (hx : x = m.gX_l.getD 0 0 + r) (h4 : 0 ≤ r ∧ r ≤ invN m) (h5 : r = 0 ∨ invQ m y z (r - 1) = false) (h6 : r = invN m ∨ invQ m y z r = true) : invE m y z = 0 ∧ invX m y z = x := by
  have e : invE m y z = 0 := by unfold invE; rw [h, h2, if_pos rfl, if_pos rfl, if_neg h3]
  exact ⟨e, by unfold invX; rw [if_pos e, least_eq (inv_mono hX hY h2 y z _) h4 h5 h6, hx]⟩
theorem inv_cases {m : Mp} (hX : m.gX_l.length = m.gX_n) (h : risesM m = true) (y z : Int) :
    (invE m y z = 0 ∨ invE m y z = 2) ∧ (invE m y z = 2 → valueF m (m.gX_l.getD ((m.gX_n : Int) - 1).toNat 0) y < z) ∧
    (invE m y z = 0 → m.gX_l.getD 0 0 ≤ invX m y z ∧ invX m y z ≤ m.gX_l.getD ((m.gX_n : Int) - 1).toNat 0 ∧ z ≤ valueF m (invX m y z) y ∧ (invX m y z = m.gX_l.getD 0 0 ∨ valueF m (invX m y z - 1) y < z)) := by
  have hv := (rises_facts h).1
  obtain ⟨h1, _⟩ := valid_facts hv
  have hl := (axis_facts h1).1
  have hm := axis_mono h1 (show 0 < ((m.gX_n : Int) - 1).toNat by omega) (by omega)
  by_cases h3 : valueF m (m.gX_l.getD ((m.gX_n : Int) - 1).toNat 0) y < z
  · obtain ⟨e, _⟩ := inv3 hv h h3
    exact ⟨.inr e, fun _ => h3, fun h => by omega⟩
  · have e : invE m y z = 0 := by unfold invE; rw [hv, h, if_pos rfl, if_pos rfl, if_neg h3]
    refine ⟨.inl e, fun h => by omega, fun _ => ?_⟩
    have ex : invX m y z = m.gX_l.getD 0 0 + leastF (invQ m y z) (invN m) := by unfold invX; rw [if_pos e]
    have hN : 0 ≤ invN m := by unfold invN; omega
    obtain ⟨b1, b2⟩ := least_bounds (invQ m y z) hN
    obtain ⟨c1, c2⟩ := least_facts (q := invQ m y z) hN
    rw [ex]
    refine ⟨by omega, by unfold invN at b2 ⊢; omega, ?_, ?_⟩
    · by_cases e2 : leastF (invQ m y z) (invN m) < invN m
      · have := c1 e2
        unfold invQ at this
        rw [decide_eq_true_eq] at this
        exact this
      · rw [show m.gX_l.getD 0 0 + leastF (invQ m y z) (invN m) = m.gX_l.getD ((m.gX_n : Int) - 1).toNat 0 by unfold invN at e2 b2 ⊢; omega]
        omega
    · by_cases e2 : leastF (invQ m y z) (invN m) = 0
      · left; omega
      · right
        have := c2 (leastF (invQ m y z) (invN m) - 1) (by omega) (by omega)
        unfold invQ at this
        rw [decide_eq_false_iff_not] at this
        rw [show m.gX_l.getD 0 0 + leastF (invQ m y z) (invN m) - 1 = m.gX_l.getD 0 0 + (leastF (invQ m y z) (invN m) - 1) by omega]
        unfold invQ
        omega

theorem hb4 : HasBody Try.prog 4 := fun _ _ => by kernel_rfl
noncomputable def K4_0 : List Item := adv 2 [] (bodyOf Try.f4)
noncomputable def K4_1 : List Item := adv 5 [] (popK K4_0)
noncomputable def K4_2 : List Item := adv 7 [false] (popK K4_1)
noncomputable def K4_3 : List Item := adv 2 [] (popK (popK K4_2))
noncomputable def K4_4 : List Item := adv 3 [] (popK (popK K4_3))
noncomputable def K4_5 : List Item := adv 3 [false] K4_4
noncomputable def K4_6 : List Item := adv 4 [] (rRest K4_5)
noncomputable def K4_7 : List Item := adv 3 [] K4_6
noncomputable def K4_8 : List Item := adv 3 [] (rRest K4_7)
noncomputable def K4_9 : List Item := adv 2 [] (popK K4_8)
noncomputable def K4_10 : List Item := adv 5 [] K4_9
noncomputable def K4_11 : List Item := adv 2 [] (popK K4_10)
noncomputable def K4_12 : List Item := adv 3 [] K4_11
noncomputable def K4_13 : List Item := adv 5 [true] K4_4
noncomputable def K4_14 : List Item := adv 10 [true] K4_3
set_option maxRecDepth 20000 in
set_option maxHeartbeats 20000000 in
theorem lawnodes_any (m : Mp) (i j f : Int) (w : World) (hm : mpQ w m) (hi : 0 ≤ i ∧ i ≤ 255) (hj : 0 ≤ j ∧ j ≤ 255) (hf : 0 ≤ f ∧ f ≤ 4294967295) : Ret Try.prog 4 #[.agg #[.slice m.gX_a m.gX_n m.gX_c, .slice m.gY_a m.gY_n m.gY_c, .slice m.gZ_a m.gZ_n m.gZ_c], .int .u8 i, .int .u8 j, .int .u32 f] w (fun v w' => v = .bool true ∧ Sep w [] w') := by
  have S0 := Sep.refl w
  refine Ret.named fun R hR => ?_
  refine Ret.of_J (N := 151) [(0, .agg #[.slice m.gX_a m.gX_n m.gX_c, .slice m.gY_a m.gY_n m.gY_c, .slice m.gZ_a m.gZ_n m.gZ_c]), (1, .int .u8 i), (2, .int .u8 j), (3, .int .u32 f)] Try.func4 rfl rfl (Nat.le_of_ble_eq_true (by kernel_rfl)) (by kernel_rfl) ?_
  obtain ⟨q1, q2, q3, q4, q5, q6, q7, q8, q9, _⟩ := id hm
  have ql1 := q2.len_eq
  have ql2 := q5.len_eq
  have ql3 := q8.len_eq
  refine J.run 2 K4_0 [(0, .agg #[.slice m.gX_a m.gX_n m.gX_c, .slice m.gY_a m.gY_n m.gY_c, .slice m.gZ_a m.gZ_n m.gZ_c]), (1, .int .u8 i), (2, .int .u8 j), (3, .int .u32 f)] w (by kernel_rfl) ?_
  refine J.new S0 4 [.slice m.gX_a m.gX_n m.gX_c, .slice m.gY_a m.gY_n m.gY_c, .slice m.gZ_a m.gZ_n m.gZ_c] 25 (by kernel_rfl) ?_
  intro b1 w1 S1
  refine J.run 5 K4_1 [(4, .pointer (some ⟨b1, 0, none⟩)), (1, .int .u8 i), (2, .int .u8 j), (3, .int .u32 f)] w1 (by kernel_rfl) ?_
  refine J.callF 16 11 #[] hb11 (by kernel_rfl) (awake_any  _) ?_
  rintro _ w2 ⟨rfl, T1⟩
  have S2 : Sep w [box b1 [.slice m.gX_a m.gX_n m.gX_c, .slice m.gY_a m.gY_n m.gY_c, .slice m.gZ_a m.gZ_n m.gZ_c] 25] w2 := S1.trans T1
  clear T1 S1
  refine J.run 7 K4_2 [(4, .pointer (some ⟨b1, 0, none⟩)), (1, .int .u8 i), (2, .int .u8 j), (3, .int .u32 f)] w2 (by kernel_rfl) ?_
  refine J.ok (OK.ldBox S2 0 18 25 0 (.agg #[.slice m.gX_a m.gX_n m.gX_c, .slice m.gY_a m.gY_n m.gY_c, .slice m.gZ_a m.gZ_n m.gZ_c]) (by kernel_rfl) rfl (by kernel_rfl)) ?_
  refine J.callF 19 12 #[.agg #[.slice m.gX_a m.gX_n m.gX_c, .slice m.gY_a m.gY_n m.gY_c, .slice m.gZ_a m.gZ_n m.gZ_c]] hb12 (by kernel_rfl) (few_any m _ (mpQ_sep hm S2)) ?_
  rintro _ w3 ⟨rfl, T2⟩
  have S3 : Sep w [box b1 [.slice m.gX_a m.gX_n m.gX_c, .slice m.gY_a m.gY_n m.gY_c, .slice m.gZ_a m.gZ_n m.gZ_c] 25] w3 := S2.trans T2
  clear T2 S2
  refine J.run 2 K4_3 [(21, .bool (!(fewB m))), (4, .pointer (some ⟨b1, 0, none⟩)), (1, .int .u8 i), (2, .int .u8 j), (3, .int .u32 f)] w3 (by kernel_rfl) ?_
  rcases Bool.eq_false_or_eq_true (fewB m) with fk1 | fk1
  · skip
    refine J.head (.bool false) (congrArg Value.bool (by rw [fk1]; rfl)) ?_
    refine J.ok (OK.ldBox S3 0 22 25 0 (.agg #[.slice m.gX_a m.gX_n m.gX_c, .slice m.gY_a m.gY_n m.gY_c, .slice m.gZ_a m.gZ_n m.gZ_c]) (by kernel_rfl) rfl (by kernel_rfl)) ?_
    refine J.callF 23 15 #[.agg #[.slice m.gX_a m.gX_n m.gX_c, .slice m.gY_a m.gY_n m.gY_c, .slice m.gZ_a m.gZ_n m.gZ_c]] hb15 (by kernel_rfl) (valid_any m _ (mpQ_sep hm S3)) ?_
    rintro _ w4 ⟨rfl, T3⟩
    have S4 : Sep w [box b1 [.slice m.gX_a m.gX_n m.gX_c, .slice m.gY_a m.gY_n m.gY_c, .slice m.gZ_a m.gZ_n m.gZ_c] 25] w4 := S3.trans T3
    clear T3 S3
    refine J.run 3 K4_4 [(25, .bool (!(validM m))), (4, .pointer (some ⟨b1, 0, none⟩)), (1, .int .u8 i), (2, .int .u8 j), (3, .int .u32 f)] w4 (by kernel_rfl) ?_
    rcases Bool.eq_false_or_eq_true (validM m) with fk2 | fk2
    · skip
      refine J.head (.bool false) (congrArg Value.bool (by rw [fk2]; rfl)) ?_
      have hv := fk2
      obtain ⟨hv1, hv2, hv3, hv4⟩ := valid_facts hv
      obtain ⟨hx1, hx2, hx3⟩ := axis_facts hv1
      obtain ⟨hy1, hy2, hy3⟩ := axis_facts hv2
      have hX : m.gX_l.length = m.gX_n := by omega
      have hY : m.gY_l.length = m.gY_n := by omega
      have vm := vm_of hv (by omega) fun i hi => row_len hm hi
      obtain ⟨hN1, hN2, hN3, hN4, hN5⟩ := nodes_facts hX hY hv vm
      refine J.run 3 K4_5 [(4, .pointer (some ⟨b1, 0, none⟩)), (1, .int .u8 i), (2, .int .u8 j), (3, .int .u32 f)] w4 (by kernel_rfl) ?_
      refine J.drawStill S4 14 Try.mixed (by kernel_rfl) (by kernel_rfl) (by kernel_rfl) ?_
      intro w5 S5
      refine SL.ok (by decide) (OK.run 26 (.int .u8 i) (by kernel_rfl)) ?_
      refine SL.ok (by decide) (OK.run 27 (.int .i64 (IntKind.wrap .i64 i)) (by kernel_rfl)) ?_
      refine SL.head (.int .i64 i) (congrArg (Value.int .i64) (IntWalk.i64_in _ (by omega))) ?_
      refine SL.ok (by decide) (OK.run 28 (.pointer (some ⟨b1, 0, none⟩)) (by kernel_rfl)) ?_
      refine SL.ok (by decide) (OK.ldBox S5 0 29 22 0 (.slice m.gX_a m.gX_n m.gX_c) (by kernel_rfl) rfl (by kernel_rfl)) ?_
      refine SL.ok (by decide) (OK.run 30 (.int .i64 (m.gX_n : Int)) (by kernel_rfl)) ?_
      refine SL.ok (by decide) (OK.rem 31 .i64 i (m.gX_n : Int) (by kernel_rfl) (by omega)) ?_
      have hm1 := Int.emod_nonneg i (show (m.gX_n : Int) ≠ 0 by omega)
      have hm2 := Int.emod_lt_of_pos i (show 0 < (m.gX_n : Int) by omega)
      refine SL.head (.int .i64 (i % (m.gX_n : Int))) (congrArg (Value.int .i64) (IntWalk.rem_in _ _ (by omega))) ?_
      refine SL.ok (by decide) (OK.run 32 (.int .u8 j) (by kernel_rfl)) ?_
      refine SL.ok (by decide) (OK.run 33 (.int .i64 (IntKind.wrap .i64 j)) (by kernel_rfl)) ?_
      refine SL.head (.int .i64 j) (congrArg (Value.int .i64) (IntWalk.i64_in _ (by omega))) ?_
      refine SL.ok (by decide) (OK.run 34 (.pointer (some ⟨b1, 1, none⟩)) (by kernel_rfl)) ?_
      refine SL.ok (by decide) (OK.ldBox S5 0 35 22 1 (.slice m.gY_a m.gY_n m.gY_c) (by kernel_rfl) rfl (by kernel_rfl)) ?_
      refine SL.ok (by decide) (OK.run 36 (.int .i64 (m.gY_n : Int)) (by kernel_rfl)) ?_
      refine SL.ok (by decide) (OK.rem 37 .i64 j (m.gY_n : Int) (by kernel_rfl) (by omega)) ?_
      have hm1 := Int.emod_nonneg j (show (m.gY_n : Int) ≠ 0 by omega)
      have hm2 := Int.emod_lt_of_pos j (show 0 < (m.gY_n : Int) by omega)
      refine SL.head (.int .i64 (j % (m.gY_n : Int))) (congrArg (Value.int .i64) (IntWalk.rem_in _ _ (by omega))) ?_
      refine SL.ok (by decide) (OK.run 9 (.int .i64 (i % (m.gX_n : Int))) (by kernel_rfl)) ?_
      refine SL.ok (by decide) (OK.run 10 (.int .i64 (j % (m.gY_n : Int))) (by kernel_rfl)) ?_
      refine SL.done ?_
      refine TL.done (by kernel_rfl) ?_
      refine J.run 0 (rRest K4_5) [(10, .int .i64 (j % (m.gY_n : Int))), (9, .int .i64 (i % (m.gX_n : Int))), (4, .pointer (some ⟨b1, 0, none⟩)), (3, .int .u32 f)] w5 (by kernel_rfl) ?_
      refine J.run 4 K4_6 [(39, .int .i64 (IntKind.wrap .i64 f)), (10, .int .i64 (j % (m.gY_n : Int))), (9, .int .i64 (i % (m.gX_n : Int))), (4, .pointer (some ⟨b1, 0, none⟩))] w5 (by kernel_rfl) ?_
      refine J.head (.int .i64 f) (congrArg (Value.int .i64) (IntWalk.i64_in _ (by omega))) ?_
      refine J.run 3 K4_7 [(11, .int .i64 f), (10, .int .i64 (j % (m.gY_n : Int))), (9, .int .i64 (i % (m.gX_n : Int))), (4, .pointer (some ⟨b1, 0, none⟩))] w5 (by kernel_rfl) ?_
      obtain ⟨a_, ha_⟩ : ∃ x : Int, x = i % (m.gX_n : Int) := ⟨_, rfl⟩
      obtain ⟨b_, hb_⟩ : ∃ x : Int, x = j % (m.gY_n : Int) := ⟨_, rfl⟩
      have hab : (0 ≤ a_ ∧ a_ < (m.gX_n : Int)) ∧ 0 ≤ b_ ∧ b_ < (m.gY_n : Int) := by omega
      refine J.cast (env' := [(11, .int .i64 f), (10, .int .i64 b_), (9, .int .i64 a_), (4, .pointer (some ⟨b1, 0, none⟩))]) (by rw [ha_, hb_]) ?_
      obtain ⟨p1, hp1, hc1⟩ := q2.at 0 (a_).toNat (by omega)
      have hel1 := getD_Q q3 0 (n := (a_).toNat) (by have := q2.len_eq; omega)
      obtain ⟨p2, hp2, hc2⟩ := q5.at 0 (b_).toNat (by omega)
      have hel2 := getD_Q q6 0 (n := (b_).toNat) (by have := q5.len_eq; omega)
      refine J.drawStill S5 12 Try.mixed (by kernel_rfl) (by kernel_rfl) (by kernel_rfl) ?_
      intro w6 S6
      refine SL.ok (by decide) (OK.run 40 (.pointer (some ⟨b1, 0, none⟩)) (by kernel_rfl)) ?_
      refine SL.ok (by decide) (OK.ldBox S6 0 41 22 0 (.slice m.gX_a m.gX_n m.gX_c) (by kernel_rfl) rfl (by kernel_rfl)) ?_
      refine SL.ok (by decide) (OK.run 42 (.int .i64 a_) (by kernel_rfl)) ?_
      refine SL.ok (by decide) (OK.index 43 22 1 m.gX_a p1 m.gX_n (a_).toNat a_ (p1.add (a_).toNat) (by kernel_rfl) (by kernel_rfl) hp1 (by omega) (by omega) (by rw [Nat.mul_one])) ?_
      refine SL.ok (by decide) (OK.ldCell 44 3 (p1.add (a_).toNat) (.int .i64 (m.gX_l.getD (a_).toNat 0)) (by kernel_rfl) (by kernel_rfl) (S6.cell hc1)) ?_
      refine SL.ok (by decide) (OK.run 45 (.pointer (some ⟨b1, 1, none⟩)) (by kernel_rfl)) ?_
      refine SL.ok (by decide) (OK.ldBox S6 0 46 22 1 (.slice m.gY_a m.gY_n m.gY_c) (by kernel_rfl) rfl (by kernel_rfl)) ?_
      refine SL.ok (by decide) (OK.run 47 (.int .i64 b_) (by kernel_rfl)) ?_
      refine SL.ok (by decide) (OK.index 48 22 1 m.gY_a p2 m.gY_n (b_).toNat b_ (p2.add (b_).toNat) (by kernel_rfl) (by kernel_rfl) hp2 (by omega) (by omega) (by rw [Nat.mul_one])) ?_
      refine SL.ok (by decide) (OK.ldCell 49 3 (p2.add (b_).toNat) (.int .i64 (m.gY_l.getD (b_).toNat 0)) (by kernel_rfl) (by kernel_rfl) (S6.cell hc2)) ?_
      refine SL.ok (by decide) (OK.run 12 (.int .i64 (m.gX_l.getD (a_).toNat 0)) (by kernel_rfl)) ?_
      refine SL.ok (by decide) (OK.run 13 (.int .i64 (m.gY_l.getD (b_).toNat 0)) (by kernel_rfl)) ?_
      refine SL.done ?_
      refine TL.done (by kernel_rfl) ?_
      refine J.run 0 (rRest K4_7) [(13, .int .i64 (m.gY_l.getD (b_).toNat 0)), (12, .int .i64 (m.gX_l.getD (a_).toNat 0)), (11, .int .i64 f), (10, .int .i64 b_), (9, .int .i64 a_), (4, .pointer (some ⟨b1, 0, none⟩))] w6 (by kernel_rfl) ?_
      refine J.run 3 K4_8 [(50, .pointer (some ⟨b1, 0, none⟩)), (13, .int .i64 (m.gY_l.getD (b_).toNat 0)), (12, .int .i64 (m.gX_l.getD (a_).toNat 0)), (11, .int .i64 f), (10, .int .i64 b_), (9, .int .i64 a_), (4, .pointer (some ⟨b1, 0, none⟩))] w6 (by kernel_rfl) ?_
      refine J.ok (OK.ldBox S6 0 51 22 0 (.slice m.gX_a m.gX_n m.gX_c) (by kernel_rfl) rfl (by kernel_rfl)) ?_
      refine J.run 2 K4_9 [(53, .int .i64 (IntKind.wrap .i64 ((m.gX_n : Int) - 1))), (13, .int .i64 (m.gY_l.getD (b_).toNat 0)), (12, .int .i64 (m.gX_l.getD (a_).toNat 0)), (11, .int .i64 f), (10, .int .i64 b_), (9, .int .i64 a_), (4, .pointer (some ⟨b1, 0, none⟩))] w6 (by kernel_rfl) ?_
      refine J.head (.int .i64 ((m.gX_n : Int) - 1)) (congrArg (Value.int .i64) (IntWalk.i64_in _ (by omega))) ?_
      refine J.run 5 K4_10 [(54, .pointer (some ⟨b1, 1, none⟩)), (14, .int .i64 ((m.gX_n : Int) - 1)), (13, .int .i64 (m.gY_l.getD (b_).toNat 0)), (12, .int .i64 (m.gX_l.getD (a_).toNat 0)), (11, .int .i64 f), (10, .int .i64 b_), (9, .int .i64 a_), (4, .pointer (some ⟨b1, 0, none⟩))] w6 (by kernel_rfl) ?_
      refine J.ok (OK.ldBox S6 0 55 22 1 (.slice m.gY_a m.gY_n m.gY_c) (by kernel_rfl) rfl (by kernel_rfl)) ?_
      refine J.run 2 K4_11 [(57, .int .i64 (IntKind.wrap .i64 ((m.gY_n : Int) - 1))), (14, .int .i64 ((m.gX_n : Int) - 1)), (13, .int .i64 (m.gY_l.getD (b_).toNat 0)), (12, .int .i64 (m.gX_l.getD (a_).toNat 0)), (11, .int .i64 f), (10, .int .i64 b_), (9, .int .i64 a_), (4, .pointer (some ⟨b1, 0, none⟩))] w6 (by kernel_rfl) ?_
      refine J.head (.int .i64 ((m.gY_n : Int) - 1)) (congrArg (Value.int .i64) (IntWalk.i64_in _ (by omega))) ?_
      obtain ⟨hz1, _⟩ := hv4 a_.toNat (by omega)
      obtain ⟨hz2, _⟩ := hv4 0 (by omega)
      obtain ⟨hz3, _⟩ := hv4 ((m.gX_n : Int) - 1).toNat (by omega)
      have := hx2 0 (by omega)
      have := hx2 ((m.gX_n : Int) - 1).toNat (by omega)
      have := hy2 0 (by omega)
      have := hy2 ((m.gY_n : Int) - 1).toNat (by omega)
      refine J.run 3 K4_12 [(15, .int .i64 ((m.gY_n : Int) - 1)), (14, .int .i64 ((m.gX_n : Int) - 1)), (13, .int .i64 (m.gY_l.getD (b_).toNat 0)), (12, .int .i64 (m.gX_l.getD (a_).toNat 0)), (11, .int .i64 f), (10, .int .i64 b_), (9, .int .i64 a_), (4, .pointer (some ⟨b1, 0, none⟩))] w6 (by kernel_rfl) ?_
      have fk3 : (atF m (m.gX_l.getD (a_).toNat 0) (m.gY_l.getD (b_).toNat 0)) = (((m.gZ_l.getD (a_).toNat rw0).gS_l).getD (b_).toNat 0) := hN1 _ _ (by omega) (by omega)
      obtain ⟨hz1, _⟩ := hv4 a_.toNat (by omega)
      obtain ⟨hz2, _⟩ := hv4 0 (by omega)
      obtain ⟨hz3, _⟩ := hv4 ((m.gX_n : Int) - 1).toNat (by omega)
      have := hx2 0 (by omega)
      have := hx2 ((m.gX_n : Int) - 1).toNat (by omega)
      have := hy2 0 (by omega)
      have := hy2 ((m.gY_n : Int) - 1).toNat (by omega)
      have fk4 : (atF m ((m.gX_l.getD 0 0) - f) (m.gY_l.getD (b_).toNat 0)) = (((m.gZ_l.getD 0 rw0).gS_l).getD (b_).toNat 0) := hN2 _ _ (by omega) (by omega)
      obtain ⟨hz1, _⟩ := hv4 a_.toNat (by omega)
      obtain ⟨hz2, _⟩ := hv4 0 (by omega)
      obtain ⟨hz3, _⟩ := hv4 ((m.gX_n : Int) - 1).toNat (by omega)
      have := hx2 0 (by omega)
      have := hx2 ((m.gX_n : Int) - 1).toNat (by omega)
      have := hy2 0 (by omega)
      have := hy2 ((m.gY_n : Int) - 1).toNat (by omega)
      have fk5 : (atF m ((m.gX_l.getD ((m.gX_n : Int) - 1).toNat 0) + f) (m.gY_l.getD (b_).toNat 0)) = (((m.gZ_l.getD ((m.gX_n : Int) - 1).toNat rw0).gS_l).getD (b_).toNat 0) := hN3 _ _ (by omega) (by omega)
      obtain ⟨hz1, _⟩ := hv4 a_.toNat (by omega)
      obtain ⟨hz2, _⟩ := hv4 0 (by omega)
      obtain ⟨hz3, _⟩ := hv4 ((m.gX_n : Int) - 1).toNat (by omega)
      have := hx2 0 (by omega)
      have := hx2 ((m.gX_n : Int) - 1).toNat (by omega)
      have := hy2 0 (by omega)
      have := hy2 ((m.gY_n : Int) - 1).toNat (by omega)
      have fk6 : (atF m (m.gX_l.getD (a_).toNat 0) ((m.gY_l.getD 0 0) - f)) = (((m.gZ_l.getD (a_).toNat rw0).gS_l).getD 0 0) := hN4 _ _ (by omega) (by omega)
      obtain ⟨hz1, _⟩ := hv4 a_.toNat (by omega)
      obtain ⟨hz2, _⟩ := hv4 0 (by omega)
      obtain ⟨hz3, _⟩ := hv4 ((m.gX_n : Int) - 1).toNat (by omega)
      have := hx2 0 (by omega)
      have := hx2 ((m.gX_n : Int) - 1).toNat (by omega)
      have := hy2 0 (by omega)
      have := hy2 ((m.gY_n : Int) - 1).toNat (by omega)
      obtain ⟨p3, hp3, hc3⟩ := q8.at rw0 (a_).toNat (by omega)
      have hel3 := getD_Q q9 rw0 (n := (a_).toNat) (by have := q8.len_eq; omega)
      obtain ⟨q10, q11, q12, _⟩ := id hel3
      have ql4 := q11.len_eq
      obtain ⟨p4, hp4, hc4⟩ := q11.at 0 (b_).toNat (by omega)
      have hel4 := getD_Q q12 0 (n := (b_).toNat) (by have := q11.len_eq; omega)
      obtain ⟨p5, hp5, hc5⟩ := q2.at 0 0 (by omega)
      have hel5 := getD_Q q3 0 (n := 0) (by have := q2.len_eq; omega)
      obtain ⟨p6, hp6, hc6⟩ := q8.at rw0 0 (by omega)
      have hel6 := getD_Q q9 rw0 (n := 0) (by have := q8.len_eq; omega)
      obtain ⟨q13, q14, q15, _⟩ := id hel6
      have ql5 := q14.len_eq
      obtain ⟨p7, hp7, hc7⟩ := q14.at 0 (b_).toNat (by omega)
      have hel7 := getD_Q q15 0 (n := (b_).toNat) (by have := q14.len_eq; omega)
      obtain ⟨p8, hp8, hc8⟩ := q2.at 0 ((m.gX_n : Int) - 1).toNat (by omega)
      have hel8 := getD_Q q3 0 (n := ((m.gX_n : Int) - 1).toNat) (by have := q2.len_eq; omega)
      obtain ⟨p9, hp9, hc9⟩ := q8.at rw0 ((m.gX_n : Int) - 1).toNat (by omega)
      have hel9 := getD_Q q9 rw0 (n := ((m.gX_n : Int) - 1).toNat) (by have := q8.len_eq; omega)
      obtain ⟨q16, q17, q18, _⟩ := id hel9
      have ql6 := q17.len_eq
      obtain ⟨p10, hp10, hc10⟩ := q17.at 0 (b_).toNat (by omega)
      have hel10 := getD_Q q18 0 (n := (b_).toNat) (by have := q17.len_eq; omega)
      obtain ⟨p11, hp11, hc11⟩ := q5.at 0 0 (by omega)
      have hel11 := getD_Q q6 0 (n := 0) (by have := q5.len_eq; omega)
      obtain ⟨p12, hp12, hc12⟩ := q11.at 0 0 (by omega)
      have hel12 := getD_Q q12 0 (n := 0) (by have := q11.len_eq; omega)
      obtain ⟨p13, hp13, hc13⟩ := q5.at 0 ((m.gY_n : Int) - 1).toNat (by omega)
      have hel13 := getD_Q q6 0 (n := ((m.gY_n : Int) - 1).toNat) (by have := q5.len_eq; omega)
      obtain ⟨p14, hp14, hc14⟩ := q11.at 0 ((m.gY_n : Int) - 1).toNat (by omega)
      have hel14 := getD_Q q12 0 (n := ((m.gY_n : Int) - 1).toNat) (by have := q11.len_eq; omega)
      refine J.drawPlan (fun w_ => Sep w [box b1 [.slice m.gX_a m.gX_n m.gX_c, .slice m.gY_a m.gY_n m.gY_c, .slice m.gZ_a m.gZ_n m.gZ_c] 25] w_) [(0, true), (1, true), (2, true), (4, true), (5, true), (6, true), (7, true), (8, true), (9, true), (10, true), (11, true), (3, false), (12, true), (13, true), (14, true), (15, true), (16, true), (17, true), (18, true), (19, true), (20, true), (21, true), (23, true), (24, true), (25, true), (26, true), (27, true), (28, true), (29, true), (22, false), (30, true), (31, true), (32, true), (33, true), (34, true), (35, true), (36, true), (37, true), (38, true), (39, true), (40, true), (41, true), (43, true), (44, true), (45, true), (46, true), (47, true), (48, true), (49, true), (50, true), (42, false), (51, true), (52, true), (53, true), (54, true), (55, true), (56, true), (57, true), (58, true), (59, true), (60, true), (61, true), (63, true), (64, true), (65, true), (66, true), (67, true), (68, true), (69, true), (62, false), (70, true), (71, true), (72, true), (73, true), (74, true), (75, true), (76, true), (77, true), (78, true), (79, true), (80, true), (81, true), (83, true), (84, true), (85, true), (86, true), (87, true), (88, true), (89, true), (90, true), (82, false), (91, true), (92, true), (93, true)] S6 Try.mixed (by kernel_rfl) (planOK_of (T := [(0, some 58, 16), (0, some 59, 4096), (0, some 60, 8192), (7, some 61, 2017612633061982208), (0, some 62, 16), (16, some 63, 4611686018427387904), (0, some 64, 512), (96, some 65, 27670116110564327424), (128, some 66, 36893488147419103232), (0, some 67, 1024), (768, some 68, 221360928884514619392), (1024, some 69, 295147905179352825856), (2056, some 70, 592601653367919345664), (4104, some 71, 1180591620717411303424), (8192, some 72, 2361183241434822606864), (8192, some 73, 2361183241434822606864), (40960, some 74, 11805916207174113034240), (73728, some 75, 21250649172913403461632), (139264, some 76, 40140115104391984316416), (8192, some 77, 2361183241434822608896), (794624, some 78, 229034774419177792864256), (8192, some 79, 2361183241434822615040), (3170304, some 80, 913777914435276348850176), (8192, some 81, 2361183241434822606864), (8396800, some 82, 2420212822470693172019200), (16785408, some 83, 4838064461699951521431552), (33562624, some 84, 9673767740158468220256256), (8192, some 85, 2361183241434822607872), (201334784, some 86, 58030800524743635208503296), (268443648, some 87, 77373613638577702003802112), (541073408, some 88, 155953791913528598359703552), (1073750016, some 89, 309487371004586503547387904), (2151677952, some 90, 618970019642690137449562112), (4294967296, some 91, 1237940039285380274899124240), (4294967296, some 92, 1237940039285380274899124240), (21474836480, some 93, 6189700196426901374495621120), (4294967296, some 94, 1237940039285380274899140608), (107374182400, some 95, 30948500982134506872478105600), (141733920768, some 96, 40852021296417549071671099392), (4294967296, some 97, 1237940039285380274899126272), (828928688128, some 98, 238922427582078393055530975232), (4294967296, some 99, 1237940039285380274899132416), (3311419785216, some 100, 954451770289028191947224776704), (4294967296, some 101, 1237940039285380274899124240), (8800387989504, some 102, 2536539140495744183268305534976), (4294967296, some 103, 1237940039285380274899140608), (52780853100544, some 104, 15213045142778038198235337588736), (70373039144960, some 105, 20283647543690955804222150410240), (4294967296, some 106, 1237940039285380274899125248), (422216760033280, some 107, 121695695561949307923958406840320), (562954248388608, some 108, 162260514769252648771852909412352), (1130302248321024, some 109, 325787442198694241564927622905856), (2251804108652544, some 110, 649038345256892738946586940276736), (4507997673881600, some 111, 1298074214633706907132624082305024), (9007199254740992, some 112, 2596148429267413814265248164610064), (9007199254740992, some 113, 2596148429267413814265248164614144), (9007199254740992, some 114, 2596148429267413814265248164610064), (81064793292668928, some 115, 23365335863406724328387233481490432), (153122387330596864, some 116, 44134523297546034842509218798370816), (297237575406452736, some 117, 85672898165824655870753189432131584), (9007199254740992, some 118, 2596148429267413814265248164612096), (1738389456165011456, some 119, 501056646848610866153192895769739264), (2368893403996880896, some 120, 682787036897329833151760267292442624), (9007199254740992, some 121, 2596148429267413814265248164610064), (9232379236109516800, some 122, 2661052139999099159621879368725299200), (9007199254740992, some 123, 2596148429267413814265248164610560), (55349239420383395840, some 124, 15953332097848257888659949971528744960), (73795983494092947456, some 125, 21270244080987921380275178212650123264), (147582959788931153920, some 126, 42537892013546575346736091177135636480), (295156912378607566848, some 127, 85073187878663883279657917106106662912), (594916503576387780608, some 128, 171473007604683415018405376024329060352), (1180600627916666044416, some 129, 340284963069367730877188872679932821504), (2365794927453249994752, some 130, 680564733841876926926749214863536422912), (4722366482869645213696, some 131, 1361129467683753853853498429727072845840), (4722366482869645213696, some 132, 1361129467683753853853498429727072849920), (4722366482869645213696, some 133, 1361129467683753853853498429727072845840), (42501298345826806923264, some 134, 12250165209153784684681485867543655612416), (4722366482869645213696, some 135, 1361129467683753853853498429727072878592), (231395957660612615471104, some 136, 66695343916503938838821423056626569445376), (306953821386526938890240, some 137, 88473415399444000500477397932259734978560), (4722366482869645213696, some 138, 1361129467683753853853498429727072847872), (1818111095904813407272960, some 139, 524034845058245233733596895444923045642240), (2450908204609345865908224, some 140, 706426193727868250149965685028350806982656), (4722366482869645213696, some 141, 1361129467683753853853498429727072845840), (9676128923399903042863104, some 142, 2788954279284011646545818282510772261093376), (4722366482869645213696, some 143, 1361129467683753853853498429727072846336), (58033161707985070031110144, some 144, 16726920028365651110005642202915998202331136), (77375974821819136826408960, some 145, 22302106327998306895389571771078088578826240), (4722366482869645213696, some 146, 1361129467683753853853498429727072878592), (464232237098500472732385280, some 147, 133805832320651422603068163134319896108728320), (618974742009173007094775808, some 148, 178407322717712668886139599679616619120689152), (1242780464930321661243162624, some 149, 358207080880865817964771328252844033762656256), (2475884800937243419443462144, some 150, 713625207482447624282996838223177295264219136), (9903520314283042199192993791, some 8, 1427247692705959881058285969449495136382746624)]) (by kernel_rfl) (by kernel_rfl)) ?_
      intro w7 S7
      refine PB.mk (S7.sub (.cons_cons _ (.slnil))) ?_
      refine PL.takeOK 0 (fun w_ S_ => OK.ldBox S_ 0 58 25 0 (.agg #[.slice m.gX_a m.gX_n m.gX_c, .slice m.gY_a m.gY_n m.gY_c, .slice m.gZ_a m.gZ_n m.gZ_c]) (by kernel_rfl) rfl (by kernel_rfl)) rfl ?_
      refine PL.take 1 59 (.int .i64 (m.gX_l.getD (a_).toNat 0)) (fun _ _ => by kernel_rfl) ?_
      refine PL.take 2 60 (.int .i64 (m.gY_l.getD (b_).toNat 0)) (fun _ _ => by kernel_rfl) ?_
      refine PL.take 4 62 (.pointer (some ⟨b1, 2, none⟩)) (fun _ _ => by kernel_rfl) ?_
      refine PL.takeOK 5 (fun w_ S_ => OK.ldBox S_ 0 63 23 2 (.slice m.gZ_a m.gZ_n m.gZ_c) (by kernel_rfl) rfl (by kernel_rfl)) rfl ?_
      refine PL.take 6 64 (.int .i64 a_) (fun _ _ => by kernel_rfl) ?_
      refine PL.takeOK 7 (fun w_ S_ => OK.index 65 23 1 m.gZ_a p3 m.gZ_n (a_).toNat a_ (p3.add ((a_).toNat * 1)) (by kernel_rfl) (by kernel_rfl) hp3 (by omega) (by omega) rfl) rfl ?_
      refine PL.takeOK 8 (fun w_ S_ => OK.ldCell 66 22 (p3.add ((a_).toNat * 1)) (.slice ((m.gZ_l.getD (a_).toNat rw0).gS_a) ((m.gZ_l.getD (a_).toNat rw0).gS_n) ((m.gZ_l.getD (a_).toNat rw0).gS_c)) (by kernel_rfl) (by kernel_rfl) (S_.cell (cell_zero (hc3 0 _ rfl)))) rfl ?_
      refine PL.take 9 67 (.int .i64 b_) (fun _ _ => by kernel_rfl) ?_
      refine PL.takeOK 10 (fun w_ S_ => OK.index 68 22 1 ((m.gZ_l.getD (a_).toNat rw0).gS_a) p4 ((m.gZ_l.getD (a_).toNat rw0).gS_n) (b_).toNat b_ (p4.add (b_).toNat) (by kernel_rfl) (by kernel_rfl) hp4 (by omega) (by omega) (by rw [Nat.mul_one])) rfl ?_
      refine PL.takeOK 11 (fun w_ S_ => OK.ldCell 69 3 (p4.add (b_).toNat) (.int .i64 (((m.gZ_l.getD (a_).toNat rw0).gS_l).getD (b_).toNat 0)) (by kernel_rfl) (by kernel_rfl) (S_.cell hc4)) rfl ?_
      refine PL.callF 61 13 #[.agg #[.slice m.gX_a m.gX_n m.gX_c, .slice m.gY_a m.gY_n m.gY_c, .slice m.gZ_a m.gZ_n m.gZ_c], .int .i64 (m.gX_l.getD (a_).toNat 0), .int .i64 (m.gY_l.getD (b_).toNat 0)] hb13 (by kernel_rfl) (At_any m (m.gX_l.getD (a_).toNat 0) (m.gY_l.getD (b_).toNat 0) _ (mpQ_sep hm S7)) ?_
      rintro _ w8 ⟨rfl, T4⟩
      have S8 : Sep w [box b1 [.slice m.gX_a m.gX_n m.gX_c, .slice m.gY_a m.gY_n m.gY_c, .slice m.gZ_a m.gZ_n m.gZ_c] 25] w8 := S7.trans T4
      clear T4 S7
      refine PB.mk (S8.sub (.cons_cons _ (.slnil))) ?_
      refine PL.take 12 70 (.bool ((atF m (m.gX_l.getD (a_).toNat 0) (m.gY_l.getD (b_).toNat 0)) == (((m.gZ_l.getD (a_).toNat rw0).gS_l).getD (b_).toNat 0))) (fun _ _ => by kernel_rfl) ?_
      refine PL.head (.bool true) (congrArg Value.bool (beq_iff_eq.2 fk3)) ?_
      refine PL.take 13 71 (.bool true) (fun _ _ => by kernel_rfl) ?_
      refine PL.takeOK 14 (fun w_ S_ => OK.ldBox S_ 0 72 25 0 (.agg #[.slice m.gX_a m.gX_n m.gX_c, .slice m.gY_a m.gY_n m.gY_c, .slice m.gZ_a m.gZ_n m.gZ_c]) (by kernel_rfl) rfl (by kernel_rfl)) rfl ?_
      refine PL.take 15 73 (.pointer (some ⟨b1, 0, none⟩)) (fun _ _ => by kernel_rfl) ?_
      refine PL.takeOK 16 (fun w_ S_ => OK.ldBox S_ 0 74 22 0 (.slice m.gX_a m.gX_n m.gX_c) (by kernel_rfl) rfl (by kernel_rfl)) rfl ?_
      refine PL.takeOK 17 (fun w_ S_ => OK.index 75 22 1 m.gX_a p5 m.gX_n 0 0 (p5.add 0) (by kernel_rfl) (by kernel_rfl) hp5 (by omega) (by omega) (by rw [Nat.mul_one])) rfl ?_
      refine PL.takeOK 18 (fun w_ S_ => OK.ldCell 76 3 (p5.add 0) (.int .i64 (m.gX_l.getD 0 0)) (by kernel_rfl) (by kernel_rfl) (S_.cell hc5)) rfl ?_
      refine PL.take 19 77 (.int .i64 f) (fun _ _ => by kernel_rfl) ?_
      refine PL.take 20 78 (.int .i64 (IntKind.wrap .i64 ((m.gX_l.getD 0 0) - f))) (fun _ _ => by kernel_rfl) ?_
      refine PL.head (.int .i64 ((m.gX_l.getD 0 0) - f)) (congrArg (Value.int .i64) (IntWalk.i64_in _ (by omega))) ?_
      refine PL.take 21 79 (.int .i64 (m.gY_l.getD (b_).toNat 0)) (fun _ _ => by kernel_rfl) ?_
      refine PL.take 23 81 (.pointer (some ⟨b1, 2, none⟩)) (fun _ _ => by kernel_rfl) ?_
      refine PL.takeOK 24 (fun w_ S_ => OK.ldBox S_ 0 82 23 2 (.slice m.gZ_a m.gZ_n m.gZ_c) (by kernel_rfl) rfl (by kernel_rfl)) rfl ?_
      refine PL.takeOK 25 (fun w_ S_ => OK.index 83 23 1 m.gZ_a p6 m.gZ_n 0 0 (p6.add (0 * 1)) (by kernel_rfl) (by kernel_rfl) hp6 (by omega) (by omega) rfl) rfl ?_
      refine PL.takeOK 26 (fun w_ S_ => OK.ldCell 84 22 (p6.add (0 * 1)) (.slice ((m.gZ_l.getD 0 rw0).gS_a) ((m.gZ_l.getD 0 rw0).gS_n) ((m.gZ_l.getD 0 rw0).gS_c)) (by kernel_rfl) (by kernel_rfl) (S_.cell (cell_zero (hc6 0 _ rfl)))) rfl ?_
      refine PL.take 27 85 (.int .i64 b_) (fun _ _ => by kernel_rfl) ?_
      refine PL.takeOK 28 (fun w_ S_ => OK.index 86 22 1 ((m.gZ_l.getD 0 rw0).gS_a) p7 ((m.gZ_l.getD 0 rw0).gS_n) (b_).toNat b_ (p7.add (b_).toNat) (by kernel_rfl) (by kernel_rfl) hp7 (by omega) (by omega) (by rw [Nat.mul_one])) rfl ?_
      refine PL.takeOK 29 (fun w_ S_ => OK.ldCell 87 3 (p7.add (b_).toNat) (.int .i64 (((m.gZ_l.getD 0 rw0).gS_l).getD (b_).toNat 0)) (by kernel_rfl) (by kernel_rfl) (S_.cell hc7)) rfl ?_
      refine PL.callF 80 13 #[.agg #[.slice m.gX_a m.gX_n m.gX_c, .slice m.gY_a m.gY_n m.gY_c, .slice m.gZ_a m.gZ_n m.gZ_c], .int .i64 ((m.gX_l.getD 0 0) - f), .int .i64 (m.gY_l.getD (b_).toNat 0)] hb13 (by kernel_rfl) (At_any m ((m.gX_l.getD 0 0) - f) (m.gY_l.getD (b_).toNat 0) _ (mpQ_sep hm S8)) ?_
      rintro _ w9 ⟨rfl, T5⟩
      have S9 : Sep w [box b1 [.slice m.gX_a m.gX_n m.gX_c, .slice m.gY_a m.gY_n m.gY_c, .slice m.gZ_a m.gZ_n m.gZ_c] 25] w9 := S8.trans T5
      clear T5 S8
      refine PB.mk (S9.sub (.cons_cons _ (.slnil))) ?_
      refine PL.take 30 88 (.bool ((atF m ((m.gX_l.getD 0 0) - f) (m.gY_l.getD (b_).toNat 0)) == (((m.gZ_l.getD 0 rw0).gS_l).getD (b_).toNat 0))) (fun _ _ => by kernel_rfl) ?_
      refine PL.head (.bool true) (congrArg Value.bool (beq_iff_eq.2 fk4)) ?_
      refine PL.take 31 89 (.bool true) (fun _ _ => by kernel_rfl) ?_
      refine PL.take 32 90 (.bool true) (fun _ _ => by kernel_rfl) ?_
      refine PL.takeOK 33 (fun w_ S_ => OK.ldBox S_ 0 91 25 0 (.agg #[.slice m.gX_a m.gX_n m.gX_c, .slice m.gY_a m.gY_n m.gY_c, .slice m.gZ_a m.gZ_n m.gZ_c]) (by kernel_rfl) rfl (by kernel_rfl)) rfl ?_
      refine PL.take 34 92 (.pointer (some ⟨b1, 0, none⟩)) (fun _ _ => by kernel_rfl) ?_
      refine PL.takeOK 35 (fun w_ S_ => OK.ldBox S_ 0 93 22 0 (.slice m.gX_a m.gX_n m.gX_c) (by kernel_rfl) rfl (by kernel_rfl)) rfl ?_
      refine PL.take 36 94 (.int .i64 ((m.gX_n : Int) - 1)) (fun _ _ => by kernel_rfl) ?_
      refine PL.takeOK 37 (fun w_ S_ => OK.index 95 22 1 m.gX_a p8 m.gX_n ((m.gX_n : Int) - 1).toNat ((m.gX_n : Int) - 1) (p8.add ((m.gX_n : Int) - 1).toNat) (by kernel_rfl) (by kernel_rfl) hp8 (by omega) (by omega) (by rw [Nat.mul_one])) rfl ?_
      refine PL.takeOK 38 (fun w_ S_ => OK.ldCell 96 3 (p8.add ((m.gX_n : Int) - 1).toNat) (.int .i64 (m.gX_l.getD ((m.gX_n : Int) - 1).toNat 0)) (by kernel_rfl) (by kernel_rfl) (S_.cell hc8)) rfl ?_
      refine PL.take 39 97 (.int .i64 f) (fun _ _ => by kernel_rfl) ?_
      refine PL.take 40 98 (.int .i64 (IntKind.wrap .i64 ((m.gX_l.getD ((m.gX_n : Int) - 1).toNat 0) + f))) (fun _ _ => by kernel_rfl) ?_
      refine PL.head (.int .i64 ((m.gX_l.getD ((m.gX_n : Int) - 1).toNat 0) + f)) (congrArg (Value.int .i64) (IntWalk.i64_in _ (by omega))) ?_
      refine PL.take 41 99 (.int .i64 (m.gY_l.getD (b_).toNat 0)) (fun _ _ => by kernel_rfl) ?_
      refine PL.take 43 101 (.pointer (some ⟨b1, 2, none⟩)) (fun _ _ => by kernel_rfl) ?_
      refine PL.takeOK 44 (fun w_ S_ => OK.ldBox S_ 0 102 23 2 (.slice m.gZ_a m.gZ_n m.gZ_c) (by kernel_rfl) rfl (by kernel_rfl)) rfl ?_
      refine PL.take 45 103 (.int .i64 ((m.gX_n : Int) - 1)) (fun _ _ => by kernel_rfl) ?_
      refine PL.takeOK 46 (fun w_ S_ => OK.index 104 23 1 m.gZ_a p9 m.gZ_n ((m.gX_n : Int) - 1).toNat ((m.gX_n : Int) - 1) (p9.add (((m.gX_n : Int) - 1).toNat * 1)) (by kernel_rfl) (by kernel_rfl) hp9 (by omega) (by omega) rfl) rfl ?_
      refine PL.takeOK 47 (fun w_ S_ => OK.ldCell 105 22 (p9.add (((m.gX_n : Int) - 1).toNat * 1)) (.slice ((m.gZ_l.getD ((m.gX_n : Int) - 1).toNat rw0).gS_a) ((m.gZ_l.getD ((m.gX_n : Int) - 1).toNat rw0).gS_n) ((m.gZ_l.getD ((m.gX_n : Int) - 1).toNat rw0).gS_c)) (by kernel_rfl) (by kernel_rfl) (S_.cell (cell_zero (hc9 0 _ rfl)))) rfl ?_
      refine PL.take 48 106 (.int .i64 b_) (fun _ _ => by kernel_rfl) ?_
      refine PL.takeOK 49 (fun w_ S_ => OK.index 107 22 1 ((m.gZ_l.getD ((m.gX_n : Int) - 1).toNat rw0).gS_a) p10 ((m.gZ_l.getD ((m.gX_n : Int) - 1).toNat rw0).gS_n) (b_).toNat b_ (p10.add (b_).toNat) (by kernel_rfl) (by kernel_rfl) hp10 (by omega) (by omega) (by rw [Nat.mul_one])) rfl ?_
      refine PL.takeOK 50 (fun w_ S_ => OK.ldCell 108 3 (p10.add (b_).toNat) (.int .i64 (((m.gZ_l.getD ((m.gX_n : Int) - 1).toNat rw0).gS_l).getD (b_).toNat 0)) (by kernel_rfl) (by kernel_rfl) (S_.cell hc10)) rfl ?_
      refine PL.callF 100 13 #[.agg #[.slice m.gX_a m.gX_n m.gX_c, .slice m.gY_a m.gY_n m.gY_c, .slice m.gZ_a m.gZ_n m.gZ_c], .int .i64 ((m.gX_l.getD ((m.gX_n : Int) - 1).toNat 0) + f), .int .i64 (m.gY_l.getD (b_).toNat 0)] hb13 (by kernel_rfl) (At_any m ((m.gX_l.getD ((m.gX_n : Int) - 1).toNat 0) + f) (m.gY_l.getD (b_).toNat 0) _ (mpQ_sep hm S9)) ?_
      rintro _ w10 ⟨rfl, T6⟩
      have S10 : Sep w [box b1 [.slice m.gX_a m.gX_n m.gX_c, .slice m.gY_a m.gY_n m.gY_c, .slice m.gZ_a m.gZ_n m.gZ_c] 25] w10 := S9.trans T6
      clear T6 S9
      refine PB.mk (S10.sub (.cons_cons _ (.slnil))) ?_
      refine PL.take 51 109 (.bool ((atF m ((m.gX_l.getD ((m.gX_n : Int) - 1).toNat 0) + f) (m.gY_l.getD (b_).toNat 0)) == (((m.gZ_l.getD ((m.gX_n : Int) - 1).toNat rw0).gS_l).getD (b_).toNat 0))) (fun _ _ => by kernel_rfl) ?_
      refine PL.head (.bool true) (congrArg Value.bool (beq_iff_eq.2 fk5)) ?_
      refine PL.take 52 110 (.bool true) (fun _ _ => by kernel_rfl) ?_
      refine PL.take 53 111 (.bool true) (fun _ _ => by kernel_rfl) ?_
      refine PL.takeOK 54 (fun w_ S_ => OK.ldBox S_ 0 112 25 0 (.agg #[.slice m.gX_a m.gX_n m.gX_c, .slice m.gY_a m.gY_n m.gY_c, .slice m.gZ_a m.gZ_n m.gZ_c]) (by kernel_rfl) rfl (by kernel_rfl)) rfl ?_
      refine PL.take 55 113 (.int .i64 (m.gX_l.getD (a_).toNat 0)) (fun _ _ => by kernel_rfl) ?_
      refine PL.take 56 114 (.pointer (some ⟨b1, 1, none⟩)) (fun _ _ => by kernel_rfl) ?_
      refine PL.takeOK 57 (fun w_ S_ => OK.ldBox S_ 0 115 22 1 (.slice m.gY_a m.gY_n m.gY_c) (by kernel_rfl) rfl (by kernel_rfl)) rfl ?_
      refine PL.takeOK 58 (fun w_ S_ => OK.index 116 22 1 m.gY_a p11 m.gY_n 0 0 (p11.add 0) (by kernel_rfl) (by kernel_rfl) hp11 (by omega) (by omega) (by rw [Nat.mul_one])) rfl ?_
      refine PL.takeOK 59 (fun w_ S_ => OK.ldCell 117 3 (p11.add 0) (.int .i64 (m.gY_l.getD 0 0)) (by kernel_rfl) (by kernel_rfl) (S_.cell hc11)) rfl ?_
      refine PL.take 60 118 (.int .i64 f) (fun _ _ => by kernel_rfl) ?_
      refine PL.take 61 119 (.int .i64 (IntKind.wrap .i64 ((m.gY_l.getD 0 0) - f))) (fun _ _ => by kernel_rfl) ?_
      refine PL.head (.int .i64 ((m.gY_l.getD 0 0) - f)) (congrArg (Value.int .i64) (IntWalk.i64_in _ (by omega))) ?_
      refine PL.take 63 121 (.pointer (some ⟨b1, 2, none⟩)) (fun _ _ => by kernel_rfl) ?_
      refine PL.takeOK 64 (fun w_ S_ => OK.ldBox S_ 0 122 23 2 (.slice m.gZ_a m.gZ_n m.gZ_c) (by kernel_rfl) rfl (by kernel_rfl)) rfl ?_
      refine PL.take 65 123 (.int .i64 a_) (fun _ _ => by kernel_rfl) ?_
      refine PL.takeOK 66 (fun w_ S_ => OK.index 124 23 1 m.gZ_a p3 m.gZ_n (a_).toNat a_ (p3.add ((a_).toNat * 1)) (by kernel_rfl) (by kernel_rfl) hp3 (by omega) (by omega) rfl) rfl ?_
      refine PL.takeOK 67 (fun w_ S_ => OK.ldCell 125 22 (p3.add ((a_).toNat * 1)) (.slice ((m.gZ_l.getD (a_).toNat rw0).gS_a) ((m.gZ_l.getD (a_).toNat rw0).gS_n) ((m.gZ_l.getD (a_).toNat rw0).gS_c)) (by kernel_rfl) (by kernel_rfl) (S_.cell (cell_zero (hc3 0 _ rfl)))) rfl ?_
      refine PL.takeOK 68 (fun w_ S_ => OK.index 126 22 1 ((m.gZ_l.getD (a_).toNat rw0).gS_a) p12 ((m.gZ_l.getD (a_).toNat rw0).gS_n) 0 0 (p12.add 0) (by kernel_rfl) (by kernel_rfl) hp12 (by omega) (by omega) (by rw [Nat.mul_one])) rfl ?_
      refine PL.takeOK 69 (fun w_ S_ => OK.ldCell 127 3 (p12.add 0) (.int .i64 (((m.gZ_l.getD (a_).toNat rw0).gS_l).getD 0 0)) (by kernel_rfl) (by kernel_rfl) (S_.cell hc12)) rfl ?_
      refine PL.callF 120 13 #[.agg #[.slice m.gX_a m.gX_n m.gX_c, .slice m.gY_a m.gY_n m.gY_c, .slice m.gZ_a m.gZ_n m.gZ_c], .int .i64 (m.gX_l.getD (a_).toNat 0), .int .i64 ((m.gY_l.getD 0 0) - f)] hb13 (by kernel_rfl) (At_any m (m.gX_l.getD (a_).toNat 0) ((m.gY_l.getD 0 0) - f) _ (mpQ_sep hm S10)) ?_
      rintro _ w11 ⟨rfl, T7⟩
      have S11 : Sep w [box b1 [.slice m.gX_a m.gX_n m.gX_c, .slice m.gY_a m.gY_n m.gY_c, .slice m.gZ_a m.gZ_n m.gZ_c] 25] w11 := S10.trans T7
      clear T7 S10
      refine PB.mk (S11.sub (.cons_cons _ (.slnil))) ?_
      refine PL.take 70 128 (.bool ((atF m (m.gX_l.getD (a_).toNat 0) ((m.gY_l.getD 0 0) - f)) == (((m.gZ_l.getD (a_).toNat rw0).gS_l).getD 0 0))) (fun _ _ => by kernel_rfl) ?_
      refine PL.head (.bool true) (congrArg Value.bool (beq_iff_eq.2 fk6)) ?_
      refine PL.take 71 129 (.bool true) (fun _ _ => by kernel_rfl) ?_
      refine PL.take 72 130 (.bool true) (fun _ _ => by kernel_rfl) ?_
      refine PL.takeOK 73 (fun w_ S_ => OK.ldBox S_ 0 131 25 0 (.agg #[.slice m.gX_a m.gX_n m.gX_c, .slice m.gY_a m.gY_n m.gY_c, .slice m.gZ_a m.gZ_n m.gZ_c]) (by kernel_rfl) rfl (by kernel_rfl)) rfl ?_
      refine PL.take 74 132 (.int .i64 (m.gX_l.getD (a_).toNat 0)) (fun _ _ => by kernel_rfl) ?_
      refine PL.take 75 133 (.pointer (some ⟨b1, 1, none⟩)) (fun _ _ => by kernel_rfl) ?_
      refine PL.takeOK 76 (fun w_ S_ => OK.ldBox S_ 0 134 22 1 (.slice m.gY_a m.gY_n m.gY_c) (by kernel_rfl) rfl (by kernel_rfl)) rfl ?_
      refine PL.take 77 135 (.int .i64 ((m.gY_n : Int) - 1)) (fun _ _ => by kernel_rfl) ?_
      refine PL.takeOK 78 (fun w_ S_ => OK.index 136 22 1 m.gY_a p13 m.gY_n ((m.gY_n : Int) - 1).toNat ((m.gY_n : Int) - 1) (p13.add ((m.gY_n : Int) - 1).toNat) (by kernel_rfl) (by kernel_rfl) hp13 (by omega) (by omega) (by rw [Nat.mul_one])) rfl ?_
      refine PL.takeOK 79 (fun w_ S_ => OK.ldCell 137 3 (p13.add ((m.gY_n : Int) - 1).toNat) (.int .i64 (m.gY_l.getD ((m.gY_n : Int) - 1).toNat 0)) (by kernel_rfl) (by kernel_rfl) (S_.cell hc13)) rfl ?_
      refine PL.take 80 138 (.int .i64 f) (fun _ _ => by kernel_rfl) ?_
      refine PL.take 81 139 (.int .i64 (IntKind.wrap .i64 ((m.gY_l.getD ((m.gY_n : Int) - 1).toNat 0) + f))) (fun _ _ => by kernel_rfl) ?_
      refine PL.head (.int .i64 ((m.gY_l.getD ((m.gY_n : Int) - 1).toNat 0) + f)) (congrArg (Value.int .i64) (IntWalk.i64_in _ (by omega))) ?_
      refine PL.take 83 141 (.pointer (some ⟨b1, 2, none⟩)) (fun _ _ => by kernel_rfl) ?_
      refine PL.takeOK 84 (fun w_ S_ => OK.ldBox S_ 0 142 23 2 (.slice m.gZ_a m.gZ_n m.gZ_c) (by kernel_rfl) rfl (by kernel_rfl)) rfl ?_
      refine PL.take 85 143 (.int .i64 a_) (fun _ _ => by kernel_rfl) ?_
      refine PL.takeOK 86 (fun w_ S_ => OK.index 144 23 1 m.gZ_a p3 m.gZ_n (a_).toNat a_ (p3.add ((a_).toNat * 1)) (by kernel_rfl) (by kernel_rfl) hp3 (by omega) (by omega) rfl) rfl ?_
      refine PL.takeOK 87 (fun w_ S_ => OK.ldCell 145 22 (p3.add ((a_).toNat * 1)) (.slice ((m.gZ_l.getD (a_).toNat rw0).gS_a) ((m.gZ_l.getD (a_).toNat rw0).gS_n) ((m.gZ_l.getD (a_).toNat rw0).gS_c)) (by kernel_rfl) (by kernel_rfl) (S_.cell (cell_zero (hc3 0 _ rfl)))) rfl ?_
      refine PL.take 88 146 (.int .i64 ((m.gY_n : Int) - 1)) (fun _ _ => by kernel_rfl) ?_
      refine PL.takeOK 89 (fun w_ S_ => OK.index 147 22 1 ((m.gZ_l.getD (a_).toNat rw0).gS_a) p14 ((m.gZ_l.getD (a_).toNat rw0).gS_n) ((m.gY_n : Int) - 1).toNat ((m.gY_n : Int) - 1) (p14.add ((m.gY_n : Int) - 1).toNat) (by kernel_rfl) (by kernel_rfl) hp14 (by omega) (by omega) (by rw [Nat.mul_one])) rfl ?_
      refine PL.takeOK 90 (fun w_ S_ => OK.ldCell 148 3 (p14.add ((m.gY_n : Int) - 1).toNat) (.int .i64 (((m.gZ_l.getD (a_).toNat rw0).gS_l).getD ((m.gY_n : Int) - 1).toNat 0)) (by kernel_rfl) (by kernel_rfl) (S_.cell hc14)) rfl ?_
      refine PL.callF 140 13 #[.agg #[.slice m.gX_a m.gX_n m.gX_c, .slice m.gY_a m.gY_n m.gY_c, .slice m.gZ_a m.gZ_n m.gZ_c], .int .i64 (m.gX_l.getD (a_).toNat 0), .int .i64 ((m.gY_l.getD ((m.gY_n : Int) - 1).toNat 0) + f)] hb13 (by kernel_rfl) (At_any m (m.gX_l.getD (a_).toNat 0) ((m.gY_l.getD ((m.gY_n : Int) - 1).toNat 0) + f) _ (mpQ_sep hm S11)) ?_
      rintro _ w12 ⟨rfl, T8⟩
      have S12 : Sep w [box b1 [.slice m.gX_a m.gX_n m.gX_c, .slice m.gY_a m.gY_n m.gY_c, .slice m.gZ_a m.gZ_n m.gZ_c] 25] w12 := S11.trans T8
      clear T8 S11
      refine PB.mk (S12.sub (.cons_cons _ (.slnil))) ?_
      refine PL.take 91 149 (.bool ((atF m (m.gX_l.getD (a_).toNat 0) ((m.gY_l.getD ((m.gY_n : Int) - 1).toNat 0) + f)) == (((m.gZ_l.getD (a_).toNat rw0).gS_l).getD ((m.gY_n : Int) - 1).toNat 0))) (fun _ _ => by kernel_rfl) ?_
      refine PL.take 92 150 (.bool ((atF m (m.gX_l.getD (a_).toNat 0) ((m.gY_l.getD ((m.gY_n : Int) - 1).toNat 0) + f)) == (((m.gZ_l.getD (a_).toNat rw0).gS_l).getD ((m.gY_n : Int) - 1).toNat 0))) (fun _ _ => by kernel_rfl) ?_
      refine PL.take 93 8 (.bool ((atF m (m.gX_l.getD (a_).toNat 0) ((m.gY_l.getD ((m.gY_n : Int) - 1).toNat 0) + f)) == (((m.gZ_l.getD (a_).toNat rw0).gS_l).getD ((m.gY_n : Int) - 1).toNat 0))) (fun _ _ => by kernel_rfl) ?_
      refine PL.done ?_
      refine J.run 0 (rRest K4_12) [(8, .bool ((atF m (m.gX_l.getD (a_).toNat 0) ((m.gY_l.getD ((m.gY_n : Int) - 1).toNat 0) + f)) == (((m.gZ_l.getD (a_).toNat rw0).gS_l).getD ((m.gY_n : Int) - 1).toNat 0)))] w12 (by kernel_rfl) ?_
      refine J.ret Try.f4 [.bool ((atF m (m.gX_l.getD (a_).toNat 0) ((m.gY_l.getD ((m.gY_n : Int) - 1).toNat 0) + f)) == (((m.gZ_l.getD (a_).toNat rw0).gS_l).getD ((m.gY_n : Int) - 1).toNat 0))] Try.func4 ⟨by kernel_rfl, trivial⟩ ?_
      refine hR _ _ ?_
      have fk7 : (atF m (m.gX_l.getD (a_).toNat 0) ((m.gY_l.getD ((m.gY_n : Int) - 1).toNat 0) + f)) = (((m.gZ_l.getD (a_).toNat rw0).gS_l).getD ((m.gY_n : Int) - 1).toNat 0) := hN5 _ _ (by omega) (by omega)
      exact ⟨congrArg Value.bool (beq_iff_eq.2 fk7), S12.nil⟩
    · skip
      refine J.head (.bool true) (congrArg Value.bool (by rw [fk2]; rfl)) ?_
      refine J.run 5 K4_13 [(8, .bool true)] w4 (by kernel_rfl) ?_
      refine J.ret Try.f4 [.bool true] Try.func4 ⟨by kernel_rfl, trivial⟩ ?_
      refine hR _ _ ?_
      exact ⟨rfl, S4.nil⟩
  · skip
    refine J.head (.bool true) (congrArg Value.bool (by rw [fk1]; rfl)) ?_
    refine J.run 10 K4_14 [(8, .bool true)] w3 (by kernel_rfl) ?_
    refine J.ret Try.f4 [.bool true] Try.func4 ⟨by kernel_rfl, trivial⟩ ?_
    refine hR _ _ ?_
    exact ⟨rfl, S3.nil⟩

end Go.Proofs.Ytempepmfifljmaa
