/- Walks of functions of this seat, printed by a program over the engine. Conditions: as each theorem says. -/
import Derived.Test.YtempepmfifljmaaF11
namespace Go.Proofs.Ytempepmfifljmaa
open Go.Eng Go.RowKit
set_option linter.unusedSimpArgs false
set_option linter.unusedVariables false
theorem hb32 : HasBody Try.prog 32 := fun _ _ => by kernel_rfl
noncomputable def K32_0 : List Item := adv 2 [] (bodyOf Try.f32)
noncomputable def K32_1 : List Item := adv 3 [] (popK K32_0)
noncomputable def K32_2 : List Item := adv 1 [] (popK (popK (popK (popK (popK K32_1)))))
noncomputable def K32_3 : List Item := adv 1 [] (popK K32_2)
set_option maxRecDepth 20000 in
set_option maxHeartbeats 20000000 in
theorem example_any  (w : World) : Ret Try.prog 32 #[] w (fun v w' => ∃ b1 b2 b3 b4 b5, v = .agg #[.slice (some ⟨b1, 0, none⟩) 2 2, .slice (some ⟨b2, 0, none⟩) 2 2, .slice (some ⟨b5, 0, none⟩) 2 2] ∧ Sep w [box b5 [.slice (some ⟨b3, 0, none⟩) 2 2, .slice (some ⟨b4, 0, none⟩) 2 2] 22, box b4 [.int .i64 20, .int .i64 31] 3, box b3 [.int .i64 0, .int .i64 10] 3, box b2 [.int .i64 0, .int .i64 10] 3, box b1 [.int .i64 0, .int .i64 10] 3] w') := by
  have S0 := Sep.refl w
  refine Ret.named fun R hR => ?_
  refine Ret.of_J (N := 7) [] Try.func32 rfl rfl (Nat.le_of_ble_eq_true (by kernel_rfl)) (by kernel_rfl) ?_
  refine J.run 2 K32_0 [] w (by kernel_rfl) ?_
  refine J.new S0 0 [.slice none 0 0, .slice none 0 0, .slice none 0 0] 25 (by kernel_rfl) ?_
  intro b1 w1 S1
  refine J.run 3 K32_1 [(0, .pointer (some ⟨b1, 0, none⟩))] w1 (by kernel_rfl) ?_
  refine J.newSlice S1 1 2 [.int .i64 0, .int .i64 10] 3 (by kernel_rfl) ?_
  intro b2 w2 S2
  refine J.newSlice S2 2 2 [.int .i64 0, .int .i64 10] 3 (by kernel_rfl) ?_
  intro b3 w3 S3
  refine J.newSlice S3 3 2 [.int .i64 0, .int .i64 10] 3 (by kernel_rfl) ?_
  intro b4 w4 S4
  refine J.newSlice S4 4 2 [.int .i64 20, .int .i64 31] 3 (by kernel_rfl) ?_
  intro b5 w5 S5
  refine J.newSlice S5 5 2 [.slice (some ⟨b4, 0, none⟩) 2 2, .slice (some ⟨b5, 0, none⟩) 2 2] 22 (by kernel_rfl) ?_
  intro b6 w6 S6
  refine J.run 1 K32_2 [(6, .agg #[.slice (some ⟨b2, 0, none⟩) 2 2, .slice (some ⟨b3, 0, none⟩) 2 2, .slice (some ⟨b6, 0, none⟩) 2 2]), (0, .pointer (some ⟨b1, 0, none⟩))] w6 (by kernel_rfl) ?_
  refine J.stBox S6 5 25 0 (.agg #[.slice (some ⟨b2, 0, none⟩) 2 2, .slice (some ⟨b3, 0, none⟩) 2 2, .slice (some ⟨b6, 0, none⟩) 2 2]) [.slice (some ⟨b2, 0, none⟩) 2 2, .slice (some ⟨b3, 0, none⟩) 2 2, .slice (some ⟨b6, 0, none⟩) 2 2] [box b6 [.slice (some ⟨b4, 0, none⟩) 2 2, .slice (some ⟨b5, 0, none⟩) 2 2] 22, box b5 [.int .i64 20, .int .i64 31] 3, box b4 [.int .i64 0, .int .i64 10] 3, box b3 [.int .i64 0, .int .i64 10] 3, box b2 [.int .i64 0, .int .i64 10] 3, box b1 [.slice (some ⟨b2, 0, none⟩) 2 2, .slice (some ⟨b3, 0, none⟩) 2 2, .slice (some ⟨b6, 0, none⟩) 2 2] 25] (by kernel_rfl) rfl (by kernel_rfl) (by kernel_rfl) rfl ?_
  intro w7 S7
  refine J.run 1 K32_3 [(0, .pointer (some ⟨b1, 0, none⟩))] w7 (by kernel_rfl) ?_
  refine J.ret Try.f32 [.agg #[.slice (some ⟨b2, 0, none⟩) 2 2, .slice (some ⟨b3, 0, none⟩) 2 2, .slice (some ⟨b6, 0, none⟩) 2 2]] Try.func32 ⟨⟨⟨b1, 0, none⟩, by kernel_rfl, ldV_run (S7.nth 5 rfl) (by kernel_rfl)⟩, trivial⟩ ?_
  refine hR _ _ ?_
  exact ⟨_, _, _, _, _, rfl, S7.erase 5⟩

theorem hb11 : HasBody Try.prog 11 := fun _ _ => by kernel_rfl
noncomputable def K11_0 : List Item := adv 6 [] (bodyOf Try.f11)
noncomputable def K11_1 : List Item := adv 2 [] (popK (popK K11_0))
noncomputable def K11_2 : List Item := adv 3 [] (popK (popK K11_1))
set_option maxRecDepth 20000 in
set_option maxHeartbeats 20000000 in
theorem awake_any  (w : World) : Ret Try.prog 11 #[] w (fun v w' => v = .bool true ∧ Sep w [] w') := by
  have S0 := Sep.refl w
  refine Ret.named fun R hR => ?_
  refine Ret.of_J (N := 8) [] Try.func11 rfl rfl (Nat.le_of_ble_eq_true (by kernel_rfl)) (by kernel_rfl) ?_
  refine J.run 6 K11_0 [] w (by kernel_rfl) ?_
  refine J.callF 1 32 #[] hb32 (by kernel_rfl) (example_any _) ?_
  rintro _ w1 ⟨xb1, xb2, xb3, xb4, xb5, rfl, T1⟩
  have S1 : Sep w [box xb5 [.slice (some ⟨xb3, 0, none⟩) 2 2, .slice (some ⟨xb4, 0, none⟩) 2 2] 22, box xb4 [.int .i64 20, .int .i64 31] 3, box xb3 [.int .i64 0, .int .i64 10] 3, box xb2 [.int .i64 0, .int .i64 10] 3, box xb1 [.int .i64 0, .int .i64 10] 3] w1 := S0.trans T1
  refine J.callF 2 13 #[.agg #[.slice (some ⟨xb1, 0, none⟩) 2 2, .slice (some ⟨xb2, 0, none⟩) 2 2, .slice (some ⟨xb5, 0, none⟩) 2 2], .int .i64 1, .int .i64 5] hb13 (by kernel_rfl) (At_any (⟨some ⟨xb1, 0, none⟩, 2, 2, [0, 10], some ⟨xb2, 0, none⟩, 2, 2, [0, 10], some ⟨xb5, 0, none⟩, 2, 2, [(⟨some ⟨xb3, 0, none⟩, 2, 2, [0, 10]⟩ : Rw), (⟨some ⟨xb4, 0, none⟩, 2, 2, [20, 31]⟩ : Rw)]⟩ : Mp) 1 5 _ (show mpQ _ (⟨some ⟨xb1, 0, none⟩, 2, 2, [0, 10], some ⟨xb2, 0, none⟩, 2, 2, [0, 10], some ⟨xb5, 0, none⟩, 2, 2, [(⟨some ⟨xb3, 0, none⟩, 2, 2, [0, 10]⟩ : Rw), (⟨some ⟨xb4, 0, none⟩, 2, 2, [20, 31]⟩ : Rw)]⟩ : Mp) from ⟨(show (2 : Nat) ≤ 2 ∧ (2 : Nat) ≤ 9223372036854775807 from by decide), ⟨rfl, box_cells (S1.nth 4 rfl)⟩, by exact (show ∀ y ∈ ([0, 10] : List Int), (fun n => (-9223372036854775808) ≤ n ∧ n ≤ 9223372036854775807) y from by decide), (show (2 : Nat) ≤ 2 ∧ (2 : Nat) ≤ 9223372036854775807 from by decide), ⟨rfl, box_cells (S1.nth 3 rfl)⟩, by exact (show ∀ y ∈ ([0, 10] : List Int), (fun n => (-9223372036854775808) ≤ n ∧ n ≤ 9223372036854775807) y from by decide), (show (2 : Nat) ≤ 2 ∧ (2 : Nat) ≤ 9223372036854775807 from by decide), ⟨rfl, fun _ => rfl, by decide, box_cells (S1.nth 0 rfl)⟩, (List.forall_mem_cons.2 ⟨(show rwQ _ (⟨some ⟨xb3, 0, none⟩, 2, 2, [0, 10]⟩ : Rw) from ⟨(show (2 : Nat) ≤ 2 ∧ (2 : Nat) ≤ 9223372036854775807 from by decide), ⟨rfl, box_cells (S1.nth 2 rfl)⟩, by exact (show ∀ y ∈ ([0, 10] : List Int), (fun n => (-9223372036854775808) ≤ n ∧ n ≤ 9223372036854775807) y from by decide), trivial⟩), List.forall_mem_cons.2 ⟨(show rwQ _ (⟨some ⟨xb4, 0, none⟩, 2, 2, [20, 31]⟩ : Rw) from ⟨(show (2 : Nat) ≤ 2 ∧ (2 : Nat) ≤ 9223372036854775807 from by decide), ⟨rfl, box_cells (S1.nth 1 rfl)⟩, by exact (show ∀ y ∈ ([20, 31] : List Int), (fun n => (-9223372036854775808) ≤ n ∧ n ≤ 9223372036854775807) y from by decide), trivial⟩), fun y hy => by cases hy⟩⟩), trivial⟩)) ?_
  rintro _ w2 ⟨rfl, T2⟩
  have S2 : Sep w [box xb5 [.slice (some ⟨xb3, 0, none⟩) 2 2, .slice (some ⟨xb4, 0, none⟩) 2 2] 22, box xb4 [.int .i64 20, .int .i64 31] 3, box xb3 [.int .i64 0, .int .i64 10] 3, box xb2 [.int .i64 0, .int .i64 10] 3, box xb1 [.int .i64 0, .int .i64 10] 3] w2 := S1.trans T2
  clear T2 S1
  refine J.run 2 K11_1 [(4, .bool ((atF (⟨some ⟨xb1, 0, none⟩, 2, 2, [0, 10], some ⟨xb2, 0, none⟩, 2, 2, [0, 10], some ⟨xb5, 0, none⟩, 2, 2, [(⟨some ⟨xb3, 0, none⟩, 2, 2, [0, 10]⟩ : Rw), (⟨some ⟨xb4, 0, none⟩, 2, 2, [20, 31]⟩ : Rw)]⟩ : Mp) 1 5) == 7))] w2 (by kernel_rfl) ?_
  have fk2 : (atF (⟨some ⟨xb1, 0, none⟩, 2, 2, [0, 10], some ⟨xb2, 0, none⟩, 2, 2, [0, 10], some ⟨xb5, 0, none⟩, 2, 2, [(⟨some ⟨xb3, 0, none⟩, 2, 2, [0, 10]⟩ : Rw), (⟨some ⟨xb4, 0, none⟩, 2, 2, [20, 31]⟩ : Rw)]⟩ : Mp) 1 5) = 7 := by kernel_rfl
  refine J.head (.bool true) (congrArg Value.bool (beq_iff_eq.2 fk2)) ?_
  refine J.callF 5 32 #[] hb32 (by kernel_rfl) (example_any _) ?_
  rintro _ w3 ⟨xb6, xb7, xb8, xb9, xb10, rfl, T3⟩
  have S3 : Sep w [box xb10 [.slice (some ⟨xb8, 0, none⟩) 2 2, .slice (some ⟨xb9, 0, none⟩) 2 2] 22, box xb9 [.int .i64 20, .int .i64 31] 3, box xb8 [.int .i64 0, .int .i64 10] 3, box xb7 [.int .i64 0, .int .i64 10] 3, box xb6 [.int .i64 0, .int .i64 10] 3, box xb5 [.slice (some ⟨xb3, 0, none⟩) 2 2, .slice (some ⟨xb4, 0, none⟩) 2 2] 22, box xb4 [.int .i64 20, .int .i64 31] 3, box xb3 [.int .i64 0, .int .i64 10] 3, box xb2 [.int .i64 0, .int .i64 10] 3, box xb1 [.int .i64 0, .int .i64 10] 3] w3 := S2.trans T3
  refine J.callF 6 17 #[.agg #[.slice (some ⟨xb6, 0, none⟩) 2 2, .slice (some ⟨xb7, 0, none⟩) 2 2, .slice (some ⟨xb10, 0, none⟩) 2 2]] hb17 (by kernel_rfl) (rising_any (⟨some ⟨xb6, 0, none⟩, 2, 2, [0, 10], some ⟨xb7, 0, none⟩, 2, 2, [0, 10], some ⟨xb10, 0, none⟩, 2, 2, [(⟨some ⟨xb8, 0, none⟩, 2, 2, [0, 10]⟩ : Rw), (⟨some ⟨xb9, 0, none⟩, 2, 2, [20, 31]⟩ : Rw)]⟩ : Mp) _ (show mpQ _ (⟨some ⟨xb6, 0, none⟩, 2, 2, [0, 10], some ⟨xb7, 0, none⟩, 2, 2, [0, 10], some ⟨xb10, 0, none⟩, 2, 2, [(⟨some ⟨xb8, 0, none⟩, 2, 2, [0, 10]⟩ : Rw), (⟨some ⟨xb9, 0, none⟩, 2, 2, [20, 31]⟩ : Rw)]⟩ : Mp) from ⟨(show (2 : Nat) ≤ 2 ∧ (2 : Nat) ≤ 9223372036854775807 from by decide), ⟨rfl, box_cells (S3.nth 4 rfl)⟩, by exact (show ∀ y ∈ ([0, 10] : List Int), (fun n => (-9223372036854775808) ≤ n ∧ n ≤ 9223372036854775807) y from by decide), (show (2 : Nat) ≤ 2 ∧ (2 : Nat) ≤ 9223372036854775807 from by decide), ⟨rfl, box_cells (S3.nth 3 rfl)⟩, by exact (show ∀ y ∈ ([0, 10] : List Int), (fun n => (-9223372036854775808) ≤ n ∧ n ≤ 9223372036854775807) y from by decide), (show (2 : Nat) ≤ 2 ∧ (2 : Nat) ≤ 9223372036854775807 from by decide), ⟨rfl, fun _ => rfl, by decide, box_cells (S3.nth 0 rfl)⟩, (List.forall_mem_cons.2 ⟨(show rwQ _ (⟨some ⟨xb8, 0, none⟩, 2, 2, [0, 10]⟩ : Rw) from ⟨(show (2 : Nat) ≤ 2 ∧ (2 : Nat) ≤ 9223372036854775807 from by decide), ⟨rfl, box_cells (S3.nth 2 rfl)⟩, by exact (show ∀ y ∈ ([0, 10] : List Int), (fun n => (-9223372036854775808) ≤ n ∧ n ≤ 9223372036854775807) y from by decide), trivial⟩), List.forall_mem_cons.2 ⟨(show rwQ _ (⟨some ⟨xb9, 0, none⟩, 2, 2, [20, 31]⟩ : Rw) from ⟨(show (2 : Nat) ≤ 2 ∧ (2 : Nat) ≤ 9223372036854775807 from by decide), ⟨rfl, box_cells (S3.nth 1 rfl)⟩, by exact (show ∀ y ∈ ([20, 31] : List Int), (fun n => (-9223372036854775808) ≤ n ∧ n ≤ 9223372036854775807) y from by decide), trivial⟩), fun y hy => by cases hy⟩⟩), trivial⟩)) ?_
  rintro _ w4 ⟨rfl, T4⟩
  have S4 : Sep w [box xb10 [.slice (some ⟨xb8, 0, none⟩) 2 2, .slice (some ⟨xb9, 0, none⟩) 2 2] 22, box xb9 [.int .i64 20, .int .i64 31] 3, box xb8 [.int .i64 0, .int .i64 10] 3, box xb7 [.int .i64 0, .int .i64 10] 3, box xb6 [.int .i64 0, .int .i64 10] 3, box xb5 [.slice (some ⟨xb3, 0, none⟩) 2 2, .slice (some ⟨xb4, 0, none⟩) 2 2] 22, box xb4 [.int .i64 20, .int .i64 31] 3, box xb3 [.int .i64 0, .int .i64 10] 3, box xb2 [.int .i64 0, .int .i64 10] 3, box xb1 [.int .i64 0, .int .i64 10] 3] w4 := S3.trans T4
  clear T4 S3
  refine J.run 3 K11_2 [(0, .bool (risesM (⟨some ⟨xb6, 0, none⟩, 2, 2, [0, 10], some ⟨xb7, 0, none⟩, 2, 2, [0, 10], some ⟨xb10, 0, none⟩, 2, 2, [(⟨some ⟨xb8, 0, none⟩, 2, 2, [0, 10]⟩ : Rw), (⟨some ⟨xb9, 0, none⟩, 2, 2, [20, 31]⟩ : Rw)]⟩ : Mp)))] w4 (by kernel_rfl) ?_
  refine J.ret Try.f11 [.bool (risesM (⟨some ⟨xb6, 0, none⟩, 2, 2, [0, 10], some ⟨xb7, 0, none⟩, 2, 2, [0, 10], some ⟨xb10, 0, none⟩, 2, 2, [(⟨some ⟨xb8, 0, none⟩, 2, 2, [0, 10]⟩ : Rw), (⟨some ⟨xb9, 0, none⟩, 2, 2, [20, 31]⟩ : Rw)]⟩ : Mp))] Try.func11 ⟨by kernel_rfl, trivial⟩ ?_
  refine hR _ _ ?_
  exact ⟨congrArg Value.bool (by kernel_rfl), S4.nil⟩

theorem hb3 : HasBody Try.prog 3 := fun _ _ => by kernel_rfl
noncomputable def K3_0 : List Item := adv 2 [] (bodyOf Try.f3)
noncomputable def K3_1 : List Item := adv 5 [] (popK K3_0)
noncomputable def K3_2 : List Item := adv 7 [false] (popK K3_1)
noncomputable def K3_3 : List Item := adv 2 [] (popK (popK K3_2))
noncomputable def K3_4 : List Item := adv 3 [false] K3_3
noncomputable def K3_5 : List Item := adv 5 [true] K3_3
set_option maxRecDepth 20000 in
set_option maxHeartbeats 20000000 in
theorem lawvalues_any (m : Mp) (x y : Int) (w : World) (hm : mpQ w m) : Ret Try.prog 3 #[.agg #[.slice m.gX_a m.gX_n m.gX_c, .slice m.gY_a m.gY_n m.gY_c, .slice m.gZ_a m.gZ_n m.gZ_c], .int .i64 x, .int .i64 y] w (fun v w' => v = .bool true ∧ Sep w [] w') := by
  have S0 := Sep.refl w
  refine Ret.named fun R hR => ?_
  refine Ret.of_J (N := 35) [(0, .agg #[.slice m.gX_a m.gX_n m.gX_c, .slice m.gY_a m.gY_n m.gY_c, .slice m.gZ_a m.gZ_n m.gZ_c]), (1, .int .i64 x), (2, .int .i64 y)] Try.func3 rfl rfl (Nat.le_of_ble_eq_true (by kernel_rfl)) (by kernel_rfl) ?_
  obtain ⟨q1, q2, q3, q4, q5, q6, q7, q8, q9, _⟩ := id hm
  have ql1 := q2.len_eq
  have ql2 := q5.len_eq
  have ql3 := q8.len_eq
  refine J.run 2 K3_0 [(0, .agg #[.slice m.gX_a m.gX_n m.gX_c, .slice m.gY_a m.gY_n m.gY_c, .slice m.gZ_a m.gZ_n m.gZ_c]), (1, .int .i64 x), (2, .int .i64 y)] w (by kernel_rfl) ?_
  refine J.new S0 3 [.slice m.gX_a m.gX_n m.gX_c, .slice m.gY_a m.gY_n m.gY_c, .slice m.gZ_a m.gZ_n m.gZ_c] 25 (by kernel_rfl) ?_
  intro b1 w1 S1
  refine J.run 5 K3_1 [(3, .pointer (some ⟨b1, 0, none⟩)), (1, .int .i64 x), (2, .int .i64 y)] w1 (by kernel_rfl) ?_
  refine J.callF 7 11 #[] hb11 (by kernel_rfl) (awake_any  _) ?_
  rintro _ w2 ⟨rfl, T1⟩
  have S2 : Sep w [box b1 [.slice m.gX_a m.gX_n m.gX_c, .slice m.gY_a m.gY_n m.gY_c, .slice m.gZ_a m.gZ_n m.gZ_c] 25] w2 := S1.trans T1
  clear T1 S1
  refine J.run 7 K3_2 [(3, .pointer (some ⟨b1, 0, none⟩)), (1, .int .i64 x), (2, .int .i64 y)] w2 (by kernel_rfl) ?_
  refine J.ok (OK.ldBox S2 0 9 25 0 (.agg #[.slice m.gX_a m.gX_n m.gX_c, .slice m.gY_a m.gY_n m.gY_c, .slice m.gZ_a m.gZ_n m.gZ_c]) (by kernel_rfl) rfl (by kernel_rfl)) ?_
  refine J.callF 10 12 #[.agg #[.slice m.gX_a m.gX_n m.gX_c, .slice m.gY_a m.gY_n m.gY_c, .slice m.gZ_a m.gZ_n m.gZ_c]] hb12 (by kernel_rfl) (few_any m _ (mpQ_sep hm S2)) ?_
  rintro _ w3 ⟨rfl, T2⟩
  have S3 : Sep w [box b1 [.slice m.gX_a m.gX_n m.gX_c, .slice m.gY_a m.gY_n m.gY_c, .slice m.gZ_a m.gZ_n m.gZ_c] 25] w3 := S2.trans T2
  clear T2 S2
  refine J.run 2 K3_3 [(11, .bool (!(fewB m))), (3, .pointer (some ⟨b1, 0, none⟩)), (1, .int .i64 x), (2, .int .i64 y)] w3 (by kernel_rfl) ?_
  rcases Bool.eq_false_or_eq_true (fewB m) with fk1 | fk1
  · skip
    refine J.head (.bool false) (congrArg Value.bool (by rw [fk1]; rfl)) ?_
    refine J.run 3 K3_4 [(3, .pointer (some ⟨b1, 0, none⟩)), (1, .int .i64 x), (2, .int .i64 y)] w3 (by kernel_rfl) ?_
    refine J.drawPlan (fun w_ => Sep w [box b1 [.slice m.gX_a m.gX_n m.gX_c, .slice m.gY_a m.gY_n m.gY_c, .slice m.gZ_a m.gZ_n m.gZ_c] 25] w_) [(0, true), (1, true), (2, true), (4, true), (5, true), (6, true), (3, false), (7, false), (8, true), (9, true), (10, true), (12, true), (11, false), (13, false), (14, true), (15, true), (16, true), (17, true), (19, true), (18, false), (20, false), (21, true), (22, true), (23, true)] S3 Try.mixed (by kernel_rfl) (planOK_of (T := [(0, some 12, 8), (0, some 13, 2), (0, some 14, 4), (7, some 15, 28672), (0, some 16, 8), (0, some 17, 2), (0, some 18, 4), (120, some 19, 458752), (136, some 20, 557056), (384, some 21, 1048576), (512, some 22, 2097160), (1536, some 23, 6291456), (512, some 24, 2097160), (6656, some 25, 18874368), (10752, some 26, 44040192), (16896, some 27, 69206016), (40960, some 28, 134217728), (65536, some 29, 268435464), (196608, some 30, 805306368), (65536, some 31, 268435464), (851968, some 32, 2415919104), (1376256, some 33, 5637144576), (2162688, some 34, 8858370048), (8388607, some 6, 17179869184)]) (by kernel_rfl) (by kernel_rfl)) ?_
    intro w4 S4
    refine PB.mk (S4.sub (.cons_cons _ (.slnil))) ?_
    refine PL.takeOK 0 (fun w_ S_ => OK.ldBox S_ 0 12 25 0 (.agg #[.slice m.gX_a m.gX_n m.gX_c, .slice m.gY_a m.gY_n m.gY_c, .slice m.gZ_a m.gZ_n m.gZ_c]) (by kernel_rfl) rfl (by kernel_rfl)) rfl ?_
    refine PL.take 1 13 (.int .i64 x) (fun _ _ => by kernel_rfl) ?_
    refine PL.take 2 14 (.int .i64 y) (fun _ _ => by kernel_rfl) ?_
    refine PL.takeOK 4 (fun w_ S_ => OK.ldBox S_ 0 16 25 0 (.agg #[.slice m.gX_a m.gX_n m.gX_c, .slice m.gY_a m.gY_n m.gY_c, .slice m.gZ_a m.gZ_n m.gZ_c]) (by kernel_rfl) rfl (by kernel_rfl)) rfl ?_
    refine PL.take 5 17 (.int .i64 x) (fun _ _ => by kernel_rfl) ?_
    refine PL.take 6 18 (.int .i64 y) (fun _ _ => by kernel_rfl) ?_
    refine PL.callF 15 13 #[.agg #[.slice m.gX_a m.gX_n m.gX_c, .slice m.gY_a m.gY_n m.gY_c, .slice m.gZ_a m.gZ_n m.gZ_c], .int .i64 x, .int .i64 y] hb13 (by kernel_rfl) (At_any m x y _ (mpQ_sep hm S4)) ?_
    rintro _ w5 ⟨rfl, T3⟩
    have S5 : Sep w [box b1 [.slice m.gX_a m.gX_n m.gX_c, .slice m.gY_a m.gY_n m.gY_c, .slice m.gZ_a m.gZ_n m.gZ_c] 25] w5 := S4.trans T3
    clear T3 S4
    refine PB.mk (S5.sub (.cons_cons _ (.slnil))) ?_
    refine PL.callF 19 14 #[.agg #[.slice m.gX_a m.gX_n m.gX_c, .slice m.gY_a m.gY_n m.gY_c, .slice m.gZ_a m.gZ_n m.gZ_c], .int .i64 x, .int .i64 y] hb14 (by kernel_rfl) (rAt_any m x y _ (mpQ_sep hm S5)) ?_
    rintro _ w6 ⟨rfl, T4⟩
    have S6 : Sep w [box b1 [.slice m.gX_a m.gX_n m.gX_c, .slice m.gY_a m.gY_n m.gY_c, .slice m.gZ_a m.gZ_n m.gZ_c] 25] w6 := S5.trans T4
    clear T4 S5
    refine PB.mk (S6.sub (.cons_cons _ (.slnil))) ?_
    refine PL.take 8 20 (.bool ((atF m x y) == (atF m x y))) (fun _ _ => by kernel_rfl) ?_
    refine PL.head (.bool true) (congrArg Value.bool (by simp)) ?_
    refine PL.take 9 21 (.bool true) (fun _ _ => by kernel_rfl) ?_
    refine PL.takeOK 10 (fun w_ S_ => OK.ldBox S_ 0 22 25 0 (.agg #[.slice m.gX_a m.gX_n m.gX_c, .slice m.gY_a m.gY_n m.gY_c, .slice m.gZ_a m.gZ_n m.gZ_c]) (by kernel_rfl) rfl (by kernel_rfl)) rfl ?_
    refine PL.takeOK 12 (fun w_ S_ => OK.ldBox S_ 0 24 25 0 (.agg #[.slice m.gX_a m.gX_n m.gX_c, .slice m.gY_a m.gY_n m.gY_c, .slice m.gZ_a m.gZ_n m.gZ_c]) (by kernel_rfl) rfl (by kernel_rfl)) rfl ?_
    refine PL.callF 23 15 #[.agg #[.slice m.gX_a m.gX_n m.gX_c, .slice m.gY_a m.gY_n m.gY_c, .slice m.gZ_a m.gZ_n m.gZ_c]] hb15 (by kernel_rfl) (valid_any m _ (mpQ_sep hm S6)) ?_
    rintro _ w7 ⟨rfl, T5⟩
    have S7 : Sep w [box b1 [.slice m.gX_a m.gX_n m.gX_c, .slice m.gY_a m.gY_n m.gY_c, .slice m.gZ_a m.gZ_n m.gZ_c] 25] w7 := S6.trans T5
    clear T5 S6
    refine PB.mk (S7.sub (.cons_cons _ (.slnil))) ?_
    refine PL.callF 25 16 #[.agg #[.slice m.gX_a m.gX_n m.gX_c, .slice m.gY_a m.gY_n m.gY_c, .slice m.gZ_a m.gZ_n m.gZ_c]] hb16 (by kernel_rfl) (rvalid_any m _ (mpQ_sep hm S7)) ?_
    rintro _ w8 ⟨rfl, T6⟩
    have S8 : Sep w [box b1 [.slice m.gX_a m.gX_n m.gX_c, .slice m.gY_a m.gY_n m.gY_c, .slice m.gZ_a m.gZ_n m.gZ_c] 25] w8 := S7.trans T6
    clear T6 S7
    refine PB.mk (S8.sub (.cons_cons _ (.slnil))) ?_
    refine PL.take 14 26 (.bool ((validM m) == (validM m))) (fun _ _ => by kernel_rfl) ?_
    refine PL.head (.bool true) (congrArg Value.bool (by simp)) ?_
    refine PL.take 15 27 (.bool true) (fun _ _ => by kernel_rfl) ?_
    refine PL.take 16 28 (.bool true) (fun _ _ => by kernel_rfl) ?_
    refine PL.takeOK 17 (fun w_ S_ => OK.ldBox S_ 0 29 25 0 (.agg #[.slice m.gX_a m.gX_n m.gX_c, .slice m.gY_a m.gY_n m.gY_c, .slice m.gZ_a m.gZ_n m.gZ_c]) (by kernel_rfl) rfl (by kernel_rfl)) rfl ?_
    refine PL.takeOK 19 (fun w_ S_ => OK.ldBox S_ 0 31 25 0 (.agg #[.slice m.gX_a m.gX_n m.gX_c, .slice m.gY_a m.gY_n m.gY_c, .slice m.gZ_a m.gZ_n m.gZ_c]) (by kernel_rfl) rfl (by kernel_rfl)) rfl ?_
    refine PL.callF 30 17 #[.agg #[.slice m.gX_a m.gX_n m.gX_c, .slice m.gY_a m.gY_n m.gY_c, .slice m.gZ_a m.gZ_n m.gZ_c]] hb17 (by kernel_rfl) (rising_any m _ (mpQ_sep hm S8)) ?_
    rintro _ w9 ⟨rfl, T7⟩
    have S9 : Sep w [box b1 [.slice m.gX_a m.gX_n m.gX_c, .slice m.gY_a m.gY_n m.gY_c, .slice m.gZ_a m.gZ_n m.gZ_c] 25] w9 := S8.trans T7
    clear T7 S8
    refine PB.mk (S9.sub (.cons_cons _ (.slnil))) ?_
    refine PL.callF 32 18 #[.agg #[.slice m.gX_a m.gX_n m.gX_c, .slice m.gY_a m.gY_n m.gY_c, .slice m.gZ_a m.gZ_n m.gZ_c]] hb18 (by kernel_rfl) (rrising_any m _ (mpQ_sep hm S9)) ?_
    rintro _ w10 ⟨rfl, T8⟩
    have S10 : Sep w [box b1 [.slice m.gX_a m.gX_n m.gX_c, .slice m.gY_a m.gY_n m.gY_c, .slice m.gZ_a m.gZ_n m.gZ_c] 25] w10 := S9.trans T8
    clear T8 S9
    refine PB.mk (S10.sub (.cons_cons _ (.slnil))) ?_
    refine PL.take 21 33 (.bool ((risesM m) == (risesM m))) (fun _ _ => by kernel_rfl) ?_
    refine PL.head (.bool true) (congrArg Value.bool (by simp)) ?_
    refine PL.take 22 34 (.bool true) (fun _ _ => by kernel_rfl) ?_
    refine PL.take 23 6 (.bool true) (fun _ _ => by kernel_rfl) ?_
    refine PL.done ?_
    refine J.run 0 (rRest K3_4) [(6, .bool true)] w10 (by kernel_rfl) ?_
    refine J.ret Try.f3 [.bool true] Try.func3 ⟨by kernel_rfl, trivial⟩ ?_
    refine hR _ _ ?_
    exact ⟨rfl, S10.nil⟩
  · skip
    refine J.head (.bool true) (congrArg Value.bool (by rw [fk1]; rfl)) ?_
    refine J.run 5 K3_5 [(6, .bool true)] w3 (by kernel_rfl) ?_
    refine J.ret Try.f3 [.bool true] Try.func3 ⟨by kernel_rfl, trivial⟩ ?_
    refine hR _ _ ?_
    exact ⟨rfl, S3.nil⟩

end Go.Proofs.Ytempepmfifljmaa
