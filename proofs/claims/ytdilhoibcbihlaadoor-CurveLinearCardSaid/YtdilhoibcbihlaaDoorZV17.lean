/- Walks of functions of this seat, printed by a program over the engine. Conditions: as each theorem says. -/
import Derived.Test.YtdilhoibcbihlaaDoorZV16
namespace Go.Proofs.YtdilhoibcbihlaaDoor
open Go.Eng Go.RowKit
set_option linter.unusedSimpArgs false
set_option linter.unusedVariables false
theorem hb10 : HasBody Tryd.prog 10 := fun _ _ => by kernel_rfl
noncomputable def K10_0 : List Item := adv 6 [] (bodyOf Tryd.f10)
noncomputable def K10_1 : List Item := adv 1 [] (popK (popK K10_0))
noncomputable def K10_2 : List Item := adv 3 [] (popK (popK K10_1))
noncomputable def K10_3 : List Item := adv 1 [] (popK K10_2)
noncomputable def K10_4 : List Item := adv 3 [] (popK K10_3)
noncomputable def K10_5 : List Item := adv 4 [] (popK (popK K10_4))
noncomputable def K10_6 : List Item := adv 1 [] (popK (popK K10_5))
noncomputable def K10_7 : List Item := adv 8 [] (popK K10_6)
noncomputable def K10_8 : List Item := adv 2 [] (popK (popK K10_7))
noncomputable def K10_9 : List Item := adv 3 [] (popK (popK K10_8))
noncomputable def K10_10 : List Item := adv 4 [] K10_9
noncomputable def K10_11 : List Item := adv 1 [] (popK K10_10)
noncomputable def K10_12 : List Item := adv 2 [] (popK K10_11)
noncomputable def K10_13 : List Item := adv 4 [] K10_12
noncomputable def K10_14 : List Item := adv 4 [] K10_13
noncomputable def K10_15 : List Item := adv 4 [] (popK (popK K10_14))
set_option maxRecDepth 20000 in
set_option maxHeartbeats 20000000 in
theorem awake_any  (w : World) (hW : TabW w) : Ret Tryd.prog 10 #[] w (fun v w' => v = .bool true ∧ Sep w [] w') := by
  have S0 := Sep.refl w
  refine Ret.named fun R hR => ?_
  refine Ret.of_J (N := 52) [] Tryd.func10 rfl rfl (Nat.le_of_ble_eq_true (by kernel_rfl)) (by kernel_rfl) ?_
  refine J.run 6 K10_0 [] w (by kernel_rfl) ?_
  refine J.newSlice S0 6 3 [.int .i64 0, .int .i64 10, .int .i64 20] 3 (by kernel_rfl) ?_
  intro b1 w1 S1
  refine J.newSlice S1 7 3 [.int .i64 0, .int .i64 5, .int .i64 (-5)] 3 (by kernel_rfl) ?_
  intro b2 w2 S2
  refine J.run 1 K10_1 [(8, .agg #[.slice (some ⟨b1, 0, none⟩) 3 3, .slice (some ⟨b2, 0, none⟩) 3 3])] w2 (by kernel_rfl) ?_
  refine J.new S2 1 [.slice none 0 0, .slice none 0 0] 24 (by kernel_rfl) ?_
  intro b3 w3 S3
  refine J.stBox S3 0 24 0 (.agg #[.slice (some ⟨b1, 0, none⟩) 3 3, .slice (some ⟨b2, 0, none⟩) 3 3]) [.slice (some ⟨b1, 0, none⟩) 3 3, .slice (some ⟨b2, 0, none⟩) 3 3] [box b3 [.slice (some ⟨b1, 0, none⟩) 3 3, .slice (some ⟨b2, 0, none⟩) 3 3] 24, box b2 [.int .i64 0, .int .i64 5, .int .i64 (-5)] 3, box b1 [.int .i64 0, .int .i64 10, .int .i64 20] 3] (by kernel_rfl) rfl (by kernel_rfl) (by kernel_rfl) rfl ?_
  intro w4 S4
  refine J.run 3 K10_2 [(1, .pointer (some ⟨b3, 0, none⟩))] w4 (by kernel_rfl) ?_
  refine J.ok (OK.ldBox S4 0 10 24 0 (.agg #[.slice (some ⟨b1, 0, none⟩) 3 3, .slice (some ⟨b2, 0, none⟩) 3 3]) (by kernel_rfl) rfl (by kernel_rfl)) ?_
  refine J.run 1 K10_3 [(11, .agg #[.int .i64 5, .int .i64 15]), (10, .agg #[.slice (some ⟨b1, 0, none⟩) 3 3, .slice (some ⟨b2, 0, none⟩) 3 3]), (1, .pointer (some ⟨b3, 0, none⟩))] w4 (by kernel_rfl) ?_
  refine J.callF 12 14 #[.agg #[.slice (some ⟨b1, 0, none⟩) 3 3, .slice (some ⟨b2, 0, none⟩) 3 3], .agg #[.int .i64 5, .int .i64 15]] hb14 (by kernel_rfl) (cover_any (⟨some ⟨b1, 0, none⟩, 3, 3, [0, 10, 20], some ⟨b2, 0, none⟩, 3, 3, [0, 5, -5]⟩ : Crv) 5 15 _ (show crvQ _ (⟨some ⟨b1, 0, none⟩, 3, 3, [0, 10, 20], some ⟨b2, 0, none⟩, 3, 3, [0, 5, -5]⟩ : Crv) from ⟨(show (3 : Nat) ≤ 3 ∧ (3 : Nat) ≤ 9223372036854775807 from by decide), ⟨rfl, box_cells (S4.nth 2 rfl)⟩, by exact (show ∀ y ∈ ([0, 10, 20] : List Int), (fun n => (-9223372036854775808) ≤ n ∧ n ≤ 9223372036854775807) y from by decide), (show (3 : Nat) ≤ 3 ∧ (3 : Nat) ≤ 9223372036854775807 from by decide), ⟨rfl, box_cells (S4.nth 1 rfl)⟩, by exact (show ∀ y ∈ ([0, 5, -5] : List Int), (fun n => (-9223372036854775808) ≤ n ∧ n ≤ 9223372036854775807) y from by decide), trivial⟩)) ?_
  rintro _ w5 ⟨rfl, T1⟩
  have S5 : Sep w [box b3 [.slice (some ⟨b1, 0, none⟩) 3 3, .slice (some ⟨b2, 0, none⟩) 3 3] 24, box b2 [.int .i64 0, .int .i64 5, .int .i64 (-5)] 3, box b1 [.int .i64 0, .int .i64 10, .int .i64 20] 3] w5 := S4.trans T1
  clear T1 S4
  refine J.run 3 K10_4 [(14, .int .i64 (covE (⟨some ⟨b1, 0, none⟩, 3, 3, [0, 10, 20], some ⟨b2, 0, none⟩, 3, 3, [0, 5, -5]⟩ : Crv) 5 15)), (13, .agg #[.int .i64 (covL (⟨some ⟨b1, 0, none⟩, 3, 3, [0, 10, 20], some ⟨b2, 0, none⟩, 3, 3, [0, 5, -5]⟩ : Crv) 5 15), .int .i64 (covH (⟨some ⟨b1, 0, none⟩, 3, 3, [0, 10, 20], some ⟨b2, 0, none⟩, 3, 3, [0, 5, -5]⟩ : Crv) 5 15)]), (1, .pointer (some ⟨b3, 0, none⟩))] w5 (by kernel_rfl) ?_
  refine J.new S5 2 [.int .i64 0, .int .i64 0] 26 (by kernel_rfl) ?_
  intro b4 w6 S6
  refine J.stBox S6 0 26 0 (.agg #[.int .i64 (covL (⟨some ⟨b1, 0, none⟩, 3, 3, [0, 10, 20], some ⟨b2, 0, none⟩, 3, 3, [0, 5, -5]⟩ : Crv) 5 15), .int .i64 (covH (⟨some ⟨b1, 0, none⟩, 3, 3, [0, 10, 20], some ⟨b2, 0, none⟩, 3, 3, [0, 5, -5]⟩ : Crv) 5 15)]) [.int .i64 (covL (⟨some ⟨b1, 0, none⟩, 3, 3, [0, 10, 20], some ⟨b2, 0, none⟩, 3, 3, [0, 5, -5]⟩ : Crv) 5 15), .int .i64 (covH (⟨some ⟨b1, 0, none⟩, 3, 3, [0, 10, 20], some ⟨b2, 0, none⟩, 3, 3, [0, 5, -5]⟩ : Crv) 5 15)] [box b4 [.int .i64 (covL (⟨some ⟨b1, 0, none⟩, 3, 3, [0, 10, 20], some ⟨b2, 0, none⟩, 3, 3, [0, 5, -5]⟩ : Crv) 5 15), .int .i64 (covH (⟨some ⟨b1, 0, none⟩, 3, 3, [0, 10, 20], some ⟨b2, 0, none⟩, 3, 3, [0, 5, -5]⟩ : Crv) 5 15)] 26, box b3 [.slice (some ⟨b1, 0, none⟩) 3 3, .slice (some ⟨b2, 0, none⟩) 3 3] 24, box b2 [.int .i64 0, .int .i64 5, .int .i64 (-5)] 3, box b1 [.int .i64 0, .int .i64 10, .int .i64 20] 3] (by kernel_rfl) rfl (by kernel_rfl) (by kernel_rfl) rfl ?_
  intro w7 S7
  refine J.run 4 K10_5 [(3, .int .i64 (covE (⟨some ⟨b1, 0, none⟩, 3, 3, [0, 10, 20], some ⟨b2, 0, none⟩, 3, 3, [0, 5, -5]⟩ : Crv) 5 15)), (2, .pointer (some ⟨b4, 0, none⟩)), (1, .pointer (some ⟨b3, 0, none⟩))] w7 (by kernel_rfl) ?_
  refine J.newSlice S7 16 2 [.int .i64 0, .int .i64 10] 3 (by kernel_rfl) ?_
  intro b5 w8 S8
  refine J.newSlice S8 17 2 [.int .i64 0, .int .i64 5] 3 (by kernel_rfl) ?_
  intro b6 w9 S9
  refine J.run 1 K10_6 [(18, .agg #[.slice (some ⟨b5, 0, none⟩) 2 2, .slice (some ⟨b6, 0, none⟩) 2 2]), (3, .int .i64 (covE (⟨some ⟨b1, 0, none⟩, 3, 3, [0, 10, 20], some ⟨b2, 0, none⟩, 3, 3, [0, 5, -5]⟩ : Crv) 5 15)), (2, .pointer (some ⟨b4, 0, none⟩)), (1, .pointer (some ⟨b3, 0, none⟩))] w9 (by kernel_rfl) ?_
  refine J.callF 19 12 #[.agg #[.slice (some ⟨b5, 0, none⟩) 2 2, .slice (some ⟨b6, 0, none⟩) 2 2], .int .i64 3] hb12 (by kernel_rfl) (cinverse_any (⟨some ⟨b5, 0, none⟩, 2, 2, [0, 10], some ⟨b6, 0, none⟩, 2, 2, [0, 5]⟩ : Crv) 3 _ (show crvQ _ (⟨some ⟨b5, 0, none⟩, 2, 2, [0, 10], some ⟨b6, 0, none⟩, 2, 2, [0, 5]⟩ : Crv) from ⟨(show (2 : Nat) ≤ 2 ∧ (2 : Nat) ≤ 9223372036854775807 from by decide), ⟨rfl, box_cells (S9.nth 1 rfl)⟩, by exact (show ∀ y ∈ ([0, 10] : List Int), (fun n => (-9223372036854775808) ≤ n ∧ n ≤ 9223372036854775807) y from by decide), (show (2 : Nat) ≤ 2 ∧ (2 : Nat) ≤ 9223372036854775807 from by decide), ⟨rfl, box_cells (S9.nth 0 rfl)⟩, by exact (show ∀ y ∈ ([0, 5] : List Int), (fun n => (-9223372036854775808) ≤ n ∧ n ≤ 9223372036854775807) y from by decide), trivial⟩)) ?_
  rintro _ w10 ⟨rfl, T2⟩
  have S10 : Sep w [box b6 [.int .i64 0, .int .i64 5] 3, box b5 [.int .i64 0, .int .i64 10] 3, box b4 [.int .i64 (covL (⟨some ⟨b1, 0, none⟩, 3, 3, [0, 10, 20], some ⟨b2, 0, none⟩, 3, 3, [0, 5, -5]⟩ : Crv) 5 15), .int .i64 (covH (⟨some ⟨b1, 0, none⟩, 3, 3, [0, 10, 20], some ⟨b2, 0, none⟩, 3, 3, [0, 5, -5]⟩ : Crv) 5 15)] 26, box b3 [.slice (some ⟨b1, 0, none⟩) 3 3, .slice (some ⟨b2, 0, none⟩) 3 3] 24, box b2 [.int .i64 0, .int .i64 5, .int .i64 (-5)] 3, box b1 [.int .i64 0, .int .i64 10, .int .i64 20] 3] w10 := S9.trans T2
  clear T2 S9
  refine J.run 8 K10_7 [(5, .int .i64 (civE (⟨some ⟨b5, 0, none⟩, 2, 2, [0, 10], some ⟨b6, 0, none⟩, 2, 2, [0, 5]⟩ : Crv) 3)), (4, .int .i64 (civX (⟨some ⟨b5, 0, none⟩, 2, 2, [0, 10], some ⟨b6, 0, none⟩, 2, 2, [0, 5]⟩ : Crv) 3)), (3, .int .i64 (covE (⟨some ⟨b1, 0, none⟩, 3, 3, [0, 10, 20], some ⟨b2, 0, none⟩, 3, 3, [0, 5, -5]⟩ : Crv) 5 15)), (2, .pointer (some ⟨b4, 0, none⟩)), (1, .pointer (some ⟨b3, 0, none⟩))] w10 (by kernel_rfl) ?_
  refine J.ok (OK.ldBox S10 3 22 24 0 (.agg #[.slice (some ⟨b1, 0, none⟩) 3 3, .slice (some ⟨b2, 0, none⟩) 3 3]) (by kernel_rfl) rfl (by kernel_rfl)) ?_
  refine J.callF 23 19 #[.agg #[.slice (some ⟨b1, 0, none⟩) 3 3, .slice (some ⟨b2, 0, none⟩) 3 3], .int .i64 5] hb19 (by kernel_rfl) (cAt_any (⟨some ⟨b1, 0, none⟩, 3, 3, [0, 10, 20], some ⟨b2, 0, none⟩, 3, 3, [0, 5, -5]⟩ : Crv) 5 _ (show crvQ _ (⟨some ⟨b1, 0, none⟩, 3, 3, [0, 10, 20], some ⟨b2, 0, none⟩, 3, 3, [0, 5, -5]⟩ : Crv) from ⟨(show (3 : Nat) ≤ 3 ∧ (3 : Nat) ≤ 9223372036854775807 from by decide), ⟨rfl, box_cells (S10.nth 5 rfl)⟩, by exact (show ∀ y ∈ ([0, 10, 20] : List Int), (fun n => (-9223372036854775808) ≤ n ∧ n ≤ 9223372036854775807) y from by decide), (show (3 : Nat) ≤ 3 ∧ (3 : Nat) ≤ 9223372036854775807 from by decide), ⟨rfl, box_cells (S10.nth 4 rfl)⟩, by exact (show ∀ y ∈ ([0, 5, -5] : List Int), (fun n => (-9223372036854775808) ≤ n ∧ n ≤ 9223372036854775807) y from by decide), trivial⟩)) ?_
  rintro _ w11 ⟨rfl, T3⟩
  have S11 : Sep w [box b6 [.int .i64 0, .int .i64 5] 3, box b5 [.int .i64 0, .int .i64 10] 3, box b4 [.int .i64 (covL (⟨some ⟨b1, 0, none⟩, 3, 3, [0, 10, 20], some ⟨b2, 0, none⟩, 3, 3, [0, 5, -5]⟩ : Crv) 5 15), .int .i64 (covH (⟨some ⟨b1, 0, none⟩, 3, 3, [0, 10, 20], some ⟨b2, 0, none⟩, 3, 3, [0, 5, -5]⟩ : Crv) 5 15)] 26, box b3 [.slice (some ⟨b1, 0, none⟩) 3 3, .slice (some ⟨b2, 0, none⟩) 3 3] 24, box b2 [.int .i64 0, .int .i64 5, .int .i64 (-5)] 3, box b1 [.int .i64 0, .int .i64 10, .int .i64 20] 3] w11 := S10.trans T3
  clear T3 S10
  refine J.run 2 K10_8 [(25, .bool ((atV (⟨some ⟨b1, 0, none⟩, 3, 3, [0, 10, 20], some ⟨b2, 0, none⟩, 3, 3, [0, 5, -5]⟩ : Crv) 5) == 2)), (5, .int .i64 (civE (⟨some ⟨b5, 0, none⟩, 2, 2, [0, 10], some ⟨b6, 0, none⟩, 2, 2, [0, 5]⟩ : Crv) 3)), (4, .int .i64 (civX (⟨some ⟨b5, 0, none⟩, 2, 2, [0, 10], some ⟨b6, 0, none⟩, 2, 2, [0, 5]⟩ : Crv) 3)), (3, .int .i64 (covE (⟨some ⟨b1, 0, none⟩, 3, 3, [0, 10, 20], some ⟨b2, 0, none⟩, 3, 3, [0, 5, -5]⟩ : Crv) 5 15)), (2, .pointer (some ⟨b4, 0, none⟩)), (1, .pointer (some ⟨b3, 0, none⟩))] w11 (by kernel_rfl) ?_
  have fk2 : (atV (⟨some ⟨b1, 0, none⟩, 3, 3, [0, 10, 20], some ⟨b2, 0, none⟩, 3, 3, [0, 5, -5]⟩ : Crv) 5) = 2 := by kernel_rfl
  refine J.head (.bool true) (congrArg Value.bool (beq_iff_eq.2 fk2)) ?_
  refine J.ok (OK.ldBox S11 3 26 24 0 (.agg #[.slice (some ⟨b1, 0, none⟩) 3 3, .slice (some ⟨b2, 0, none⟩) 3 3]) (by kernel_rfl) rfl (by kernel_rfl)) ?_
  refine J.callF 27 19 #[.agg #[.slice (some ⟨b1, 0, none⟩) 3 3, .slice (some ⟨b2, 0, none⟩) 3 3], .int .i64 100] hb19 (by kernel_rfl) (cAt_any (⟨some ⟨b1, 0, none⟩, 3, 3, [0, 10, 20], some ⟨b2, 0, none⟩, 3, 3, [0, 5, -5]⟩ : Crv) 100 _ (show crvQ _ (⟨some ⟨b1, 0, none⟩, 3, 3, [0, 10, 20], some ⟨b2, 0, none⟩, 3, 3, [0, 5, -5]⟩ : Crv) from ⟨(show (3 : Nat) ≤ 3 ∧ (3 : Nat) ≤ 9223372036854775807 from by decide), ⟨rfl, box_cells (S11.nth 5 rfl)⟩, by exact (show ∀ y ∈ ([0, 10, 20] : List Int), (fun n => (-9223372036854775808) ≤ n ∧ n ≤ 9223372036854775807) y from by decide), (show (3 : Nat) ≤ 3 ∧ (3 : Nat) ≤ 9223372036854775807 from by decide), ⟨rfl, box_cells (S11.nth 4 rfl)⟩, by exact (show ∀ y ∈ ([0, 5, -5] : List Int), (fun n => (-9223372036854775808) ≤ n ∧ n ≤ 9223372036854775807) y from by decide), trivial⟩)) ?_
  rintro _ w12 ⟨rfl, T4⟩
  have S12 : Sep w [box b6 [.int .i64 0, .int .i64 5] 3, box b5 [.int .i64 0, .int .i64 10] 3, box b4 [.int .i64 (covL (⟨some ⟨b1, 0, none⟩, 3, 3, [0, 10, 20], some ⟨b2, 0, none⟩, 3, 3, [0, 5, -5]⟩ : Crv) 5 15), .int .i64 (covH (⟨some ⟨b1, 0, none⟩, 3, 3, [0, 10, 20], some ⟨b2, 0, none⟩, 3, 3, [0, 5, -5]⟩ : Crv) 5 15)] 26, box b3 [.slice (some ⟨b1, 0, none⟩) 3 3, .slice (some ⟨b2, 0, none⟩) 3 3] 24, box b2 [.int .i64 0, .int .i64 5, .int .i64 (-5)] 3, box b1 [.int .i64 0, .int .i64 10, .int .i64 20] 3] w12 := S11.trans T4
  clear T4 S11
  refine J.run 3 K10_9 [(30, .bool ((atV (⟨some ⟨b1, 0, none⟩, 3, 3, [0, 10, 20], some ⟨b2, 0, none⟩, 3, 3, [0, 5, -5]⟩ : Crv) 100) == (-5))), (5, .int .i64 (civE (⟨some ⟨b5, 0, none⟩, 2, 2, [0, 10], some ⟨b6, 0, none⟩, 2, 2, [0, 5]⟩ : Crv) 3)), (4, .int .i64 (civX (⟨some ⟨b5, 0, none⟩, 2, 2, [0, 10], some ⟨b6, 0, none⟩, 2, 2, [0, 5]⟩ : Crv) 3)), (3, .int .i64 (covE (⟨some ⟨b1, 0, none⟩, 3, 3, [0, 10, 20], some ⟨b2, 0, none⟩, 3, 3, [0, 5, -5]⟩ : Crv) 5 15)), (2, .pointer (some ⟨b4, 0, none⟩)), (1, .pointer (some ⟨b3, 0, none⟩))] w12 (by kernel_rfl) ?_
  have fk4 : (atV (⟨some ⟨b1, 0, none⟩, 3, 3, [0, 10, 20], some ⟨b2, 0, none⟩, 3, 3, [0, 5, -5]⟩ : Crv) 100) = (-5) := by kernel_rfl
  refine J.head (.bool true) (congrArg Value.bool (beq_iff_eq.2 fk4)) ?_
  refine J.run 4 K10_10 [(34, .bool ((covE (⟨some ⟨b1, 0, none⟩, 3, 3, [0, 10, 20], some ⟨b2, 0, none⟩, 3, 3, [0, 5, -5]⟩ : Crv) 5 15) == 0)), (5, .int .i64 (civE (⟨some ⟨b5, 0, none⟩, 2, 2, [0, 10], some ⟨b6, 0, none⟩, 2, 2, [0, 5]⟩ : Crv) 3)), (4, .int .i64 (civX (⟨some ⟨b5, 0, none⟩, 2, 2, [0, 10], some ⟨b6, 0, none⟩, 2, 2, [0, 5]⟩ : Crv) 3)), (2, .pointer (some ⟨b4, 0, none⟩)), (1, .pointer (some ⟨b3, 0, none⟩))] w12 (by kernel_rfl) ?_
  have fk6 : (covE (⟨some ⟨b1, 0, none⟩, 3, 3, [0, 10, 20], some ⟨b2, 0, none⟩, 3, 3, [0, 5, -5]⟩ : Crv) 5 15) = 0 := by kernel_rfl
  refine J.head (.bool true) (congrArg Value.bool (beq_iff_eq.2 fk6)) ?_
  refine J.ok (OK.ldBox S12 2 35 26 0 (.agg #[.int .i64 (covL (⟨some ⟨b1, 0, none⟩, 3, 3, [0, 10, 20], some ⟨b2, 0, none⟩, 3, 3, [0, 5, -5]⟩ : Crv) 5 15), .int .i64 (covH (⟨some ⟨b1, 0, none⟩, 3, 3, [0, 10, 20], some ⟨b2, 0, none⟩, 3, 3, [0, 5, -5]⟩ : Crv) 5 15)]) (by kernel_rfl) rfl (by kernel_rfl)) ?_
  refine J.run 1 K10_11 [(36, .agg #[.int .i64 0, .int .i64 5]), (35, .agg #[.int .i64 (covL (⟨some ⟨b1, 0, none⟩, 3, 3, [0, 10, 20], some ⟨b2, 0, none⟩, 3, 3, [0, 5, -5]⟩ : Crv) 5 15), .int .i64 (covH (⟨some ⟨b1, 0, none⟩, 3, 3, [0, 10, 20], some ⟨b2, 0, none⟩, 3, 3, [0, 5, -5]⟩ : Crv) 5 15)]), (34, .bool true), (5, .int .i64 (civE (⟨some ⟨b5, 0, none⟩, 2, 2, [0, 10], some ⟨b6, 0, none⟩, 2, 2, [0, 5]⟩ : Crv) 3)), (4, .int .i64 (civX (⟨some ⟨b5, 0, none⟩, 2, 2, [0, 10], some ⟨b6, 0, none⟩, 2, 2, [0, 5]⟩ : Crv) 3)), (1, .pointer (some ⟨b3, 0, none⟩))] w12 (by kernel_rfl) ?_
  refine J.ok (OK.eqS 37 true 26 #[.int .i64 (covL (⟨some ⟨b1, 0, none⟩, 3, 3, [0, 10, 20], some ⟨b2, 0, none⟩, 3, 3, [0, 5, -5]⟩ : Crv) 5 15), .int .i64 (covH (⟨some ⟨b1, 0, none⟩, 3, 3, [0, 10, 20], some ⟨b2, 0, none⟩, 3, 3, [0, 5, -5]⟩ : Crv) 5 15)] #[.int .i64 0, .int .i64 5] (((covL (⟨some ⟨b1, 0, none⟩, 3, 3, [0, 10, 20], some ⟨b2, 0, none⟩, 3, 3, [0, 5, -5]⟩ : Crv) 5 15) == 0) && (((covH (⟨some ⟨b1, 0, none⟩, 3, 3, [0, 10, 20], some ⟨b2, 0, none⟩, 3, 3, [0, 5, -5]⟩ : Crv) 5 15) == 5) && true)) (by kernel_rfl) (by kernel_rfl) (by kernel_rfl) (((covL (⟨some ⟨b1, 0, none⟩, 3, 3, [0, 10, 20], some ⟨b2, 0, none⟩, 3, 3, [0, 5, -5]⟩ : Crv) 5 15) == 0) && ((covH (⟨some ⟨b1, 0, none⟩, 3, 3, [0, 10, 20], some ⟨b2, 0, none⟩, 3, 3, [0, 5, -5]⟩ : Crv) 5 15) == 5)) (by simp)) ?_
  refine J.run 2 K10_12 [(39, .bool (((covL (⟨some ⟨b1, 0, none⟩, 3, 3, [0, 10, 20], some ⟨b2, 0, none⟩, 3, 3, [0, 5, -5]⟩ : Crv) 5 15) == 0) && ((covH (⟨some ⟨b1, 0, none⟩, 3, 3, [0, 10, 20], some ⟨b2, 0, none⟩, 3, 3, [0, 5, -5]⟩ : Crv) 5 15) == 5))), (5, .int .i64 (civE (⟨some ⟨b5, 0, none⟩, 2, 2, [0, 10], some ⟨b6, 0, none⟩, 2, 2, [0, 5]⟩ : Crv) 3)), (4, .int .i64 (civX (⟨some ⟨b5, 0, none⟩, 2, 2, [0, 10], some ⟨b6, 0, none⟩, 2, 2, [0, 5]⟩ : Crv) 3)), (1, .pointer (some ⟨b3, 0, none⟩))] w12 (by kernel_rfl) ?_
  have fk8 : (((covL (⟨some ⟨b1, 0, none⟩, 3, 3, [0, 10, 20], some ⟨b2, 0, none⟩, 3, 3, [0, 5, -5]⟩ : Crv) 5 15) == 0) && ((covH (⟨some ⟨b1, 0, none⟩, 3, 3, [0, 10, 20], some ⟨b2, 0, none⟩, 3, 3, [0, 5, -5]⟩ : Crv) 5 15) == 5)) = true := by kernel_rfl
  refine J.head (.bool true) (congrArg Value.bool fk8) ?_
  refine J.run 4 K10_13 [(43, .bool ((civE (⟨some ⟨b5, 0, none⟩, 2, 2, [0, 10], some ⟨b6, 0, none⟩, 2, 2, [0, 5]⟩ : Crv) 3) == 0)), (4, .int .i64 (civX (⟨some ⟨b5, 0, none⟩, 2, 2, [0, 10], some ⟨b6, 0, none⟩, 2, 2, [0, 5]⟩ : Crv) 3)), (1, .pointer (some ⟨b3, 0, none⟩))] w12 (by kernel_rfl) ?_
  have fk10 : (civE (⟨some ⟨b5, 0, none⟩, 2, 2, [0, 10], some ⟨b6, 0, none⟩, 2, 2, [0, 5]⟩ : Crv) 3) = 0 := by kernel_rfl
  refine J.head (.bool true) (congrArg Value.bool (beq_iff_eq.2 fk10)) ?_
  refine J.run 4 K10_14 [(47, .bool ((civX (⟨some ⟨b5, 0, none⟩, 2, 2, [0, 10], some ⟨b6, 0, none⟩, 2, 2, [0, 5]⟩ : Crv) 3) == 6)), (1, .pointer (some ⟨b3, 0, none⟩))] w12 (by kernel_rfl) ?_
  have fk12 : (civX (⟨some ⟨b5, 0, none⟩, 2, 2, [0, 10], some ⟨b6, 0, none⟩, 2, 2, [0, 5]⟩ : Crv) 3) = 6 := by kernel_rfl
  refine J.head (.bool true) (congrArg Value.bool (beq_iff_eq.2 fk12)) ?_
  refine J.ok (OK.ldBox S12 3 48 24 0 (.agg #[.slice (some ⟨b1, 0, none⟩) 3 3, .slice (some ⟨b2, 0, none⟩) 3 3]) (by kernel_rfl) rfl (by kernel_rfl)) ?_
  refine J.callF 49 32 #[.agg #[.slice (some ⟨b1, 0, none⟩) 3 3, .slice (some ⟨b2, 0, none⟩) 3 3]] hb32 (by kernel_rfl) (ctext_any (⟨some ⟨b1, 0, none⟩, 3, 3, [0, 10, 20], some ⟨b2, 0, none⟩, 3, 3, [0, 5, -5]⟩ : Crv) _ (show crvQ _ (⟨some ⟨b1, 0, none⟩, 3, 3, [0, 10, 20], some ⟨b2, 0, none⟩, 3, 3, [0, 5, -5]⟩ : Crv) from ⟨(show (3 : Nat) ≤ 3 ∧ (3 : Nat) ≤ 9223372036854775807 from by decide), ⟨rfl, box_cells (S12.nth 5 rfl)⟩, by exact (show ∀ y ∈ ([0, 10, 20] : List Int), (fun n => (-9223372036854775808) ≤ n ∧ n ≤ 9223372036854775807) y from by decide), (show (3 : Nat) ≤ 3 ∧ (3 : Nat) ≤ 9223372036854775807 from by decide), ⟨rfl, box_cells (S12.nth 4 rfl)⟩, by exact (show ∀ y ∈ ([0, 5, -5] : List Int), (fun n => (-9223372036854775808) ≤ n ∧ n ≤ 9223372036854775807) y from by decide), trivial⟩) (tabW_sep hW S12)) ?_
  rintro _ w13 ⟨rfl, T5⟩
  have S13 : Sep w [box b6 [.int .i64 0, .int .i64 5] 3, box b5 [.int .i64 0, .int .i64 10] 3, box b4 [.int .i64 (covL (⟨some ⟨b1, 0, none⟩, 3, 3, [0, 10, 20], some ⟨b2, 0, none⟩, 3, 3, [0, 5, -5]⟩ : Crv) 5 15), .int .i64 (covH (⟨some ⟨b1, 0, none⟩, 3, 3, [0, 10, 20], some ⟨b2, 0, none⟩, 3, 3, [0, 5, -5]⟩ : Crv) 5 15)] 26, box b3 [.slice (some ⟨b1, 0, none⟩) 3 3, .slice (some ⟨b2, 0, none⟩) 3 3] 24, box b2 [.int .i64 0, .int .i64 5, .int .i64 (-5)] 3, box b1 [.int .i64 0, .int .i64 10, .int .i64 20] 3] w13 := S12.trans T5
  clear T5 S12
  refine J.run 4 K10_15 [(0, .bool ((textC (⟨some ⟨b1, 0, none⟩, 3, 3, [0, 10, 20], some ⟨b2, 0, none⟩, 3, 3, [0, 5, -5]⟩ : Crv)).toList == (⟨#[48, 58, 48, 32, 49, 48, 58, 53, 32, 50, 48, 58, 45, 53]⟩ : ByteArray).toList))] w13 (by kernel_rfl) ?_
  refine J.ret Tryd.f10 [.bool ((textC (⟨some ⟨b1, 0, none⟩, 3, 3, [0, 10, 20], some ⟨b2, 0, none⟩, 3, 3, [0, 5, -5]⟩ : Crv)).toList == (⟨#[48, 58, 48, 32, 49, 48, 58, 53, 32, 50, 48, 58, 45, 53]⟩ : ByteArray).toList)] Tryd.func10 ⟨by kernel_rfl, trivial⟩ ?_
  refine hR _ _ ?_
  exact ⟨congrArg Value.bool (by kernel_rfl), S13.nil⟩

end Go.Proofs.YtdilhoibcbihlaaDoor

