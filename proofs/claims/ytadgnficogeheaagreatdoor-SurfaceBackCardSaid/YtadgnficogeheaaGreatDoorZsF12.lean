/- Walks of functions of this seat, printed by a program over the engine. Conditions: as each theorem says. -/
import Derived.Test.YtadgnficogeheaaGreatDoorZsF11
namespace Go.Proofs.YtadgnficogeheaaGreatDoor
noncomputable section
open Go.Eng Go.RowKit
set_option linter.unusedSimpArgs false
set_option linter.unusedVariables false
theorem hb12 : HasBody Tryz.prog 12 := fun _ _ => by kernel_rfl
def K12_0 := adv 2 [] (bodyOf Tryz.f12)
def K12_1 := adv 3 [] (popK K12_0)
def K12_2 := adv 1 [] (popK (popK (popK (popK (popK K12_1)))))
def K12_3 := adv 1 [] (popK K12_2)
set_option maxRecDepth 20000 in
set_option maxHeartbeats 20000000 in
theorem example_any  (w : World) : Ret Tryz.prog 12 #[] w (fun v w' => ∃ b1 b2 b3 b4 b5, v = .agg #[.slice (some ⟨b1, 0, none⟩) 2 2, .slice (some ⟨b2, 0, none⟩) 2 2, .slice (some ⟨b5, 0, none⟩) 2 2] ∧ Sep w [box b5 [.slice (some ⟨b3, 0, none⟩) 2 2, .slice (some ⟨b4, 0, none⟩) 2 2] 22, box b4 [.int .i64 20, .int .i64 31] 3, box b3 [.int .i64 0, .int .i64 10] 3, box b2 [.int .i64 0, .int .i64 10] 3, box b1 [.int .i64 0, .int .i64 10] 3] w') := by
 have S0 := Sep.refl w
 refine Ret.named fun R hR => ?_
 refine Ret.of_J (N := 7) [] Tryz.func12 rfl rfl (Nat.le_of_ble_eq_true (by kernel_rfl)) (by kernel_rfl) ?_
 refine J.run 2 K12_0 [] w (by kernel_rfl) ?_
 refine J.new S0 0 [.slice none 0 0, .slice none 0 0, .slice none 0 0] 25 (by kernel_rfl) ?_
 intro b1 w1 S1
 refine J.run 3 K12_1 [(0, .pointer (some ⟨b1, 0, none⟩))] w1 (by kernel_rfl) ?_
 refine J.newSlice S1 1 2 [.int .i64 0, .int .i64 10] 3 (by kernel_rfl) ?_
 intro b2 w2 S2
 refine J.newSlice S2 2 2 [.int .i64 0, .int .i64 10] 3 (by kernel_rfl) ?_
 intro b3 w3 S3
 refine J.newSlice S3 3 2 [.int .i64 0, .int .i64 10] 3 (by kernel_rfl) ?_
 intro b4 w4 S4
 refine J.newSlice S4 4 2 [.int .i64 20, .int .i64 31] 3 (by kernel_rfl) ?_
 intro b5 w5 S5
 refine J.newSlice S5 5 2 [.slice (some ⟨b4, 0, none⟩) 2 2, .slice (some ⟨b5, 0, none⟩) 2 2] 22 (by kernel_rfl) ?_
 intro b6 w6 S6
 refine J.run 1 K12_2 [(6, .agg #[.slice (some ⟨b2, 0, none⟩) 2 2, .slice (some ⟨b3, 0, none⟩) 2 2, .slice (some ⟨b6, 0, none⟩) 2 2]), (0, .pointer (some ⟨b1, 0, none⟩))] w6 (by kernel_rfl) ?_
 refine J.stBox S6 5 25 0 (.agg #[.slice (some ⟨b2, 0, none⟩) 2 2, .slice (some ⟨b3, 0, none⟩) 2 2, .slice (some ⟨b6, 0, none⟩) 2 2]) [.slice (some ⟨b2, 0, none⟩) 2 2, .slice (some ⟨b3, 0, none⟩) 2 2, .slice (some ⟨b6, 0, none⟩) 2 2] [box b6 [.slice (some ⟨b4, 0, none⟩) 2 2, .slice (some ⟨b5, 0, none⟩) 2 2] 22, box b5 [.int .i64 20, .int .i64 31] 3, box b4 [.int .i64 0, .int .i64 10] 3, box b3 [.int .i64 0, .int .i64 10] 3, box b2 [.int .i64 0, .int .i64 10] 3, box b1 [.slice (some ⟨b2, 0, none⟩) 2 2, .slice (some ⟨b3, 0, none⟩) 2 2, .slice (some ⟨b6, 0, none⟩) 2 2] 25] (by kernel_rfl) rfl (by kernel_rfl) (by kernel_rfl) rfl ?_
 intro w7 S7
 refine J.run 1 K12_3 [(0, .pointer (some ⟨b1, 0, none⟩))] w7 (by kernel_rfl) ?_
 refine J.ret Tryz.f12 [.agg #[.slice (some ⟨b2, 0, none⟩) 2 2, .slice (some ⟨b3, 0, none⟩) 2 2, .slice (some ⟨b6, 0, none⟩) 2 2]] Tryz.func12 ⟨⟨⟨b1, 0, none⟩, by kernel_rfl, ldV_run (S7.nth 5 rfl) (by kernel_rfl)⟩, trivial⟩ ?_
 refine hR _ _ ?_
 exact ⟨_, _, _, _, _, rfl, S7.erase 5⟩

theorem hb4 : HasBody Tryz.prog 4 := fun _ _ => by kernel_rfl
def K4_0 := adv 6 [] (bodyOf Tryz.f4)
def K4_1 := adv 2 [] (popK (popK K4_0))
def K4_2 := adv 3 [] (popK (popK K4_1))
set_option maxRecDepth 20000 in
set_option maxHeartbeats 20000000 in
theorem awake_any  (w : World) : Ret Tryz.prog 4 #[] w (fun v w' => v = .bool true ∧ Sep w [] w') := by
 have S0 := Sep.refl w
 refine Ret.named fun R hR => ?_
 refine Ret.of_J (N := 8) [] Tryz.func4 rfl rfl (Nat.le_of_ble_eq_true (by kernel_rfl)) (by kernel_rfl) ?_
 refine J.run 6 K4_0 [] w (by kernel_rfl) ?_
 refine J.callF 1 12 #[] hb12 (by kernel_rfl) (example_any _) ?_
 rintro _ w1 ⟨xb1, xb2, xb3, xb4, xb5, rfl, T1⟩
 have S1 : Sep w [box xb5 [.slice (some ⟨xb3, 0, none⟩) 2 2, .slice (some ⟨xb4, 0, none⟩) 2 2] 22, box xb4 [.int .i64 20, .int .i64 31] 3, box xb3 [.int .i64 0, .int .i64 10] 3, box xb2 [.int .i64 0, .int .i64 10] 3, box xb1 [.int .i64 0, .int .i64 10] 3] w1 := S0.trans T1
 refine J.callF 2 11 #[.agg #[.slice (some ⟨xb1, 0, none⟩) 2 2, .slice (some ⟨xb2, 0, none⟩) 2 2, .slice (some ⟨xb5, 0, none⟩) 2 2], .int .i64 1, .int .i64 5] hb11 (by kernel_rfl) (At_any (⟨some ⟨xb1, 0, none⟩, 2, 2, [0, 10], some ⟨xb2, 0, none⟩, 2, 2, [0, 10], some ⟨xb5, 0, none⟩, 2, 2, [(⟨some ⟨xb3, 0, none⟩, 2, 2, [0, 10]⟩ : Rw), (⟨some ⟨xb4, 0, none⟩, 2, 2, [20, 31]⟩ : Rw)]⟩ : Mp) 1 5 _ (show mpQ _ (⟨some ⟨xb1, 0, none⟩, 2, 2, [0, 10], some ⟨xb2, 0, none⟩, 2, 2, [0, 10], some ⟨xb5, 0, none⟩, 2, 2, [(⟨some ⟨xb3, 0, none⟩, 2, 2, [0, 10]⟩ : Rw), (⟨some ⟨xb4, 0, none⟩, 2, 2, [20, 31]⟩ : Rw)]⟩ : Mp) from ⟨(show (2 : Nat) ≤ 2 ∧ (2 : Nat) ≤ 9223372036854775807 from by decide), ⟨rfl, box_cells (S1.nth 4 rfl)⟩, by exact (show ∀ y ∈ ([0, 10] : List Int), (fun n => (-9223372036854775808) ≤ n ∧ n ≤ 9223372036854775807) y from by decide), (show (2 : Nat) ≤ 2 ∧ (2 : Nat) ≤ 9223372036854775807 from by decide), ⟨rfl, box_cells (S1.nth 3 rfl)⟩, by exact (show ∀ y ∈ ([0, 10] : List Int), (fun n => (-9223372036854775808) ≤ n ∧ n ≤ 9223372036854775807) y from by decide), (show (2 : Nat) ≤ 2 ∧ (2 : Nat) ≤ 9223372036854775807 from by decide), ⟨rfl, fun _ => rfl, by decide, box_cells (S1.nth 0 rfl)⟩, (List.forall_mem_cons.2 ⟨(show rwQ _ (⟨some ⟨xb3, 0, none⟩, 2, 2, [0, 10]⟩ : Rw) from ⟨(show (2 : Nat) ≤ 2 ∧ (2 : Nat) ≤ 9223372036854775807 from by decide), ⟨rfl, box_cells (S1.nth 2 rfl)⟩, by exact (show ∀ y ∈ ([0, 10] : List Int), (fun n => (-9223372036854775808) ≤ n ∧ n ≤ 9223372036854775807) y from by decide), trivial⟩), List.forall_mem_cons.2 ⟨(show rwQ _ (⟨some ⟨xb4, 0, none⟩, 2, 2, [20, 31]⟩ : Rw) from ⟨(show (2 : Nat) ≤ 2 ∧ (2 : Nat) ≤ 9223372036854775807 from by decide), ⟨rfl, box_cells (S1.nth 1 rfl)⟩, by exact (show ∀ y ∈ ([20, 31] : List Int), (fun n => (-9223372036854775808) ≤ n ∧ n ≤ 9223372036854775807) y from by decide), trivial⟩), fun y hy => by cases hy⟩⟩), trivial⟩)) ?_
 rintro _ w2 ⟨rfl, T2⟩
 have S2 : Sep w [box xb5 [.slice (some ⟨xb3, 0, none⟩) 2 2, .slice (some ⟨xb4, 0, none⟩) 2 2] 22, box xb4 [.int .i64 20, .int .i64 31] 3, box xb3 [.int .i64 0, .int .i64 10] 3, box xb2 [.int .i64 0, .int .i64 10] 3, box xb1 [.int .i64 0, .int .i64 10] 3] w2 := S1.trans T2
 clear T2 S1
 refine J.run 2 K4_1 [(4, .bool ((atF (⟨some ⟨xb1, 0, none⟩, 2, 2, [0, 10], some ⟨xb2, 0, none⟩, 2, 2, [0, 10], some ⟨xb5, 0, none⟩, 2, 2, [(⟨some ⟨xb3, 0, none⟩, 2, 2, [0, 10]⟩ : Rw), (⟨some ⟨xb4, 0, none⟩, 2, 2, [20, 31]⟩ : Rw)]⟩ : Mp) 1 5) == 7))] w2 (by kernel_rfl) ?_
 have fk2 : (atF (⟨some ⟨xb1, 0, none⟩, 2, 2, [0, 10], some ⟨xb2, 0, none⟩, 2, 2, [0, 10], some ⟨xb5, 0, none⟩, 2, 2, [(⟨some ⟨xb3, 0, none⟩, 2, 2, [0, 10]⟩ : Rw), (⟨some ⟨xb4, 0, none⟩, 2, 2, [20, 31]⟩ : Rw)]⟩ : Mp) 1 5) = 7 := by kernel_rfl
 refine J.head (.bool true) (congrArg Value.bool (beq_iff_eq.2 fk2)) ?_
 refine J.callF 5 12 #[] hb12 (by kernel_rfl) (example_any _) ?_
 rintro _ w3 ⟨xb6, xb7, xb8, xb9, xb10, rfl, T3⟩
 have S3 : Sep w [box xb10 [.slice (some ⟨xb8, 0, none⟩) 2 2, .slice (some ⟨xb9, 0, none⟩) 2 2] 22, box xb9 [.int .i64 20, .int .i64 31] 3, box xb8 [.int .i64 0, .int .i64 10] 3, box xb7 [.int .i64 0, .int .i64 10] 3, box xb6 [.int .i64 0, .int .i64 10] 3, box xb5 [.slice (some ⟨xb3, 0, none⟩) 2 2, .slice (some ⟨xb4, 0, none⟩) 2 2] 22, box xb4 [.int .i64 20, .int .i64 31] 3, box xb3 [.int .i64 0, .int .i64 10] 3, box xb2 [.int .i64 0, .int .i64 10] 3, box xb1 [.int .i64 0, .int .i64 10] 3] w3 := S2.trans T3
 refine J.callF 6 13 #[.agg #[.slice (some ⟨xb6, 0, none⟩) 2 2, .slice (some ⟨xb7, 0, none⟩) 2 2, .slice (some ⟨xb10, 0, none⟩) 2 2]] hb13 (by kernel_rfl) (rising_any (⟨some ⟨xb6, 0, none⟩, 2, 2, [0, 10], some ⟨xb7, 0, none⟩, 2, 2, [0, 10], some ⟨xb10, 0, none⟩, 2, 2, [(⟨some ⟨xb8, 0, none⟩, 2, 2, [0, 10]⟩ : Rw), (⟨some ⟨xb9, 0, none⟩, 2, 2, [20, 31]⟩ : Rw)]⟩ : Mp) _ (show mpQ _ (⟨some ⟨xb6, 0, none⟩, 2, 2, [0, 10], some ⟨xb7, 0, none⟩, 2, 2, [0, 10], some ⟨xb10, 0, none⟩, 2, 2, [(⟨some ⟨xb8, 0, none⟩, 2, 2, [0, 10]⟩ : Rw), (⟨some ⟨xb9, 0, none⟩, 2, 2, [20, 31]⟩ : Rw)]⟩ : Mp) from ⟨(show (2 : Nat) ≤ 2 ∧ (2 : Nat) ≤ 9223372036854775807 from by decide), ⟨rfl, box_cells (S3.nth 4 rfl)⟩, by exact (show ∀ y ∈ ([0, 10] : List Int), (fun n => (-9223372036854775808) ≤ n ∧ n ≤ 9223372036854775807) y from by decide), (show (2 : Nat) ≤ 2 ∧ (2 : Nat) ≤ 9223372036854775807 from by decide), ⟨rfl, box_cells (S3.nth 3 rfl)⟩, by exact (show ∀ y ∈ ([0, 10] : List Int), (fun n => (-9223372036854775808) ≤ n ∧ n ≤ 9223372036854775807) y from by decide), (show (2 : Nat) ≤ 2 ∧ (2 : Nat) ≤ 9223372036854775807 from by decide), ⟨rfl, fun _ => rfl, by decide, box_cells (S3.nth 0 rfl)⟩, (List.forall_mem_cons.2 ⟨(show rwQ _ (⟨some ⟨xb8, 0, none⟩, 2, 2, [0, 10]⟩ : Rw) from ⟨(show (2 : Nat) ≤ 2 ∧ (2 : Nat) ≤ 9223372036854775807 from by decide), ⟨rfl, box_cells (S3.nth 2 rfl)⟩, by exact (show ∀ y ∈ ([0, 10] : List Int), (fun n => (-9223372036854775808) ≤ n ∧ n ≤ 9223372036854775807) y from by decide), trivial⟩), List.forall_mem_cons.2 ⟨(show rwQ _ (⟨some ⟨xb9, 0, none⟩, 2, 2, [20, 31]⟩ : Rw) from ⟨(show (2 : Nat) ≤ 2 ∧ (2 : Nat) ≤ 9223372036854775807 from by decide), ⟨rfl, box_cells (S3.nth 1 rfl)⟩, by exact (show ∀ y ∈ ([20, 31] : List Int), (fun n => (-9223372036854775808) ≤ n ∧ n ≤ 9223372036854775807) y from by decide), trivial⟩), fun y hy => by cases hy⟩⟩), trivial⟩)) ?_
 rintro _ w4 ⟨rfl, T4⟩
 have S4 : Sep w [box xb10 [.slice (some ⟨xb8, 0, none⟩) 2 2, .slice (some ⟨xb9, 0, none⟩) 2 2] 22, box xb9 [.int .i64 20, .int .i64 31] 3, box xb8 [.int .i64 0, .int .i64 10] 3, box xb7 [.int .i64 0, .int .i64 10] 3, box xb6 [.int .i64 0, .int .i64 10] 3, box xb5 [.slice (some ⟨xb3, 0, none⟩) 2 2, .slice (some ⟨xb4, 0, none⟩) 2 2] 22, box xb4 [.int .i64 20, .int .i64 31] 3, box xb3 [.int .i64 0, .int .i64 10] 3, box xb2 [.int .i64 0, .int .i64 10] 3, box xb1 [.int .i64 0, .int .i64 10] 3] w4 := S3.trans T4
 clear T4 S3
 refine J.run 3 K4_2 [(0, .bool (risesM (⟨some ⟨xb6, 0, none⟩, 2, 2, [0, 10], some ⟨xb7, 0, none⟩, 2, 2, [0, 10], some ⟨xb10, 0, none⟩, 2, 2, [(⟨some ⟨xb8, 0, none⟩, 2, 2, [0, 10]⟩ : Rw), (⟨some ⟨xb9, 0, none⟩, 2, 2, [20, 31]⟩ : Rw)]⟩ : Mp)))] w4 (by kernel_rfl) ?_
 refine J.ret Tryz.f4 [.bool (risesM (⟨some ⟨xb6, 0, none⟩, 2, 2, [0, 10], some ⟨xb7, 0, none⟩, 2, 2, [0, 10], some ⟨xb10, 0, none⟩, 2, 2, [(⟨some ⟨xb8, 0, none⟩, 2, 2, [0, 10]⟩ : Rw), (⟨some ⟨xb9, 0, none⟩, 2, 2, [20, 31]⟩ : Rw)]⟩ : Mp))] Tryz.func4 ⟨by kernel_rfl, trivial⟩ ?_
 refine hR _ _ ?_
 exact ⟨congrArg Value.bool (by kernel_rfl), S4.nil⟩

end
end Go.Proofs.YtadgnficogeheaaGreatDoor

