/- Walks of functions of this seat, printed by a program over the engine. Conditions: as each theorem says. -/
import Derived.Test.YtdilhoibcbihlaaDoorA2
namespace Go.Proofs.YtdilhoibcbihlaaDoor
open Go.Eng Go.RowKit
set_option linter.unusedSimpArgs false
set_option linter.unusedVariables false
theorem mul_max {x y : Int} (hx : 0 ≤ x ∧ x ≤ 18446744073709551615) (hy : 0 ≤ y ∧ y ≤ 18446744073709551615) : 0 ≤ x * y ∧ x * y ≤ 340282366920938463426481119284349108225 := ⟨Int.mul_nonneg hx.1 hy.1, Int.le_trans (Int.mul_le_mul hx.2 hy.2 hy.1 (by omega)) (by decide)⟩
theorem hb67 : HasBody Tryd.prog 67 := fun _ _ => by kernel_rfl
noncomputable def K67_0 : List Item := adv 2 [] (bodyOf Tryd.f67)
noncomputable def K67_1 : List Item := adv 5 [] (popK K67_0)
noncomputable def K67_2 : List Item := adv 2 [] K67_1
noncomputable def K67_3 : List Item := adv 2 [] K67_2
noncomputable def K67_4 : List Item := adv 2 [] K67_3
noncomputable def K67_5 : List Item := adv 10 [] K67_4
noncomputable def K67_6 : List Item := adv 7 [] K67_5
noncomputable def K67_7 : List Item := adv 2 [] K67_6
noncomputable def K67_8 : List Item := adv 1 [] K67_7
noncomputable def K67_9 : List Item := adv 7 [] K67_8
noncomputable def K67_10 : List Item := adv 2 [] K67_9
noncomputable def K67_11 : List Item := adv 1 [] K67_10
noncomputable def K67_12 : List Item := adv 7 [] K67_11
noncomputable def K67_13 : List Item := adv 2 [] K67_12
noncomputable def K67_14 : List Item := adv 1 [] K67_13
noncomputable def K67_15 : List Item := adv 2 [] K67_14
noncomputable def K67_16 : List Item := adv 1 [] K67_15
noncomputable def K67_17 : List Item := adv 2 [] K67_16
noncomputable def K67_18 : List Item := adv 2 [] K67_17
noncomputable def K67_19 : List Item := adv 1 [] K67_18
noncomputable def K67_20 : List Item := adv 1 [] K67_19
noncomputable def K67_21 : List Item := adv 1 [] (popK K67_20)
set_option maxRecDepth 20000 in
set_option maxHeartbeats 20000000 in
theorem times_any (x y : Int) (w : World) (hx : 0 ≤ x ∧ x ≤ 18446744073709551615) (hy : 0 ≤ y ∧ y ≤ 18446744073709551615) : Ret Tryd.prog 67 #[.int .u64 x, .int .u64 y] w (fun v w' => v = .agg #[.int .u64 (x * y / 18446744073709551616), .int .u64 (x * y % 18446744073709551616)] ∧ Sep w [] w') := by
  have S0 := Sep.refl w
  refine Ret.named fun R hR => ?_
  refine Ret.of_J (N := 50) [(0, .int .u64 x), (1, .int .u64 y)] Tryd.func67 rfl rfl (Nat.le_of_ble_eq_true (by kernel_rfl)) (by kernel_rfl) ?_
  obtain ⟨hm1, hm2, hm3, hm4, hm6, hm5⟩ := mul64 hx hy
  refine J.run 2 K67_0 [(0, .int .u64 x), (1, .int .u64 y)] w (by kernel_rfl) ?_
  refine J.new S0 4 [.int .u64 0, .int .u64 0] 89 (by kernel_rfl) ?_
  intro b1 w1 S1
  refine J.run 5 K67_1 [(13, .int .u64 (IntKind.wrap .u64 ((BitVec.ofInt 64 x &&& (BitVec.ofInt 64 (4294967295 : Int))).toNat : Int))), (4, .pointer (some ⟨b1, 0, none⟩)), (0, .int .u64 x), (1, .int .u64 y)] w1 (by kernel_rfl) ?_
  refine J.head (.int .u64 (x % 4294967296)) (congrArg (Value.int .u64) (and_mask_u64 32 _ _ (by rfl) (by decide))) ?_
  refine J.run 2 K67_2 [(15, .int .u64 (Int.fdiv x (2 ^ 32))), (13, .int .u64 (x % 4294967296)), (4, .pointer (some ⟨b1, 0, none⟩)), (1, .int .u64 y)] w1 (by kernel_rfl) ?_
  refine J.head (.int .u64 (x / 4294967296)) (congrArg (Value.int .u64) (shr_lit _ _ (by decide))) ?_
  refine J.run 2 K67_3 [(17, .int .u64 (IntKind.wrap .u64 ((BitVec.ofInt 64 y &&& (BitVec.ofInt 64 (4294967295 : Int))).toNat : Int))), (15, .int .u64 (x / 4294967296)), (13, .int .u64 (x % 4294967296)), (4, .pointer (some ⟨b1, 0, none⟩)), (1, .int .u64 y)] w1 (by kernel_rfl) ?_
  refine J.head (.int .u64 (y % 4294967296)) (congrArg (Value.int .u64) (and_mask_u64 32 _ _ (by rfl) (by decide))) ?_
  refine J.run 2 K67_4 [(19, .int .u64 (Int.fdiv y (2 ^ 32))), (17, .int .u64 (y % 4294967296)), (15, .int .u64 (x / 4294967296)), (13, .int .u64 (x % 4294967296)), (4, .pointer (some ⟨b1, 0, none⟩))] w1 (by kernel_rfl) ?_
  refine J.head (.int .u64 (y / 4294967296)) (congrArg (Value.int .u64) (shr_lit _ _ (by decide))) ?_
  refine J.run 10 K67_5 [(22, .int .u64 (IntKind.wrap .u64 ((x % 4294967296) * (y % 4294967296)))), (8, .int .u64 (y / 4294967296)), (7, .int .u64 (y % 4294967296)), (6, .int .u64 (x / 4294967296)), (5, .int .u64 (x % 4294967296)), (4, .pointer (some ⟨b1, 0, none⟩))] w1 (by kernel_rfl) ?_
  refine J.head (.int .u64 ((x % 4294967296) * (y % 4294967296))) (congrArg (Value.int .u64) (IntWalk.u64_in _ (by omega))) ?_
  refine J.run 7 K67_6 [(25, .int .u64 (IntKind.wrap .u64 ((x / 4294967296) * (y % 4294967296)))), (9, .int .u64 ((x % 4294967296) * (y % 4294967296))), (8, .int .u64 (y / 4294967296)), (6, .int .u64 (x / 4294967296)), (5, .int .u64 (x % 4294967296)), (4, .pointer (some ⟨b1, 0, none⟩))] w1 (by kernel_rfl) ?_
  refine J.head (.int .u64 ((x / 4294967296) * (y % 4294967296))) (congrArg (Value.int .u64) (IntWalk.u64_in _ (by omega))) ?_
  refine J.run 2 K67_7 [(27, .int .u64 (Int.fdiv ((x % 4294967296) * (y % 4294967296)) (2 ^ 32))), (25, .int .u64 ((x / 4294967296) * (y % 4294967296))), (9, .int .u64 ((x % 4294967296) * (y % 4294967296))), (8, .int .u64 (y / 4294967296)), (6, .int .u64 (x / 4294967296)), (5, .int .u64 (x % 4294967296)), (4, .pointer (some ⟨b1, 0, none⟩))] w1 (by kernel_rfl) ?_
  refine J.head (.int .u64 (((x % 4294967296) * (y % 4294967296)) / 4294967296)) (congrArg (Value.int .u64) (shr_lit _ _ (by decide))) ?_
  refine J.run 1 K67_8 [(28, .int .u64 (IntKind.wrap .u64 (((x / 4294967296) * (y % 4294967296)) + (((x % 4294967296) * (y % 4294967296)) / 4294967296)))), (9, .int .u64 ((x % 4294967296) * (y % 4294967296))), (8, .int .u64 (y / 4294967296)), (6, .int .u64 (x / 4294967296)), (5, .int .u64 (x % 4294967296)), (4, .pointer (some ⟨b1, 0, none⟩))] w1 (by kernel_rfl) ?_
  refine J.head (.int .u64 (((x / 4294967296) * (y % 4294967296)) + (((x % 4294967296) * (y % 4294967296)) / 4294967296))) (congrArg (Value.int .u64) (IntWalk.u64_in _ (by omega))) ?_
  refine J.run 7 K67_9 [(31, .int .u64 (IntKind.wrap .u64 ((x % 4294967296) * (y / 4294967296)))), (10, .int .u64 (((x / 4294967296) * (y % 4294967296)) + (((x % 4294967296) * (y % 4294967296)) / 4294967296))), (9, .int .u64 ((x % 4294967296) * (y % 4294967296))), (8, .int .u64 (y / 4294967296)), (6, .int .u64 (x / 4294967296)), (4, .pointer (some ⟨b1, 0, none⟩))] w1 (by kernel_rfl) ?_
  refine J.head (.int .u64 ((x % 4294967296) * (y / 4294967296))) (congrArg (Value.int .u64) (IntWalk.u64_in _ (by omega))) ?_
  refine J.run 2 K67_10 [(33, .int .u64 (IntKind.wrap .u64 ((BitVec.ofInt 64 (((x / 4294967296) * (y % 4294967296)) + (((x % 4294967296) * (y % 4294967296)) / 4294967296)) &&& (BitVec.ofInt 64 (4294967295 : Int))).toNat : Int))), (31, .int .u64 ((x % 4294967296) * (y / 4294967296))), (10, .int .u64 (((x / 4294967296) * (y % 4294967296)) + (((x % 4294967296) * (y % 4294967296)) / 4294967296))), (9, .int .u64 ((x % 4294967296) * (y % 4294967296))), (8, .int .u64 (y / 4294967296)), (6, .int .u64 (x / 4294967296)), (4, .pointer (some ⟨b1, 0, none⟩))] w1 (by kernel_rfl) ?_
  refine J.head (.int .u64 ((((x / 4294967296) * (y % 4294967296)) + (((x % 4294967296) * (y % 4294967296)) / 4294967296)) % 4294967296)) (congrArg (Value.int .u64) (and_mask_u64 32 _ _ (by rfl) (by decide))) ?_
  refine J.run 1 K67_11 [(34, .int .u64 (IntKind.wrap .u64 (((x % 4294967296) * (y / 4294967296)) + ((((x / 4294967296) * (y % 4294967296)) + (((x % 4294967296) * (y % 4294967296)) / 4294967296)) % 4294967296)))), (10, .int .u64 (((x / 4294967296) * (y % 4294967296)) + (((x % 4294967296) * (y % 4294967296)) / 4294967296))), (9, .int .u64 ((x % 4294967296) * (y % 4294967296))), (8, .int .u64 (y / 4294967296)), (6, .int .u64 (x / 4294967296)), (4, .pointer (some ⟨b1, 0, none⟩))] w1 (by kernel_rfl) ?_
  refine J.head (.int .u64 (((x % 4294967296) * (y / 4294967296)) + ((((x / 4294967296) * (y % 4294967296)) + (((x % 4294967296) * (y % 4294967296)) / 4294967296)) % 4294967296))) (congrArg (Value.int .u64) (IntWalk.u64_in _ (by omega))) ?_
  refine J.run 7 K67_12 [(37, .int .u64 (IntKind.wrap .u64 ((x / 4294967296) * (y / 4294967296)))), (11, .int .u64 (((x % 4294967296) * (y / 4294967296)) + ((((x / 4294967296) * (y % 4294967296)) + (((x % 4294967296) * (y % 4294967296)) / 4294967296)) % 4294967296))), (10, .int .u64 (((x / 4294967296) * (y % 4294967296)) + (((x % 4294967296) * (y % 4294967296)) / 4294967296))), (9, .int .u64 ((x % 4294967296) * (y % 4294967296))), (4, .pointer (some ⟨b1, 0, none⟩))] w1 (by kernel_rfl) ?_
  refine J.head (.int .u64 ((x / 4294967296) * (y / 4294967296))) (congrArg (Value.int .u64) (IntWalk.u64_in _ (by omega))) ?_
  refine J.run 2 K67_13 [(39, .int .u64 (Int.fdiv (((x / 4294967296) * (y % 4294967296)) + (((x % 4294967296) * (y % 4294967296)) / 4294967296)) (2 ^ 32))), (37, .int .u64 ((x / 4294967296) * (y / 4294967296))), (11, .int .u64 (((x % 4294967296) * (y / 4294967296)) + ((((x / 4294967296) * (y % 4294967296)) + (((x % 4294967296) * (y % 4294967296)) / 4294967296)) % 4294967296))), (9, .int .u64 ((x % 4294967296) * (y % 4294967296))), (4, .pointer (some ⟨b1, 0, none⟩))] w1 (by kernel_rfl) ?_
  refine J.head (.int .u64 ((((x / 4294967296) * (y % 4294967296)) + (((x % 4294967296) * (y % 4294967296)) / 4294967296)) / 4294967296)) (congrArg (Value.int .u64) (shr_lit _ _ (by decide))) ?_
  refine J.run 1 K67_14 [(40, .int .u64 (IntKind.wrap .u64 (((x / 4294967296) * (y / 4294967296)) + ((((x / 4294967296) * (y % 4294967296)) + (((x % 4294967296) * (y % 4294967296)) / 4294967296)) / 4294967296)))), (11, .int .u64 (((x % 4294967296) * (y / 4294967296)) + ((((x / 4294967296) * (y % 4294967296)) + (((x % 4294967296) * (y % 4294967296)) / 4294967296)) % 4294967296))), (9, .int .u64 ((x % 4294967296) * (y % 4294967296))), (4, .pointer (some ⟨b1, 0, none⟩))] w1 (by kernel_rfl) ?_
  refine J.head (.int .u64 (((x / 4294967296) * (y / 4294967296)) + ((((x / 4294967296) * (y % 4294967296)) + (((x % 4294967296) * (y % 4294967296)) / 4294967296)) / 4294967296))) (congrArg (Value.int .u64) (IntWalk.u64_in _ (by omega))) ?_
  refine J.run 2 K67_15 [(42, .int .u64 (Int.fdiv (((x % 4294967296) * (y / 4294967296)) + ((((x / 4294967296) * (y % 4294967296)) + (((x % 4294967296) * (y % 4294967296)) / 4294967296)) % 4294967296)) (2 ^ 32))), (40, .int .u64 (((x / 4294967296) * (y / 4294967296)) + ((((x / 4294967296) * (y % 4294967296)) + (((x % 4294967296) * (y % 4294967296)) / 4294967296)) / 4294967296))), (11, .int .u64 (((x % 4294967296) * (y / 4294967296)) + ((((x / 4294967296) * (y % 4294967296)) + (((x % 4294967296) * (y % 4294967296)) / 4294967296)) % 4294967296))), (9, .int .u64 ((x % 4294967296) * (y % 4294967296))), (4, .pointer (some ⟨b1, 0, none⟩))] w1 (by kernel_rfl) ?_
  refine J.head (.int .u64 ((((x % 4294967296) * (y / 4294967296)) + ((((x / 4294967296) * (y % 4294967296)) + (((x % 4294967296) * (y % 4294967296)) / 4294967296)) % 4294967296)) / 4294967296)) (congrArg (Value.int .u64) (shr_lit _ _ (by decide))) ?_
  refine J.run 1 K67_16 [(43, .int .u64 (IntKind.wrap .u64 ((((x / 4294967296) * (y / 4294967296)) + ((((x / 4294967296) * (y % 4294967296)) + (((x % 4294967296) * (y % 4294967296)) / 4294967296)) / 4294967296)) + ((((x % 4294967296) * (y / 4294967296)) + ((((x / 4294967296) * (y % 4294967296)) + (((x % 4294967296) * (y % 4294967296)) / 4294967296)) % 4294967296)) / 4294967296)))), (11, .int .u64 (((x % 4294967296) * (y / 4294967296)) + ((((x / 4294967296) * (y % 4294967296)) + (((x % 4294967296) * (y % 4294967296)) / 4294967296)) % 4294967296))), (9, .int .u64 ((x % 4294967296) * (y % 4294967296))), (4, .pointer (some ⟨b1, 0, none⟩))] w1 (by kernel_rfl) ?_
  refine J.head (.int .u64 ((((x / 4294967296) * (y / 4294967296)) + ((((x / 4294967296) * (y % 4294967296)) + (((x % 4294967296) * (y % 4294967296)) / 4294967296)) / 4294967296)) + ((((x % 4294967296) * (y / 4294967296)) + ((((x / 4294967296) * (y % 4294967296)) + (((x % 4294967296) * (y % 4294967296)) / 4294967296)) % 4294967296)) / 4294967296))) (congrArg (Value.int .u64) (IntWalk.u64_in _ (by omega))) ?_
  refine J.run 2 K67_17 [(45, .int .u64 (IntKind.wrap .u64 ((((x % 4294967296) * (y / 4294967296)) + ((((x / 4294967296) * (y % 4294967296)) + (((x % 4294967296) * (y % 4294967296)) / 4294967296)) % 4294967296)) * 2 ^ 32))), (43, .int .u64 ((((x / 4294967296) * (y / 4294967296)) + ((((x / 4294967296) * (y % 4294967296)) + (((x % 4294967296) * (y % 4294967296)) / 4294967296)) / 4294967296)) + ((((x % 4294967296) * (y / 4294967296)) + ((((x / 4294967296) * (y % 4294967296)) + (((x % 4294967296) * (y % 4294967296)) / 4294967296)) % 4294967296)) / 4294967296))), (9, .int .u64 ((x % 4294967296) * (y % 4294967296))), (4, .pointer (some ⟨b1, 0, none⟩))] w1 (by kernel_rfl) ?_
  refine J.head (.int .u64 ((((x % 4294967296) * (y / 4294967296)) + ((((x / 4294967296) * (y % 4294967296)) + (((x % 4294967296) * (y % 4294967296)) / 4294967296)) % 4294967296)) * 2 ^ 32 % 18446744073709551616)) (congrArg (Value.int .u64) (wrap_u64 _)) ?_
  refine J.run 2 K67_18 [(47, .int .u64 (IntKind.wrap .u64 ((BitVec.ofInt 64 ((x % 4294967296) * (y % 4294967296)) &&& (BitVec.ofInt 64 (4294967295 : Int))).toNat : Int))), (45, .int .u64 ((((x % 4294967296) * (y / 4294967296)) + ((((x / 4294967296) * (y % 4294967296)) + (((x % 4294967296) * (y % 4294967296)) / 4294967296)) % 4294967296)) * 2 ^ 32 % 18446744073709551616)), (43, .int .u64 ((((x / 4294967296) * (y / 4294967296)) + ((((x / 4294967296) * (y % 4294967296)) + (((x % 4294967296) * (y % 4294967296)) / 4294967296)) / 4294967296)) + ((((x % 4294967296) * (y / 4294967296)) + ((((x / 4294967296) * (y % 4294967296)) + (((x % 4294967296) * (y % 4294967296)) / 4294967296)) % 4294967296)) / 4294967296))), (4, .pointer (some ⟨b1, 0, none⟩))] w1 (by kernel_rfl) ?_
  refine J.head (.int .u64 (((x % 4294967296) * (y % 4294967296)) % 4294967296)) (congrArg (Value.int .u64) (and_mask_u64 32 _ _ (by rfl) (by decide))) ?_
  refine J.run 1 K67_19 [(48, .int .u64 (IntKind.wrap .u64 (((((x % 4294967296) * (y / 4294967296)) + ((((x / 4294967296) * (y % 4294967296)) + (((x % 4294967296) * (y % 4294967296)) / 4294967296)) % 4294967296)) * 2 ^ 32 % 18446744073709551616) + (((x % 4294967296) * (y % 4294967296)) % 4294967296)))), (43, .int .u64 ((((x / 4294967296) * (y / 4294967296)) + ((((x / 4294967296) * (y % 4294967296)) + (((x % 4294967296) * (y % 4294967296)) / 4294967296)) / 4294967296)) + ((((x % 4294967296) * (y / 4294967296)) + ((((x / 4294967296) * (y % 4294967296)) + (((x % 4294967296) * (y % 4294967296)) / 4294967296)) % 4294967296)) / 4294967296))), (4, .pointer (some ⟨b1, 0, none⟩))] w1 (by kernel_rfl) ?_
  refine J.head (.int .u64 (((((x % 4294967296) * (y / 4294967296)) + ((((x / 4294967296) * (y % 4294967296)) + (((x % 4294967296) * (y % 4294967296)) / 4294967296)) % 4294967296)) * 2 ^ 32 % 18446744073709551616) + (((x % 4294967296) * (y % 4294967296)) % 4294967296))) (congrArg (Value.int .u64) (IntWalk.u64_in _ (by omega))) ?_
  refine J.run 1 K67_20 [(49, .agg #[.int .u64 ((((x / 4294967296) * (y / 4294967296)) + ((((x / 4294967296) * (y % 4294967296)) + (((x % 4294967296) * (y % 4294967296)) / 4294967296)) / 4294967296)) + ((((x % 4294967296) * (y / 4294967296)) + ((((x / 4294967296) * (y % 4294967296)) + (((x % 4294967296) * (y % 4294967296)) / 4294967296)) % 4294967296)) / 4294967296)), .int .u64 (((((x % 4294967296) * (y / 4294967296)) + ((((x / 4294967296) * (y % 4294967296)) + (((x % 4294967296) * (y % 4294967296)) / 4294967296)) % 4294967296)) * 2 ^ 32 % 18446744073709551616) + (((x % 4294967296) * (y % 4294967296)) % 4294967296))]), (4, .pointer (some ⟨b1, 0, none⟩))] w1 (by kernel_rfl) ?_
  refine J.stBox S1 0 89 0 (.agg #[.int .u64 ((((x / 4294967296) * (y / 4294967296)) + ((((x / 4294967296) * (y % 4294967296)) + (((x % 4294967296) * (y % 4294967296)) / 4294967296)) / 4294967296)) + ((((x % 4294967296) * (y / 4294967296)) + ((((x / 4294967296) * (y % 4294967296)) + (((x % 4294967296) * (y % 4294967296)) / 4294967296)) % 4294967296)) / 4294967296)), .int .u64 (((((x % 4294967296) * (y / 4294967296)) + ((((x / 4294967296) * (y % 4294967296)) + (((x % 4294967296) * (y % 4294967296)) / 4294967296)) % 4294967296)) * 2 ^ 32 % 18446744073709551616) + (((x % 4294967296) * (y % 4294967296)) % 4294967296))]) [.int .u64 ((((x / 4294967296) * (y / 4294967296)) + ((((x / 4294967296) * (y % 4294967296)) + (((x % 4294967296) * (y % 4294967296)) / 4294967296)) / 4294967296)) + ((((x % 4294967296) * (y / 4294967296)) + ((((x / 4294967296) * (y % 4294967296)) + (((x % 4294967296) * (y % 4294967296)) / 4294967296)) % 4294967296)) / 4294967296)), .int .u64 (((((x % 4294967296) * (y / 4294967296)) + ((((x / 4294967296) * (y % 4294967296)) + (((x % 4294967296) * (y % 4294967296)) / 4294967296)) % 4294967296)) * 2 ^ 32 % 18446744073709551616) + (((x % 4294967296) * (y % 4294967296)) % 4294967296))] [box b1 [.int .u64 ((((x / 4294967296) * (y / 4294967296)) + ((((x / 4294967296) * (y % 4294967296)) + (((x % 4294967296) * (y % 4294967296)) / 4294967296)) / 4294967296)) + ((((x % 4294967296) * (y / 4294967296)) + ((((x / 4294967296) * (y % 4294967296)) + (((x % 4294967296) * (y % 4294967296)) / 4294967296)) % 4294967296)) / 4294967296)), .int .u64 (((((x % 4294967296) * (y / 4294967296)) + ((((x / 4294967296) * (y % 4294967296)) + (((x % 4294967296) * (y % 4294967296)) / 4294967296)) % 4294967296)) * 2 ^ 32 % 18446744073709551616) + (((x % 4294967296) * (y % 4294967296)) % 4294967296))] 89] (by kernel_rfl) rfl (by kernel_rfl) (by kernel_rfl) rfl ?_
  intro w2 S2
  refine J.run 1 K67_21 [(4, .pointer (some ⟨b1, 0, none⟩))] w2 (by kernel_rfl) ?_
  refine J.ret Tryd.f67 [.agg #[.int .u64 ((((x / 4294967296) * (y / 4294967296)) + ((((x / 4294967296) * (y % 4294967296)) + (((x % 4294967296) * (y % 4294967296)) / 4294967296)) / 4294967296)) + ((((x % 4294967296) * (y / 4294967296)) + ((((x / 4294967296) * (y % 4294967296)) + (((x % 4294967296) * (y % 4294967296)) / 4294967296)) % 4294967296)) / 4294967296)), .int .u64 (((((x % 4294967296) * (y / 4294967296)) + ((((x / 4294967296) * (y % 4294967296)) + (((x % 4294967296) * (y % 4294967296)) / 4294967296)) % 4294967296)) * 2 ^ 32 % 18446744073709551616) + (((x % 4294967296) * (y % 4294967296)) % 4294967296))]] Tryd.func67 ⟨⟨⟨b1, 0, none⟩, by kernel_rfl, ldV_run (S2.nth 0 rfl) (by kernel_rfl)⟩, trivial⟩ ?_
  refine hR _ _ ?_
  have e1 : (((x / 4294967296) * (y / 4294967296)) + ((((x / 4294967296) * (y % 4294967296)) + (((x % 4294967296) * (y % 4294967296)) / 4294967296)) / 4294967296)) + ((((x % 4294967296) * (y / 4294967296)) + ((((x / 4294967296) * (y % 4294967296)) + (((x % 4294967296) * (y % 4294967296)) / 4294967296)) % 4294967296)) / 4294967296) = x * y / 18446744073709551616 := by omega
  have e2 : ((((x % 4294967296) * (y / 4294967296)) + ((((x / 4294967296) * (y % 4294967296)) + (((x % 4294967296) * (y % 4294967296)) / 4294967296)) % 4294967296)) * 2 ^ 32 % 18446744073709551616) + (((x % 4294967296) * (y % 4294967296)) % 4294967296) = x * y % 18446744073709551616 := by omega
  exact ⟨by rw [tup_one, e1, e2], S2.nil⟩

theorem over_step {H L : Int} {i : Int} (h0 : 0 ≤ i) (h1 : i ≤ 63) (hH : 0 ≤ H) (hL : 0 ≤ L) : (H * 18446744073709551616 + L) / 2 ^ i.toNat = 2 * ((H * 18446744073709551616 + L) / 2 ^ (i + 1).toNat) + L / 2 ^ i.toNat % 2 := by
  rw [show (i + 1).toNat = i.toNat + 1 by omega, Int.pow_succ, ← Int.ediv_ediv_of_nonneg (Int.le_of_lt (Int.pow_pos (by omega)))]
  have hp : (2 : Int) ^ i.toNat * 2 ^ (63 - i.toNat) = 9223372036854775808 := by rw [← Int.pow_add, show i.toNat + (63 - i.toNat) = 63 by omega]; rfl
  have hpos : (0 : Int) < 2 ^ i.toNat := Int.pow_pos (by omega)
  generalize (2 : Int) ^ i.toNat = p at *
  generalize (2 : Int) ^ (63 - i.toNat) = k at *
  have e : (H * 18446744073709551616 + L) / p = H * (2 * k) + L / p := by
    rw [show H * 18446744073709551616 + L = L + p * (H * (2 * k)) by rw [show (18446744073709551616 : Int) = 2 * (p * k) by omega]; grind, Int.add_mul_ediv_left _ _ (by omega)]; omega
  rw [e]
  have e2 : H * (2 * k) = 2 * (H * k) := by grind
  rw [e2]; omega
theorem over_q {H L c q r : Int} {i : Int} (h0 : 0 ≤ i) (hH : 0 ≤ H) (hHc : H < c) (hL : 0 ≤ L ∧ L ≤ 18446744073709551615) (h : (H * 18446744073709551616 + L) / 2 ^ (i + 1).toNat = q * c + r) (hr : 0 ≤ r) : q ≤ 9223372036854775807 := by
  have h1 : (2 : Int) ≤ 2 ^ (i + 1).toNat := by
    have : (2 : Int) ^ 1 ≤ 2 ^ (i + 1).toNat := by exact_mod_cast Nat.pow_le_pow_right (by omega) (show 1 ≤ (i + 1).toNat by omega)
    simpa using this
  have h2 : (q * c + r) * 2 ≤ H * 18446744073709551616 + L := by
    rw [← h]
    have h3 : 0 ≤ (H * 18446744073709551616 + L) / 2 ^ (i + 1).toNat := Int.ediv_nonneg (by omega) (by omega)
    exact Int.le_trans (Int.mul_le_mul_of_nonneg_left h1 h3) (Int.ediv_mul_le _ (by omega))
  have h4 : q * c < 9223372036854775808 * c := by omega
  have := Int.lt_of_mul_lt_mul_right h4 (by omega); omega
theorem dbl0 {q c : Int} (h : 0 ≤ q) (h2 : q ≤ 9223372036854775807) : q * 2 ^ 1 % 18446744073709551616 * c = 2 * (q * c) := by
  rw [show q * 2 ^ 1 % 18446744073709551616 = 2 * q by omega, Int.mul_assoc]
theorem dbl1 {q c : Int} (h : 0 ≤ q) (h2 : q ≤ 9223372036854775807) : (q * 2 ^ 1 % 18446744073709551616 + 1) * c = 2 * (q * c) + c := by
  rw [show q * 2 ^ 1 % 18446744073709551616 = 2 * q by omega, Int.add_mul, Int.mul_assoc, Int.one_mul]
theorem over_start {H L c : Int} (hL : 0 ≤ L ∧ L ≤ 18446744073709551615) : (H * 18446744073709551616 + L) / 2 ^ (63 + 1 : Int).toNat = 0 * c + H := by
  rw [show (63 + 1 : Int).toNat = 64 from rfl, show (2 : Int) ^ 64 = 18446744073709551616 from rfl, Int.zero_mul]; omega
def overV (H L c : Int) : Value := if c ≤ H then .tuple #[.int .u64 0, .int .u64 0, .bool false] else .tuple #[.int .u64 ((H * 18446744073709551616 + L) / c), .int .u64 ((H * 18446744073709551616 + L) % c), .bool true]
theorem hb66 : HasBody Tryd.prog 66 := fun _ _ => by kernel_rfl
noncomputable def K66_0 : List Item := adv 2 [] (bodyOf Tryd.f66)
noncomputable def K66_1 : List Item := adv 8 [] (popK K66_0)
noncomputable def K66_2 : List Item := adv 3 [] (popK K66_1)
noncomputable def K66_3 : List Item := adv 7 [true] K66_2
noncomputable def K66_4 : List Item := adv 5 [false] K66_2
noncomputable def K66_5 : List Item := adv 13 [] (popK K66_4)
noncomputable def K66_6 : List Item := adv 6 [] K66_5
noncomputable def K66_7 : List Item := adv 8 [true] K66_6
noncomputable def K66_8 : List Item := adv 6 [] K66_7
noncomputable def K66_9 : List Item := adv 1 [] K66_8
noncomputable def K66_10 : List Item := adv 2 [] (popK K66_9)
noncomputable def K66_11 : List Item := adv 1 [] (popK K66_10)
noncomputable def K66_12 : List Item := adv 1 [] K66_11
noncomputable def K66_13 : List Item := adv 6 [] K66_12
noncomputable def K66_14 : List Item := adv 7 [] K66_13
noncomputable def K66_15 : List Item := adv 11 [true] K66_14
noncomputable def K66_16 : List Item := adv 5 [] K66_15
noncomputable def K66_17 : List Item := adv 6 [] K66_16
noncomputable def K66_18 : List Item := adv 5 [] K66_14
noncomputable def K66_19 : List Item := adv 6 [true] K66_18
noncomputable def K66_20 : List Item := adv 5 [] K66_19
noncomputable def K66_21 : List Item := adv 6 [] K66_20
noncomputable def K66_22 : List Item := adv 6 [false] K66_18
noncomputable def K66_23 : List Item := adv 10 [false] K66_6
set_option maxRecDepth 20000 in
set_option maxHeartbeats 20000000 in
theorem over_any (H L c : Int) (w : World) (hH : 0 ≤ H ∧ H ≤ 18446744073709551615) (hL : 0 ≤ L ∧ L ≤ 18446744073709551615) (hc : 0 ≤ c ∧ c ≤ 18446744073709551615) : Ret Tryd.prog 66 #[.agg #[.int .u64 H, .int .u64 L], .int .u64 c] w (fun v w' => v = overV H L c ∧ Sep w [] w') := by
  have S0 := Sep.refl w
  refine Ret.named fun R hR => ?_
  refine Ret.of_J (N := 48) [(0, .agg #[.int .u64 H, .int .u64 L]), (1, .int .u64 c)] Tryd.func66 rfl rfl (Nat.le_of_ble_eq_true (by kernel_rfl)) (by kernel_rfl) ?_
  refine J.run 2 K66_0 [(0, .agg #[.int .u64 H, .int .u64 L]), (1, .int .u64 c)] w (by kernel_rfl) ?_
  refine J.new S0 2 [.int .u64 H, .int .u64 L] 89 (by kernel_rfl) ?_
  intro b1 w1 S1
  refine J.run 8 K66_1 [(11, .pointer (some ⟨b1, 0, none⟩)), (2, .pointer (some ⟨b1, 0, none⟩)), (1, .int .u64 c)] w1 (by kernel_rfl) ?_
  refine J.ok (OK.ldBox S1 0 12 80 0 (.int .u64 H) (by kernel_rfl) rfl (by kernel_rfl)) ?_
  refine J.run 3 K66_2 [(14, .bool (decide (H ≥ c))), (2, .pointer (some ⟨b1, 0, none⟩)), (1, .int .u64 c)] w1 (by kernel_rfl) ?_
  by_cases fk1 : H ≥ c
  · skip
    refine J.head (.bool true) (congrArg Value.bool (decide_eq_true fk1)) ?_
    refine J.run 7 K66_3 [(6, .bool false), (5, .int .u64 0), (4, .int .u64 0)] w1 (by kernel_rfl) ?_
    refine J.ret Tryd.f66 [.int .u64 0, .int .u64 0, .bool false] Tryd.func66 ⟨by kernel_rfl, by kernel_rfl, by kernel_rfl, trivial⟩ ?_
    refine hR _ _ ?_
    exact ⟨by rw [overV, if_pos (by omega)]; rfl, S1.nil⟩
  · skip
    refine J.head (.bool false) (congrArg Value.bool (decide_eq_false fk1)) ?_
    refine J.run 5 K66_4 [(15, .pointer (some ⟨b1, 0, none⟩)), (2, .pointer (some ⟨b1, 0, none⟩)), (1, .int .u64 c)] w1 (by kernel_rfl) ?_
    refine J.ok (OK.ldBox S1 0 16 80 0 (.int .u64 H) (by kernel_rfl) rfl (by kernel_rfl)) ?_
    refine J.run 13 K66_5 [(9, .int .i64 63), (8, .int .u64 0), (7, .int .u64 H), (2, .pointer (some ⟨b1, 0, none⟩)), (1, .int .u64 c)] w1 (by kernel_rfl) ?_
    have L66_1 : ∀ (mm_ : Nat) (rest : Int) (q : Int) (i : Int) (w2 : World), (-1 ≤ i ∧ i ≤ 63) → (0 ≤ rest ∧ rest < c) → (0 ≤ q ∧ q ≤ 18446744073709551615) → ((H * 18446744073709551616 + L) / 2 ^ (i + 1).toNat = q * c + rest) → Sep w [box b1 [.int .u64 H, .int .u64 L] 89] w2 → (i + 1).toNat = mm_ → J Tryd.prog 66 48 R K66_5 [(9, .int .i64 i), (8, .int .u64 q), (7, .int .u64 rest), (2, .pointer (some ⟨b1, 0, none⟩)), (1, .int .u64 c)] w2 := by
      intro mm1
      induction mm1 using Nat.strongRecOn with
      | _ mm1 ih1 =>
      intro rest q i w2 h0 hr hq hX S2 hm1
      have hst : 0 ≤ i → (H * 18446744073709551616 + L) / 2 ^ i.toNat = 2 * ((H * 18446744073709551616 + L) / 2 ^ (i + 1).toNat) + L / 2 ^ i.toNat % 2 := fun h => over_step h h0.2 hH.1 hL.1
      have hqb : 0 ≤ i → q ≤ 9223372036854775807 := fun h => over_q h hH.1 (by omega) hL hX hr.1
      refine J.run 6 K66_6 [(18, .bool (decide (i ≥ 0))), (9, .int .i64 i), (8, .int .u64 q), (7, .int .u64 rest), (2, .pointer (some ⟨b1, 0, none⟩)), (1, .int .u64 c)] w2 (by kernel_rfl) ?_
      by_cases fk2 : i ≥ 0
      · skip
        refine J.head (.bool true) (congrArg Value.bool (decide_eq_true fk2)) ?_
        refine J.run 8 K66_7 [(22, .int .u64 (Int.fdiv rest (2 ^ 63))), (9, .int .i64 i), (8, .int .u64 q), (7, .int .u64 rest), (2, .pointer (some ⟨b1, 0, none⟩)), (1, .int .u64 c)] w2 (by kernel_rfl) ?_
        refine J.head (.int .u64 (rest / 9223372036854775808)) (congrArg (Value.int .u64) (shr_lit _ _ (by decide))) ?_
        refine J.run 6 K66_8 [(24, .int .u64 (IntKind.wrap .u64 (rest * 2 ^ 1))), (10, .int .u64 (rest / 9223372036854775808)), (9, .int .i64 i), (8, .int .u64 q), (2, .pointer (some ⟨b1, 0, none⟩)), (1, .int .u64 c)] w2 (by kernel_rfl) ?_
        refine J.head (.int .u64 (rest * 2 ^ 1 % 18446744073709551616)) (congrArg (Value.int .u64) (wrap_u64 _)) ?_
        refine J.run 1 K66_9 [(25, .pointer (some ⟨b1, 1, none⟩)), (24, .int .u64 (rest * 2 ^ 1 % 18446744073709551616)), (10, .int .u64 (rest / 9223372036854775808)), (9, .int .i64 i), (8, .int .u64 q), (2, .pointer (some ⟨b1, 0, none⟩)), (1, .int .u64 c)] w2 (by kernel_rfl) ?_
        refine J.ok (OK.ldBox S2 0 26 80 1 (.int .u64 L) (by kernel_rfl) rfl (by kernel_rfl)) ?_
        refine J.run 2 K66_10 [(28, .int .u64 (IntKind.wrap .u64 i)), (26, .int .u64 L), (24, .int .u64 (rest * 2 ^ 1 % 18446744073709551616)), (10, .int .u64 (rest / 9223372036854775808)), (9, .int .i64 i), (8, .int .u64 q), (2, .pointer (some ⟨b1, 0, none⟩)), (1, .int .u64 c)] w2 (by kernel_rfl) ?_
        refine J.head (.int .u64 i) (congrArg (Value.int .u64) (IntWalk.u64_in _ (by omega))) ?_
        refine J.ok (OK.shr 29 .u64 L i (L / 2 ^ i.toNat) (by kernel_rfl) (by omega) ((shr_s rfl (by omega)))) ?_
        refine J.run 1 K66_11 [(30, .int .u64 (IntKind.wrap .u64 ((BitVec.ofInt 64 (L / 2 ^ i.toNat) &&& (BitVec.ofInt 64 (1 : Int))).toNat : Int))), (24, .int .u64 (rest * 2 ^ 1 % 18446744073709551616)), (10, .int .u64 (rest / 9223372036854775808)), (9, .int .i64 i), (8, .int .u64 q), (2, .pointer (some ⟨b1, 0, none⟩)), (1, .int .u64 c)] w2 (by kernel_rfl) ?_
        refine J.head (.int .u64 ((L / 2 ^ i.toNat) % 2)) (congrArg (Value.int .u64) (and_mask_u64 1 _ _ (by rfl) (by decide))) ?_
        obtain ⟨bt, hbt⟩ : ∃ x : Int, x = (L / 2 ^ i.toNat) % 2 := ⟨_, rfl⟩
        refine J.head (.int .u64 bt) (congrArg (Value.int .u64) hbt.symm) ?_
        refine J.run 1 K66_12 [(31, .int .u64 (IntKind.wrap .u64 ((rest * 2 ^ 1 % 18446744073709551616) + bt))), (10, .int .u64 (rest / 9223372036854775808)), (9, .int .i64 i), (8, .int .u64 q), (2, .pointer (some ⟨b1, 0, none⟩)), (1, .int .u64 c)] w2 (by kernel_rfl) ?_
        refine J.head (.int .u64 ((rest * 2 ^ 1 % 18446744073709551616) + bt)) (congrArg (Value.int .u64) (IntWalk.u64_in _ (by omega))) ?_
        refine J.run 6 K66_13 [(33, .int .u64 (IntKind.wrap .u64 (q * 2 ^ 1))), (7, .int .u64 ((rest * 2 ^ 1 % 18446744073709551616) + bt)), (10, .int .u64 (rest / 9223372036854775808)), (9, .int .i64 i), (2, .pointer (some ⟨b1, 0, none⟩)), (1, .int .u64 c)] w2 (by kernel_rfl) ?_
        refine J.head (.int .u64 (q * 2 ^ 1 % 18446744073709551616)) (congrArg (Value.int .u64) (wrap_u64 _)) ?_
        refine J.run 7 K66_14 [(36, .bool ((rest / 9223372036854775808) == 1)), (8, .int .u64 (q * 2 ^ 1 % 18446744073709551616)), (7, .int .u64 ((rest * 2 ^ 1 % 18446744073709551616) + bt)), (9, .int .i64 i), (2, .pointer (some ⟨b1, 0, none⟩)), (1, .int .u64 c)] w2 (by kernel_rfl) ?_
        by_cases fk3 : (rest / 9223372036854775808) = 1
        · skip
          refine J.head (.bool true) (congrArg Value.bool (beq_iff_eq.2 fk3)) ?_
          refine J.run 11 K66_15 [(43, .int .u64 (IntKind.wrap .u64 (((rest * 2 ^ 1 % 18446744073709551616) + bt) - c))), (8, .int .u64 (q * 2 ^ 1 % 18446744073709551616)), (9, .int .i64 i), (2, .pointer (some ⟨b1, 0, none⟩)), (1, .int .u64 c)] w2 (by kernel_rfl) ?_
          obtain ⟨rn, hrn⟩ : ∃ x : Int, x = IntKind.wrap .u64 (((rest * 2 ^ 1 % 18446744073709551616) + bt) - c) := ⟨_, rfl⟩
          refine J.head (.int .u64 rn) (congrArg (Value.int .u64) hrn.symm) ?_
          have hrn2 : rn = 2 * rest + bt - c := by rw [hrn]; simp only [wrap_u64]; omega
          refine J.run 5 K66_16 [(45, .int .u64 (IntKind.wrap .u64 ((q * 2 ^ 1 % 18446744073709551616) + 1))), (7, .int .u64 rn), (9, .int .i64 i), (2, .pointer (some ⟨b1, 0, none⟩)), (1, .int .u64 c)] w2 (by kernel_rfl) ?_
          refine J.head (.int .u64 ((q * 2 ^ 1 % 18446744073709551616) + 1)) (congrArg (Value.int .u64) (IntWalk.u64_in _ (by omega))) ?_
          refine J.run 6 K66_17 [(20, .int .i64 (IntKind.wrap .i64 (i - 1))), (8, .int .u64 ((q * 2 ^ 1 % 18446744073709551616) + 1)), (7, .int .u64 rn), (2, .pointer (some ⟨b1, 0, none⟩)), (1, .int .u64 c)] w2 (by kernel_rfl) ?_
          refine J.head (.int .i64 (i - 1)) (congrArg (Value.int .i64) (IntWalk.i64_in _ (by omega))) ?_
          refine J.run 3 K66_5 [(9, .int .i64 (i - 1)), (8, .int .u64 ((q * 2 ^ 1 % 18446744073709551616) + 1)), (7, .int .u64 rn), (2, .pointer (some ⟨b1, 0, none⟩)), (1, .int .u64 c)] w2 (by kernel_rfl) ?_
          refine J.run 0 K66_5 [(9, .int .i64 (i - 1)), (8, .int .u64 ((q * 2 ^ 1 % 18446744073709551616) + 1)), (7, .int .u64 rn), (2, .pointer (some ⟨b1, 0, none⟩)), (1, .int .u64 c)] w2 (by kernel_rfl) ?_
          exact ih1 _ (show ((i - 1) + 1).toNat < mm1 from by omega) rn ((q * 2 ^ 1 % 18446744073709551616) + 1) (i - 1) w2 (by omega) (by omega) (by omega) (by rw [show i - 1 + 1 = i by omega, hst (by omega), hX]; have e9 := dbl1 (c := c) hq.1 (hqb (by omega)); omega) S2 rfl
        · skip
          refine J.head (.bool false) (congrArg Value.bool (beq_eq_false_iff_ne.2 fk3)) ?_
          refine J.run 5 K66_18 [(40, .bool (decide (((rest * 2 ^ 1 % 18446744073709551616) + bt) ≥ c))), (8, .int .u64 (q * 2 ^ 1 % 18446744073709551616)), (7, .int .u64 ((rest * 2 ^ 1 % 18446744073709551616) + bt)), (9, .int .i64 i), (2, .pointer (some ⟨b1, 0, none⟩)), (1, .int .u64 c)] w2 (by kernel_rfl) ?_
          by_cases fk4 : ((rest * 2 ^ 1 % 18446744073709551616) + bt) ≥ c
          · skip
            refine J.head (.bool true) (congrArg Value.bool (decide_eq_true fk4)) ?_
            refine J.run 6 K66_19 [(43, .int .u64 (IntKind.wrap .u64 (((rest * 2 ^ 1 % 18446744073709551616) + bt) - c))), (8, .int .u64 (q * 2 ^ 1 % 18446744073709551616)), (9, .int .i64 i), (2, .pointer (some ⟨b1, 0, none⟩)), (1, .int .u64 c)] w2 (by kernel_rfl) ?_
            obtain ⟨rn, hrn⟩ : ∃ x : Int, x = IntKind.wrap .u64 (((rest * 2 ^ 1 % 18446744073709551616) + bt) - c) := ⟨_, rfl⟩
            refine J.head (.int .u64 rn) (congrArg (Value.int .u64) hrn.symm) ?_
            have hrn2 : rn = 2 * rest + bt - c := by rw [hrn]; simp only [wrap_u64]; omega
            refine J.run 5 K66_20 [(45, .int .u64 (IntKind.wrap .u64 ((q * 2 ^ 1 % 18446744073709551616) + 1))), (7, .int .u64 rn), (9, .int .i64 i), (2, .pointer (some ⟨b1, 0, none⟩)), (1, .int .u64 c)] w2 (by kernel_rfl) ?_
            refine J.head (.int .u64 ((q * 2 ^ 1 % 18446744073709551616) + 1)) (congrArg (Value.int .u64) (IntWalk.u64_in _ (by omega))) ?_
            refine J.run 6 K66_21 [(20, .int .i64 (IntKind.wrap .i64 (i - 1))), (8, .int .u64 ((q * 2 ^ 1 % 18446744073709551616) + 1)), (7, .int .u64 rn), (2, .pointer (some ⟨b1, 0, none⟩)), (1, .int .u64 c)] w2 (by kernel_rfl) ?_
            refine J.head (.int .i64 (i - 1)) (congrArg (Value.int .i64) (IntWalk.i64_in _ (by omega))) ?_
            refine J.run 3 K66_5 [(9, .int .i64 (i - 1)), (8, .int .u64 ((q * 2 ^ 1 % 18446744073709551616) + 1)), (7, .int .u64 rn), (2, .pointer (some ⟨b1, 0, none⟩)), (1, .int .u64 c)] w2 (by kernel_rfl) ?_
            refine J.run 0 K66_5 [(9, .int .i64 (i - 1)), (8, .int .u64 ((q * 2 ^ 1 % 18446744073709551616) + 1)), (7, .int .u64 rn), (2, .pointer (some ⟨b1, 0, none⟩)), (1, .int .u64 c)] w2 (by kernel_rfl) ?_
            exact ih1 _ (show ((i - 1) + 1).toNat < mm1 from by omega) rn ((q * 2 ^ 1 % 18446744073709551616) + 1) (i - 1) w2 (by omega) (by omega) (by omega) (by rw [show i - 1 + 1 = i by omega, hst (by omega), hX]; have e9 := dbl1 (c := c) hq.1 (hqb (by omega)); omega) S2 rfl
          · skip
            refine J.head (.bool false) (congrArg Value.bool (decide_eq_false fk4)) ?_
            refine J.run 6 K66_22 [(20, .int .i64 (IntKind.wrap .i64 (i - 1))), (8, .int .u64 (q * 2 ^ 1 % 18446744073709551616)), (7, .int .u64 ((rest * 2 ^ 1 % 18446744073709551616) + bt)), (2, .pointer (some ⟨b1, 0, none⟩)), (1, .int .u64 c)] w2 (by kernel_rfl) ?_
            refine J.head (.int .i64 (i - 1)) (congrArg (Value.int .i64) (IntWalk.i64_in _ (by omega))) ?_
            refine J.run 3 K66_5 [(9, .int .i64 (i - 1)), (8, .int .u64 (q * 2 ^ 1 % 18446744073709551616)), (7, .int .u64 ((rest * 2 ^ 1 % 18446744073709551616) + bt)), (2, .pointer (some ⟨b1, 0, none⟩)), (1, .int .u64 c)] w2 (by kernel_rfl) ?_
            refine J.run 0 K66_5 [(9, .int .i64 (i - 1)), (8, .int .u64 (q * 2 ^ 1 % 18446744073709551616)), (7, .int .u64 ((rest * 2 ^ 1 % 18446744073709551616) + bt)), (2, .pointer (some ⟨b1, 0, none⟩)), (1, .int .u64 c)] w2 (by kernel_rfl) ?_
            exact ih1 _ (show ((i - 1) + 1).toNat < mm1 from by omega) ((rest * 2 ^ 1 % 18446744073709551616) + bt) (q * 2 ^ 1 % 18446744073709551616) (i - 1) w2 (by omega) (by omega) (by omega) (by rw [show i - 1 + 1 = i by omega, hst (by omega), hX]; have e9 := dbl0 (c := c) hq.1 (hqb (by omega)); omega) S2 rfl
      · skip
        refine J.head (.bool false) (congrArg Value.bool (decide_eq_false fk2)) ?_
        refine J.run 10 K66_23 [(6, .bool true), (5, .int .u64 rest), (4, .int .u64 q)] w2 (by kernel_rfl) ?_
        refine J.ret Tryd.f66 [.int .u64 q, .int .u64 rest, .bool true] Tryd.func66 ⟨by kernel_rfl, by kernel_rfl, by kernel_rfl, trivial⟩ ?_
        refine hR _ _ ?_
        have e1 := hX
        rw [show i = -1 by omega] at e1
        simp only [show (-1 + 1 : Int).toNat = 0 from rfl, Int.pow_zero, Int.ediv_one] at e1
        have e2 := ediv_of (x := (H * 18446744073709551616 + L)) (d := c) (k := q) (by omega) (by omega) (by omega)
        have e3 := emod_of (x := (H * 18446744073709551616 + L)) (d := c) (k := q) (by omega) (by omega) (by omega)
        exact ⟨by rw [overV, if_neg (by omega), e2, e3, show (H * 18446744073709551616 + L) - q * c = rest by omega]; rfl, S2.nil⟩
    exact L66_1 _ H 0 63 w1 (by omega) (by omega) (by omega) (over_start hL) S1 rfl

end Go.Proofs.YtdilhoibcbihlaaDoor
