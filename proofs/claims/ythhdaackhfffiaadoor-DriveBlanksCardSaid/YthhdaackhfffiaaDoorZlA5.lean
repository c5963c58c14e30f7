/- Walks of functions of this seat, printed by a program over the engine. Conditions: as each theorem says. -/
import Derived.Test.YthhdaackhfffiaaDoorZlA2
namespace Go.Proofs.YthhdaackhfffiaaDoor
open Go.Eng Go.RowKit
set_option linter.unusedSimpArgs false
set_option linter.unusedVariables false
theorem ediv_bd {x d : Int} (hd : 1 ≤ d) (hx : -9223372036854775808 ≤ x ∧ x ≤ 9223372036854775808) (h : x ≤ 9223372036854775807 ∨ 2 ≤ d) : -9223372036854775808 ≤ x / d ∧ x / d ≤ 9223372036854775807 := by
  have h1 := Int.ediv_mul_le x (show d ≠ 0 by omega)
  have h2 : x < (x / d + 1) * d := Int.lt_ediv_add_one_mul_self x (by omega)
  constructor
  · rcases (show 0 ≤ x / d ∨ x / d ≤ -1 by omega) with h3 | h3
    · omega
    · have := Int.mul_le_mul_of_nonpos_left (a := x / d + 1) (b := d) (c := 1) (by omega) hd
      omega
  · rcases (show x / d ≤ 0 ∨ 1 ≤ x / d by omega) with h3 | h3
    · omega
    · rcases h with h | h
      · have := Int.mul_le_mul_of_nonneg_left hd (show 0 ≤ x / d by omega); omega
      · have := Int.mul_le_mul_of_nonneg_left h (show 0 ≤ x / d by omega); omega
theorem floor_val {a b : Int} (ha : -9223372036854775808 ≤ a ∧ a ≤ 9223372036854775807) (hb : b ≠ 0 ∧ b ≠ -1) : mdX a 1 b 1 = if b < 0 then (-a) / (-b) else a / b := by
  have e : mulDivR a 1 b 1 = if b < 0 then (-a) / (-b) else a / b := by
    unfold mulDivR rndQ; simp
  have hf : fitsB (mulDivR a 1 b 1) = true := by
    rw [e]; unfold fitsB
    split
    · have := ediv_bd (x := -a) (d := -b) (by omega) (by omega) (by omega); simp only [Bool.and_eq_true, decide_eq_true_eq]; exact this
    · have := ediv_bd (x := a) (d := b) (by omega) (by omega) (by omega); simp only [Bool.and_eq_true, decide_eq_true_eq]; exact this
  unfold mdX
  rw [if_neg (by omega), if_neg hb.1, if_pos hf, e]
theorem hb43 : HasBody Tryd.prog 43 := fun _ _ => by kernel_rfl
noncomputable def K43_0 : List Item := adv 10 [] (bodyOf Tryd.f43)
noncomputable def K43_1 : List Item := adv 5 [] (popK K43_0)
set_option maxRecDepth 20000 in
set_option maxHeartbeats 20000000 in
theorem div_any (a b m : Int) (w : World) (ha : (-9223372036854775808) ≤ a ∧ a ≤ 9223372036854775807) (hb : (-9223372036854775808) ≤ b ∧ b ≤ 9223372036854775807) : Ret Tryd.prog 43 #[.int .i64 a, .int .i64 b, .int .i64 m] w (fun v w' => v = .tuple #[.int .i64 (mdX a 1 b m), .int .i64 (mdE a 1 b m)] ∧ Sep w [] w') := by
 have S0 := Sep.refl w
 refine Ret.named fun R hR => ?_
 refine Ret.of_J (N := 14) [(0, .int .i64 a), (1, .int .i64 b), (2, .int .i64 m)] Tryd.func43 rfl rfl (Nat.le_of_ble_eq_true (by kernel_rfl)) (by kernel_rfl) ?_
 refine J.run 10 K43_0 [(10, .int .i64 m), (9, .int .i64 b), (8, .int .i64 a)] w (by kernel_rfl) ?_
 refine J.callF 11 53 #[.int .i64 a, .int .i64 1, .int .i64 b, .int .i64 m] hb53 (by kernel_rfl) (muldiv_any a 1 b m _ (by omega) (by omega) (by omega)) ?_
 rintro _ w1 ⟨rfl, T1⟩
 have S1 : Sep w [] w1 := S0.trans T1
 clear T1
 have := mdX_bounds a 1 b m
 refine J.run 5 K43_1 [(7, .int .i64 (mdE a 1 b m)), (6, .int .i64 (mdX a 1 b m))] w1 (by kernel_rfl) ?_
 refine J.ret Tryd.f43 [.int .i64 (mdX a 1 b m), .int .i64 (mdE a 1 b m)] Tryd.func43 ⟨by kernel_rfl, by kernel_rfl, trivial⟩ ?_
 refine hR _ _ ?_
 exact ⟨rfl, S1.nil⟩

theorem hb27 : HasBody Tryd.prog 27 := fun _ _ => by kernel_rfl
noncomputable def K27_0 : List Item := adv 8 [] (bodyOf Tryd.f27)
noncomputable def K27_1 : List Item := adv 11 [] (popK K27_0)
set_option maxRecDepth 20000 in
set_option maxHeartbeats 20000000 in
theorem floor_any (a b : Int) (w : World) (ha : (-9223372036854775808) ≤ a ∧ a ≤ 9223372036854775807) (hb : (-9223372036854775808) ≤ b ∧ b ≤ 9223372036854775807) : Ret Tryd.prog 27 #[.int .i64 a, .int .i64 b] w (fun v w' => v = .int .i64 (mdX a 1 b 1) ∧ Sep w [] w') := by
 have S0 := Sep.refl w
 refine Ret.named fun R hR => ?_
 refine Ret.of_J (N := 14) [(0, .int .i64 a), (1, .int .i64 b)] Tryd.func27 rfl rfl (Nat.le_of_ble_eq_true (by kernel_rfl)) (by kernel_rfl) ?_
 refine J.run 8 K27_0 [(9, .int .i64 b), (8, .int .i64 a)] w (by kernel_rfl) ?_
 refine J.callF 10 43 #[.int .i64 a, .int .i64 b, .int .i64 1] hb43 (by kernel_rfl) (div_any a b 1 _ (by omega) (by omega)) ?_
 rintro _ w1 ⟨rfl, T1⟩
 have S1 : Sep w [] w1 := S0.trans T1
 clear T1
 have := mdX_bounds a 1 b 1
 refine J.run 11 K27_1 [(4, .int .i64 (mdX a 1 b 1))] w1 (by kernel_rfl) ?_
 refine J.ret Tryd.f27 [.int .i64 (mdX a 1 b 1)] Tryd.func27 ⟨by kernel_rfl, trivial⟩ ?_
 refine hR _ _ ?_
 exact ⟨rfl, S1.nil⟩

end Go.Proofs.YthhdaackhfffiaaDoor

