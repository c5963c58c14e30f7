/- Walks of functions of this seat, printed by a program over the engine. Conditions: as each theorem says. -/
import Derived.Test.YtadgnficogeheaaGreatDoorZsA2
namespace Go.Proofs.YtadgnficogeheaaGreatDoor
noncomputable section
open Go.Eng Go.RowKit
set_option linter.unusedSimpArgs false
set_option linter.unusedVariables false
theorem ediv_bd {x d : Int} (hd : 1 ≤ d) (hx : -9223372036854775808 ≤ x ∧ x ≤ 9223372036854775808) (h : x ≤ 9223372036854775807 ∨ 2 ≤ d) : -9223372036854775808 ≤ x / d ∧ x / d ≤ 9223372036854775807 := by
  have h1 := Int.ediv_mul_le x (show d ≠ 0 by omega)
  have h2 : x < (x / d + 1) * d := Int.lt_ediv_add_one_mul_self x (by omega)
  constructor
  · rcases (show 0 ≤ x / d ∨ x / d ≤ -1 by omega) with h3 | h3
    · omega
    · have := Int.mul_le_mul_of_nonpos_left (a := x / d + 1) (b := d) (c := 1) (by omega) hd
      omega
  · rcases (show x / d ≤ 0 ∨ 1 ≤ x / d by omega) with h3 | h3
    · omega
    · rcases h with h | h
      · have := Int.mul_le_mul_of_nonneg_left hd (show 0 ≤ x / d by omega); omega
      · have := Int.mul_le_mul_of_nonneg_left h (show 0 ≤ x / d by omega); omega
theorem floor_val {a b : Int} (ha : -9223372036854775808 ≤ a ∧ a ≤ 9223372036854775807) (hb : b ≠ 0 ∧ b ≠ -1) : mdX a 1 b 1 = if b < 0 then (-a) / (-b) else a / b := by
  have e : mulDivR a 1 b 1 = if b < 0 then (-a) / (-b) else a / b := by
    unfold mulDivR rndQ; simp
  have hf : fitsB (mulDivR a 1 b 1) = true := by
    rw [e]; unfold fitsB
    split
    · have := ediv_bd (x := -a) (d := -b) (by omega) (by omega) (by omega); simp only [Bool.and_eq_true, decide_eq_true_eq]; exact this
    · have := ediv_bd (x := a) (d := b) (by omega) (by omega) (by omega); simp only [Bool.and_eq_true, decide_eq_true_eq]; exact this
  unfold mdX
  rw [if_neg (by omega), if_neg hb.1, if_pos hf, e]
theorem hb57 : HasBody Tryz.prog 57 := fun _ _ => by kernel_rfl
def K57_0 := adv 9 [] (bodyOf Tryz.f57)
def K57_1 := adv 2 [] K57_0
def K57_2 := adv 2 [] K57_1
set_option maxRecDepth 20000 in
set_option maxHeartbeats 20000000 in
theorem clamp_any (x lo hi : Int) (w : World) : Ret Tryz.prog 57 #[.int .i64 x, .int .i64 lo, .int .i64 hi] w (fun v w' => v = .int .i64 (min (max x lo) hi) ∧ Sep w [] w') := by
 have S0 := Sep.refl w
 refine Ret.named fun R hR => ?_
 refine Ret.of_J (N := 12) [(0, .int .i64 x), (1, .int .i64 lo), (2, .int .i64 hi)] Tryz.func57 rfl rfl (Nat.le_of_ble_eq_true (by kernel_rfl)) (by kernel_rfl) ?_
 refine J.run 9 K57_0 [(9, .int .i64 (if lo > x then lo else x)), (2, .int .i64 hi)] w (by kernel_rfl) ?_
 refine J.head (.int .i64 (max x lo)) (congrArg (Value.int .i64) (by omega)) ?_
 refine J.run 2 K57_1 [(11, .int .i64 (if hi < (max x lo) then hi else (max x lo)))] w (by kernel_rfl) ?_
 refine J.head (.int .i64 (min (max x lo) hi)) (congrArg (Value.int .i64) (by omega)) ?_
 refine J.run 2 K57_2 [(6, .int .i64 (min (max x lo) hi))] w (by kernel_rfl) ?_
 refine J.ret Tryz.f57 [.int .i64 (min (max x lo) hi)] Tryz.func57 ⟨by kernel_rfl, trivial⟩ ?_
 refine hR _ _ ?_
 exact ⟨rfl, S0.nil⟩

theorem hb78 : HasBody Tryz.prog 78 := fun _ _ => by kernel_rfl
def K78_0 := adv 10 [] (bodyOf Tryz.f78)
def K78_1 := adv 5 [] (popK K78_0)
set_option maxRecDepth 20000 in
set_option maxHeartbeats 20000000 in
theorem div_any (a b m : Int) (w : World) (ha : (-9223372036854775808) ≤ a ∧ a ≤ 9223372036854775807) (hb : (-9223372036854775808) ≤ b ∧ b ≤ 9223372036854775807) : Ret Tryz.prog 78 #[.int .i64 a, .int .i64 b, .int .i64 m] w (fun v w' => v = .tuple #[.int .i64 (mdX a 1 b m), .int .i64 (mdE a 1 b m)] ∧ Sep w [] w') := by
 have S0 := Sep.refl w
 refine Ret.named fun R hR => ?_
 refine Ret.of_J (N := 14) [(0, .int .i64 a), (1, .int .i64 b), (2, .int .i64 m)] Tryz.func78 rfl rfl (Nat.le_of_ble_eq_true (by kernel_rfl)) (by kernel_rfl) ?_
 refine J.run 10 K78_0 [(10, .int .i64 m), (9, .int .i64 b), (8, .int .i64 a)] w (by kernel_rfl) ?_
 refine J.callF 11 96 #[.int .i64 a, .int .i64 1, .int .i64 b, .int .i64 m] hb96 (by kernel_rfl) (muldiv_any a 1 b m _ (by omega) (by omega) (by omega)) ?_
 rintro _ w1 ⟨rfl, T1⟩
 have S1 : Sep w [] w1 := S0.trans T1
 clear T1
 have := mdX_bounds a 1 b m
 refine J.run 5 K78_1 [(7, .int .i64 (mdE a 1 b m)), (6, .int .i64 (mdX a 1 b m))] w1 (by kernel_rfl) ?_
 refine J.ret Tryz.f78 [.int .i64 (mdX a 1 b m), .int .i64 (mdE a 1 b m)] Tryz.func78 ⟨by kernel_rfl, by kernel_rfl, trivial⟩ ?_
 refine hR _ _ ?_
 exact ⟨rfl, S1.nil⟩

theorem hb60 : HasBody Tryz.prog 60 := fun _ _ => by kernel_rfl
def K60_0 := adv 8 [] (bodyOf Tryz.f60)
def K60_1 := adv 11 [] (popK K60_0)
set_option maxRecDepth 20000 in
set_option maxHeartbeats 20000000 in
theorem floor_any (a b : Int) (w : World) (ha : (-9223372036854775808) ≤ a ∧ a ≤ 9223372036854775807) (hb : (-9223372036854775808) ≤ b ∧ b ≤ 9223372036854775807) : Ret Tryz.prog 60 #[.int .i64 a, .int .i64 b] w (fun v w' => v = .int .i64 (mdX a 1 b 1) ∧ Sep w [] w') := by
 have S0 := Sep.refl w
 refine Ret.named fun R hR => ?_
 refine Ret.of_J (N := 14) [(0, .int .i64 a), (1, .int .i64 b)] Tryz.func60 rfl rfl (Nat.le_of_ble_eq_true (by kernel_rfl)) (by kernel_rfl) ?_
 refine J.run 8 K60_0 [(9, .int .i64 b), (8, .int .i64 a)] w (by kernel_rfl) ?_
 refine J.callF 10 78 #[.int .i64 a, .int .i64 b, .int .i64 1] hb78 (by kernel_rfl) (div_any a b 1 _ (by omega) (by omega)) ?_
 rintro _ w1 ⟨rfl, T1⟩
 have S1 : Sep w [] w1 := S0.trans T1
 clear T1
 have := mdX_bounds a 1 b 1
 refine J.run 11 K60_1 [(4, .int .i64 (mdX a 1 b 1))] w1 (by kernel_rfl) ?_
 refine J.ret Tryz.f60 [.int .i64 (mdX a 1 b 1)] Tryz.func60 ⟨by kernel_rfl, trivial⟩ ?_
 refine hR _ _ ?_
 exact ⟨rfl, S1.nil⟩

end
end Go.Proofs.YtadgnficogeheaaGreatDoor

