/- Walks of functions of this seat, printed by a program over the engine. Conditions: as each theorem says. -/
import Derived.Test.YtadgnficogeheaaGreatDoorZsF6
namespace Go.Proofs.YtadgnficogeheaaGreatDoor
noncomputable section
open Go.Eng Go.RowKit
set_option linter.unusedSimpArgs false
set_option linter.unusedVariables false
theorem hb58 : HasBody Tryz.prog 58 := fun _ _ => by kernel_rfl
def K58_0 := adv 13 [] (bodyOf Tryz.f58)
def K58_1 := adv 7 [] K58_0
def K58_2 := adv 8 [true] K58_1
def K58_3 := adv 1 [] K58_2
def K58_4 := adv 1 [] K58_3
def K58_5 := adv 1 [] K58_4
def K58_6 := adv 6 [] K58_5
def K58_7 := adv 2 [] (popK K58_6)
def K58_8 := adv 4 [true] K58_7
def K58_9 := adv 7 [false] K58_1
set_option maxRecDepth 20000 in
set_option maxHeartbeats 20000000 in
theorem search2 (n : Int) (g : FuncId) (c1 : Value) (c2 : Value) (q : Int → Bool) (w : World) (hn : 0 ≤ n ∧ n ≤ 4611686018427387903) (hbg : HasBody Tryz.prog g) (hcall : ∀ (i : Int) (w2 : World), 0 ≤ i → i < n → Sep w [] w2 → Ret Tryz.prog g #[.int .i64 i, c1, c2] w2 (fun v w3 => v = .bool (q i) ∧ Sep w2 [] w3)) : Ret Tryz.prog 58 #[.int .i64 n, .func (.func g) #[] #[c1, c2]] w (fun v w' => ∃ r, v = .int .i64 r ∧ (0 ≤ r ∧ r ≤ n) ∧ (r = 0 ∨ q (r - 1) = false) ∧ (r = n ∨ q r = true) ∧ Sep w [] w') := by
 have S0 := Sep.refl w
 refine Ret.named fun R hR => ?_
 refine Ret.of_J (N := 26) [(0, .int .i64 n), (1, .func (.func g) #[] #[c1, c2])] Tryz.func58 rfl rfl (Nat.le_of_ble_eq_true (by kernel_rfl)) (by kernel_rfl) ?_
 refine J.run 13 K58_0 [(6, .int .i64 n), (5, .int .i64 0), (1, .func (.func g) #[] #[c1, c2])] w (by kernel_rfl) ?_
 have L58_1 : ∀ (mm_ : Nat) (i : Int) (j : Int) (w1 : World), (0 ≤ i ∧ i ≤ j ∧ j ≤ n) → (i = 0 ∨ q (i - 1) = false) → (j = n ∨ q j = true) → Sep w [] w1 → (j - i).toNat = mm_ → J Tryz.prog 58 26 R K58_0 [(6, .int .i64 j), (5, .int .i64 i), (1, .func (.func g) #[] #[c1, c2])] w1 := by
  intro mm1
  induction mm1 using Nat.strongRecOn with
  | _ mm1 ih1 =>
  intro i j w1 hb hi hj S1 hm1
  refine J.run 7 K58_1 [(11, .bool (decide (i < j))), (6, .int .i64 j), (5, .int .i64 i), (1, .func (.func g) #[] #[c1, c2])] w1 (by kernel_rfl) ?_
  by_cases fk1 : i < j
  rotate_left
  ·skip
   refine J.head (.bool false) (congrArg Value.bool (decide_eq_false fk1)) ?_
   refine J.run 7 K58_9 [(4, .int .i64 i)] w1 (by kernel_rfl) ?_
   refine J.ret Tryz.f58 [.int .i64 i] Tryz.func58 ⟨by kernel_rfl, trivial⟩ ?_
   refine hR _ _ ?_
   exact ⟨i, rfl, by omega, hi, by rw [show i = j by omega]; exact hj, S1.nil⟩
  refine J.head (.bool true) (congrArg Value.bool (decide_eq_true fk1)) ?_
  refine J.run 8 K58_2 [(14, .int .i64 (IntKind.wrap .i64 (i + j))), (6, .int .i64 j), (5, .int .i64 i), (1, .func (.func g) #[] #[c1, c2])] w1 (by kernel_rfl) ?_
  refine J.head (.int .i64 (i + j)) (congrArg (Value.int .i64) (IntWalk.i64_in _ (by omega))) ?_
  refine J.run 1 K58_3 [(15, .int .u64 (IntKind.wrap .u64 (i + j))), (6, .int .i64 j), (5, .int .i64 i), (1, .func (.func g) #[] #[c1, c2])] w1 (by kernel_rfl) ?_
  refine J.head (.int .u64 (i + j)) (congrArg (Value.int .u64) (IntWalk.u64_in _ (by omega))) ?_
  refine J.run 1 K58_4 [(16, .int .u64 (Int.fdiv (i + j) (2 ^ 1))), (6, .int .i64 j), (5, .int .i64 i), (1, .func (.func g) #[] #[c1, c2])] w1 (by kernel_rfl) ?_
  refine J.head (.int .u64 ((i + j) / 2)) (congrArg (Value.int .u64) (shr_lit _ _ (by decide))) ?_
  refine J.run 1 K58_5 [(17, .int .i64 (IntKind.wrap .i64 ((i + j) / 2))), (6, .int .i64 j), (5, .int .i64 i), (1, .func (.func g) #[] #[c1, c2])] w1 (by kernel_rfl) ?_
  refine J.head (.int .i64 ((i + j) / 2)) (congrArg (Value.int .i64) (IntWalk.i64_in _ (by omega))) ?_
  obtain ⟨mid, hmid⟩ : ∃ x : Int, x = (i + j) / 2 := ⟨_, rfl⟩
  refine J.head (.int .i64 mid) (congrArg (Value.int .i64) hmid.symm) ?_
  refine J.run 6 K58_6 [(19, .int .i64 mid), (18, .func (.func g) #[] #[c1, c2]), (7, .int .i64 mid), (6, .int .i64 j), (5, .int .i64 i), (1, .func (.func g) #[] #[c1, c2])] w1 (by kernel_rfl) ?_
  refine J.callF 20 g #[.int .i64 mid, c1, c2] hbg (by kernel_rfl) (hcall mid w1 (by omega) (by omega) S1.nil) ?_
  rintro _ w2 ⟨rfl, T1⟩
  have S2 : Sep w [] w2 := S1.trans T1
  refine J.run 2 K58_7 [(21, .bool (!(q mid))), (7, .int .i64 mid), (6, .int .i64 j), (5, .int .i64 i), (1, .func (.func g) #[] #[c1, c2])] w2 (by kernel_rfl) ?_
  rcases Bool.eq_false_or_eq_true (q mid) with fk2 | fk2
  ·skip
   refine J.head (.bool false) (congrArg Value.bool (by rw [fk2]; rfl)) ?_
   refine J.run 7 K58_0 [(6, .int .i64 mid), (5, .int .i64 i), (1, .func (.func g) #[] #[c1, c2])] w2 (by kernel_rfl) ?_
   refine J.run 0 K58_0 [(6, .int .i64 mid), (5, .int .i64 i), (1, .func (.func g) #[] #[c1, c2])] w2 (by kernel_rfl) ?_
   exact ih1 _ (show (mid - i).toNat < mm1 from by omega) i mid w2 (by omega) (hi) (.inr fk2) S2 rfl
  refine J.head (.bool true) (congrArg Value.bool (by rw [fk2]; rfl)) ?_
  refine J.run 4 K58_8 [(23, .int .i64 (IntKind.wrap .i64 (mid + 1))), (6, .int .i64 j), (1, .func (.func g) #[] #[c1, c2])] w2 (by kernel_rfl) ?_
  refine J.head (.int .i64 (mid + 1)) (congrArg (Value.int .i64) (IntWalk.i64_in _ (by omega))) ?_
  refine J.run 4 K58_0 [(5, .int .i64 (mid + 1)), (6, .int .i64 j), (1, .func (.func g) #[] #[c1, c2])] w2 (by kernel_rfl) ?_
  refine J.run 0 K58_0 [(6, .int .i64 j), (5, .int .i64 (mid + 1)), (1, .func (.func g) #[] #[c1, c2])] w2 (by kernel_rfl) ?_
  exact ih1 _ (show (j - (mid + 1)).toNat < mm1 from by omega) (mid + 1) j w2 (by omega) (.inr (by rw [show mid + 1 - 1 = mid by omega]; exact fk2)) (hj) S2 rfl
 exact L58_1 _ 0 n w (by omega) (.inl rfl) (.inl rfl) S0 rfl

end
end Go.Proofs.YtadgnficogeheaaGreatDoor

