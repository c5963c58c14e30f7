/- Walks of functions of this seat, printed by a program over the engine. Conditions: as each theorem says. -/
import Derived.Test.YthiklimfffhbaaaDoorProg
import Derived.Test.YthiklimfffhbaaaDoorZtEng9
namespace Go.Proofs.YthiklimfffhbaaaDoor
open Go.Eng Go.RowKit
set_option linter.unusedSimpArgs false
set_option linter.unusedVariables false
theorem Tryd.mixed : Tryd.prog.follows .mixedOrders = true := by kernel_rfl
def magF (n : Int) : Int := (n.natAbs : Int)
theorem mag_le (n : Int) (h : -9223372036854775808 ≤ n ∧ n ≤ 9223372036854775807) : 0 ≤ magF n ∧ magF n ≤ 9223372036854775808 ∧ (n = 0 ∨ 1 ≤ magF n) := by unfold magF; omega
theorem wrap_u64 (n : Int) : IntKind.wrap .u64 n = n % 18446744073709551616 := by simp [IntKind.wrap, IntKind.bits, IntKind.signed]
theorem hb82 : HasBody Tryd.prog 82 := fun _ _ => by kernel_rfl
noncomputable def K82_0 : List Item := adv 10 [] (bodyOf Tryd.f82)
noncomputable def K82_1 : List Item := adv 8 [true] K82_0
noncomputable def K82_2 : List Item := adv 8 [false] K82_0
set_option maxRecDepth 20000 in
set_option maxHeartbeats 20000000 in
theorem size_any (n : Int) (w : World) (hn : (-9223372036854775808) ≤ n ∧ n ≤ 9223372036854775807) : Ret Tryd.prog 82 #[.int .i64 n] w (fun v w' => v = .int .u64 (magF n) ∧ Sep w [] w') := by
 have S0 := Sep.refl w
 refine Ret.named fun R hR => ?_
 refine Ret.of_J (N := 10) [(0, .int .i64 n)] Tryd.func82 rfl rfl (Nat.le_of_ble_eq_true (by kernel_rfl)) (by kernel_rfl) ?_
 refine J.run 10 K82_0 [(4, .bool (decide (n < 0))), (0, .int .i64 n)] w (by kernel_rfl) ?_
 by_cases fk1 : n < 0
 ·skip
  refine J.head (.bool true) (congrArg Value.bool (decide_eq_true fk1)) ?_
  refine J.run 8 K82_1 [(2, .int .u64 (IntKind.wrap .u64 (0 - (IntKind.wrap .u64 n))))] w (by kernel_rfl) ?_
  refine J.ret Tryd.f82 [.int .u64 (IntKind.wrap .u64 (0 - (IntKind.wrap .u64 n)))] Tryd.func82 ⟨by kernel_rfl, trivial⟩ ?_
  refine hR _ _ ?_
  exact ⟨by rw [tup_one]; exact congrArg (Value.int .u64) (by (try simp only [wrap_u64]); unfold magF; omega), S0.nil⟩
 ·skip
  refine J.head (.bool false) (congrArg Value.bool (decide_eq_false fk1)) ?_
  refine J.run 8 K82_2 [(2, .int .u64 (IntKind.wrap .u64 n))] w (by kernel_rfl) ?_
  refine J.ret Tryd.f82 [.int .u64 (IntKind.wrap .u64 n)] Tryd.func82 ⟨by kernel_rfl, trivial⟩ ?_
  refine hR _ _ ?_
  exact ⟨by rw [tup_one]; exact congrArg (Value.int .u64) (by (try simp only [wrap_u64]); unfold magF; omega), S0.nil⟩

end Go.Proofs.YthiklimfffhbaaaDoor

