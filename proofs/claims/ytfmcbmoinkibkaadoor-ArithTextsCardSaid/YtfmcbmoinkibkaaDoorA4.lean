/- Walks of functions of this seat, printed by a program over the engine. Conditions: as each theorem says. -/
import Derived.Test.YtfmcbmoinkibkaaDoorA3
namespace Go.Proofs.YtfmcbmoinkibkaaDoor
open Go.Eng Go.RowKit
set_option linter.unusedSimpArgs false
set_option linter.unusedVariables false
theorem md_core2 {a b c mode q r : Int} {m : Bool} (hc : c ≠ 0) (hm : 1 ≤ mode ∧ mode ≤ 3) (h : magF a * magF b = q * magF c + r) (h0 : 0 ≤ r) (h1 : r < magF c) (hq : 0 ≤ q) (hb : m = negB a b c ∨ (m = false ∧ (a = 0 ∨ b = 0))) :
    mulDivR a b c mode = if m then -(q + (if rndB r (magF c) m mode then 1 else 0)) else q + (if rndB r (magF c) m mode then 1 else 0) := by
  rcases hb with rfl | ⟨rfl, hz⟩
  · exact md_core hc hm h h0 h1
  · rw [md_core hc hm h h0 h1]
    have hP : magF a * magF b = 0 := by
      rcases hz with rfl | rfl
      · exact Int.zero_mul _
      · exact Int.mul_zero _
    have h2 := Int.mul_nonneg hq (show 0 ≤ magF c by omega)
    have hr : r = 0 := by omega
    have hq0 : q = 0 := by
      have h3 : q * magF c = 0 := by omega
      rcases Int.mul_eq_zero.1 h3 with h4 | h4 <;> omega
    subst hr hq0
    cases negB a b c with
    | false => rfl
    | true =>
      have e1 : rndB 0 (magF c) true mode = false := by simp [rndB]; omega
      have e2 : rndB 0 (magF c) false mode = false := by simp [rndB]; omega
      simp [e1, e2]
theorem md_biggen {a b c mode q r : Int} (hc : c ≠ 0) (hm : 1 ≤ mode ∧ mode ≤ 3) (h : magF a * magF b = q * magF c + r) (h0 : 0 ≤ r) (h1 : r < magF c) (hq : 9223372036854775809 ≤ q) : mdX a b c mode = 0 ∧ mdE a b c mode = 9 := by
  refine md_unfit hm hc (md_core hc hm h h0 h1) ?_
  split <;> split <;> omega
theorem md_zero {a b : Int} (h : a = 0 ∨ b = 0) : magF a * magF b = 0 := by
  rcases h with rfl | rfl
  · exact Int.zero_mul _
  · exact Int.mul_zero _
theorem q_top {u d q : Int} (hq : q = u / d) (hu : 0 ≤ u) (h : u / 18446744073709551616 < d) : q ≤ 18446744073709551615 := by
  have h0 : 0 ≤ u / 18446744073709551616 := Int.ediv_nonneg hu (by omega)
  have h1 : u < 18446744073709551616 * d := by omega
  have := Int.ediv_lt_of_lt_mul (a := u) (b := 18446744073709551616) (c := d) (by omega) h1
  omega
theorem q_le {q d : Int} (h0 : 0 ≤ q) (h : 1 ≤ d) : q ≤ q * d := by
  have := Int.mul_le_mul_of_nonneg_left h h0; omega
theorem neg_conv {q : Int} (h : 0 ≤ q ∧ q ≤ 9223372036854775808) : IntKind.wrap .i64 (IntKind.wrap .u64 (0 - q)) = -q := by
  rw [wrap_u64, IntKind.wrap_i64]; omega
end Go.Proofs.YtfmcbmoinkibkaaDoor
