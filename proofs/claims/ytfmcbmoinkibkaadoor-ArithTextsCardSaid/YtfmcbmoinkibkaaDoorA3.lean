/- Walks of functions of this seat, printed by a program over the engine. Conditions: as each theorem says. -/
import Derived.Test.YtfmcbmoinkibkaaDoorA2
namespace Go.Proofs.YtfmcbmoinkibkaaDoor
open Go.Eng Go.RowKit
set_option linter.unusedSimpArgs false
set_option linter.unusedVariables false
theorem mul_max {x y : Int} (hx : 0 ≤ x ∧ x ≤ 18446744073709551615) (hy : 0 ≤ y ∧ y ≤ 18446744073709551615) : 0 ≤ x * y ∧ x * y ≤ 340282366920938463426481119284349108225 := ⟨Int.mul_nonneg hx.1 hy.1, Int.le_trans (Int.mul_le_mul hx.2 hy.2 hy.1 (by omega)) (by decide)⟩
theorem over_step {H L : Int} {i : Int} (h0 : 0 ≤ i) (h1 : i ≤ 63) (hH : 0 ≤ H) (hL : 0 ≤ L) : (H * 18446744073709551616 + L) / 2 ^ i.toNat = 2 * ((H * 18446744073709551616 + L) / 2 ^ (i + 1).toNat) + L / 2 ^ i.toNat % 2 := by
  rw [show (i + 1).toNat = i.toNat + 1 by omega, Int.pow_succ, ← Int.ediv_ediv_of_nonneg (Int.le_of_lt (Int.pow_pos (by omega)))]
  have hp : (2 : Int) ^ i.toNat * 2 ^ (63 - i.toNat) = 9223372036854775808 := by rw [← Int.pow_add, show i.toNat + (63 - i.toNat) = 63 by omega]; rfl
  have hpos : (0 : Int) < 2 ^ i.toNat := Int.pow_pos (by omega)
  generalize (2 : Int) ^ i.toNat = p at *
  generalize (2 : Int) ^ (63 - i.toNat) = k at *
  have e : (H * 18446744073709551616 + L) / p = H * (2 * k) + L / p := by
    rw [show H * 18446744073709551616 + L = L + p * (H * (2 * k)) by rw [show (18446744073709551616 : Int) = 2 * (p * k) by omega]; grind, Int.add_mul_ediv_left _ _ (by omega)]; omega
  rw [e]
  have e2 : H * (2 * k) = 2 * (H * k) := by grind
  rw [e2]; omega
theorem over_q {H L c q r : Int} {i : Int} (h0 : 0 ≤ i) (hH : 0 ≤ H) (hHc : H < c) (hL : 0 ≤ L ∧ L ≤ 18446744073709551615) (h : (H * 18446744073709551616 + L) / 2 ^ (i + 1).toNat = q * c + r) (hr : 0 ≤ r) : q ≤ 9223372036854775807 := by
  have h1 : (2 : Int) ≤ 2 ^ (i + 1).toNat := by
    have : (2 : Int) ^ 1 ≤ 2 ^ (i + 1).toNat := by exact_mod_cast Nat.pow_le_pow_right (by omega) (show 1 ≤ (i + 1).toNat by omega)
    simpa using this
  have h2 : (q * c + r) * 2 ≤ H * 18446744073709551616 + L := by
    rw [← h]
    have h3 : 0 ≤ (H * 18446744073709551616 + L) / 2 ^ (i + 1).toNat := Int.ediv_nonneg (by omega) (by omega)
    exact Int.le_trans (Int.mul_le_mul_of_nonneg_left h1 h3) (Int.ediv_mul_le _ (by omega))
  have h4 : q * c < 9223372036854775808 * c := by omega
  have := Int.lt_of_mul_lt_mul_right h4 (by omega); omega
theorem dbl0 {q c : Int} (h : 0 ≤ q) (h2 : q ≤ 9223372036854775807) : q * 2 ^ 1 % 18446744073709551616 * c = 2 * (q * c) := by
  rw [show q * 2 ^ 1 % 18446744073709551616 = 2 * q by omega, Int.mul_assoc]
theorem dbl1 {q c : Int} (h : 0 ≤ q) (h2 : q ≤ 9223372036854775807) : (q * 2 ^ 1 % 18446744073709551616 + 1) * c = 2 * (q * c) + c := by
  rw [show q * 2 ^ 1 % 18446744073709551616 = 2 * q by omega, Int.add_mul, Int.mul_assoc, Int.one_mul]
theorem over_start {H L c : Int} (hL : 0 ≤ L ∧ L ≤ 18446744073709551615) : (H * 18446744073709551616 + L) / 2 ^ (63 + 1 : Int).toNat = 0 * c + H := by
  rw [show (63 + 1 : Int).toNat = 64 from rfl, show (2 : Int) ^ 64 = 18446744073709551616 from rfl, Int.zero_mul]; omega
def overV (H L c : Int) : Value := if c ≤ H then .tuple #[.int .u64 0, .int .u64 0, .bool false] else .tuple #[.int .u64 ((H * 18446744073709551616 + L) / c), .int .u64 ((H * 18446744073709551616 + L) % c), .bool true]
end Go.Proofs.YtfmcbmoinkibkaaDoor
