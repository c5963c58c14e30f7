/- Walks of functions of this seat, printed by a program over the engine. Conditions: as each theorem says. -/
import Derived.Test.YtfmcbmoinkibkaaDoorA4
namespace Go.Proofs.YtfmcbmoinkibkaaDoor
open Go.Eng Go.RowKit
set_option linter.unusedSimpArgs false
set_option linter.unusedVariables false
theorem pow62 {n : Nat} (h : n ≤ 62) : (1 : Int) ≤ 2 ^ n ∧ (2 : Int) ^ n ≤ 4611686018427387904 := by
  have h1 : (1 : Int) ≤ 2 ^ n := by exact_mod_cast Nat.one_le_two_pow
  have h2 : (2 : Int) ^ n ≤ 2 ^ 62 := by exact_mod_cast Nat.pow_le_pow_right (by omega) h
  omega
theorem shl_i {x y : Int} (hx : x = 1 ∨ x = -1) (h0 : 0 ≤ y) (h : y ≤ 62) : IntKind.wrap .i64 (x * 2 ^ min y.toNat (IntKind.bits .i64)) = x * 2 ^ y.toNat := by
  have hp := pow62 (n := y.toNat) (by omega)
  rw [show min y.toNat (IntKind.bits .i64) = y.toNat from Nat.min_eq_left (show y.toNat ≤ 64 by omega)]
  rcases hx with rfl | rfl <;> exact IntWalk.i64_in _ (by omega)
def satF (x b : Int) (s : Bool) : Int := if b < 1 ∨ 62 < b then 0 else if s then min (max x (-(2 ^ (b - 1).toNat))) (2 ^ (b - 1).toNat - 1) else min (max x 0) (2 ^ b.toNat - 1)
/-- the square root, rounded down -/
def IsRoot (n r : Int) : Prop := 0 ≤ r ∧ r * r ≤ n ∧ n < (r + 1) * (r + 1)
open Classical in
noncomputable def rootF (n : Int) : Int := if h : ∃ r, IsRoot n r then Classical.choose h else 0
theorem sq_lt {r s : Int} (h0 : 0 ≤ r) (h : r * r < s * s) (hs : 0 ≤ s) : r < s := by
  rcases (show r < s ∨ s ≤ r by omega) with h1 | h1
  · exact h1
  · have := Int.mul_le_mul h1 h1 hs h0; omega
theorem root_unique {n r s : Int} (h : IsRoot n r) (h' : IsRoot n s) : r = s := by
  have h1 := sq_lt (r := r) (s := s + 1) h.1 (by have := h.2.1; have := h'.2.2; omega) (by have := h'.1; omega)
  have h2 := sq_lt (r := s) (s := r + 1) h'.1 (by have := h'.2.1; have := h.2.2; omega) (by have := h.1; omega)
  omega
theorem rootF_eq {n r : Int} (h : IsRoot n r) : rootF n = r := by
  have he : ∃ r, IsRoot n r := ⟨r, h⟩
  unfold rootF
  rw [dif_pos he]
  exact root_unique (Classical.choose_spec he) h
theorem sq_nonneg (r : Int) : 0 ≤ r * r := by
  rcases Int.le_total 0 r with h | h
  · exact Int.mul_nonneg h h
  · have := Int.mul_nonneg_of_nonpos_of_nonpos h h; exact this
theorem rootF_neg {n : Int} (h : n < 0) : rootF n = 0 := by
  unfold rootF
  rw [dif_neg]
  rintro ⟨r, h1, h2, _⟩
  have := sq_nonneg r; omega
theorem rootF_zero : rootF 0 = 0 := rootF_eq ⟨by omega, by omega, by omega⟩
theorem sq_mono {r s : Int} (h0 : 0 ≤ r) (h : r ≤ s) : r * r ≤ s * s := Int.mul_le_mul h h h0 (by omega)
theorem or_bit {out : Int} {j : Nat} (h0 : 0 ≤ out) (hm : out % 2 ^ (j + 1) = 0) (hj : j ≤ 31) (hb : out ≤ 4294967296) : IntKind.wrap .i64 ((BitVec.ofInt 64 out ||| BitVec.ofInt 64 (2 ^ j)).toNat : Int) = out + 2 ^ j := by
  have hp := pow62 (n := j) (by omega)
  have hpe : (2 : Int) ^ j ≤ 2147483648 := by
    have : (2 : Int) ^ j ≤ 2 ^ 31 := by exact_mod_cast Nat.pow_le_pow_right (by omega) hj
    omega
  have hpow : ((2 ^ j : Nat) : Int) = (2 : Int) ^ j := by rw [Int.natCast_pow]; rfl
  obtain ⟨m, rfl⟩ : ∃ k : Nat, out = k := ⟨out.toNat, by omega⟩
  have hm2 : m % 2 ^ (j + 1) = 0 := by
    have : ((m % 2 ^ (j + 1) : Nat) : Int) = 0 := by rw [Int.natCast_emod, Int.natCast_pow]; exact hm
    omega
  obtain ⟨q, hq⟩ : ∃ q, m = q * 2 ^ (j + 1) := ⟨m / 2 ^ (j + 1), by have := Nat.div_add_mod m (2 ^ (j + 1)); rw [hm2, Nat.mul_comm] at this; omega⟩
  have h1 : (BitVec.ofInt 64 (m : Int) ||| BitVec.ofInt 64 (2 ^ j)).toNat = m + 2 ^ j := by
    rw [← hpow, BitVec.toNat_or, BitVec.ofInt_natCast, BitVec.ofInt_natCast, BitVec.toNat_ofNat, BitVec.toNat_ofNat, Nat.mod_eq_of_lt (by omega), Nat.mod_eq_of_lt (by omega), hq, Nat.mul_comm]
    exact (Nat.two_pow_add_eq_or_of_lt (Nat.pow_lt_pow_right (by omega) (by omega)) q).symm
  rw [h1, Int.natCast_add, hpow]
  exact IntWalk.i64_in _ (by omega)
theorem pow_half {k : Nat} {bit : Int} (hb : bit = 2 ^ k / 2) (h : 0 < bit) : ∃ j, k = j + 1 ∧ bit = 2 ^ j := by
  cases k with
  | zero => subst hb; exact absurd h (by decide)
  | succ j => exact ⟨j, rfl, by rw [hb, Int.pow_succ]; omega⟩
theorem mod_half {out : Int} {j : Nat} (h : out % 2 ^ (j + 1) = 0) : out % 2 ^ j = 0 ∧ (out + 2 ^ j) % 2 ^ j = 0 := by
  have hd : (2 : Int) ^ j ∣ out := Int.dvd_trans ⟨2, by rw [Int.pow_succ]⟩ (Int.dvd_of_emod_eq_zero h)
  have h1 := Int.emod_eq_zero_of_dvd hd
  exact ⟨h1, by rw [Int.add_emod_right]; exact h1⟩

def gcdF (a b : Int) : Int := if 9223372036854775808 ≤ (Nat.gcd a.natAbs b.natAbs : Int) then 0 else (Nat.gcd a.natAbs b.natAbs : Int)
theorem gcd_start (a b : Int) : Nat.gcd (magF a).toNat (magF b).toNat = Nat.gcd a.natAbs b.natAbs := by unfold magF; rfl
theorem gcd_step {x y : Int} {G : Nat} (hx : 0 ≤ x) (hy : 0 < y) (h : Nat.gcd x.toNat y.toNat = G) : Nat.gcd y.toNat (x % y).toNat = G := by
  rw [Int.toNat_emod hx (by omega), Nat.gcd_comm, ← Nat.gcd_rec, Nat.gcd_comm]; exact h
theorem gcd_end {x y : Int} {G : Nat} (hx : 0 ≤ x) (hy : y = 0) (h : Nat.gcd x.toNat y.toNat = G) : x = (G : Int) := by
  subst hy; simp at h; omega
theorem mod_bd {x y : Int} (h : 0 < y) : 0 ≤ x % y ∧ x % y < y := ⟨Int.emod_nonneg _ (by omega), Int.emod_lt_of_pos _ h⟩
def modF (a b : Int) : Int := if b = 0 ∨ b = -1 then 0 else if b < 0 then -((-a) % (-b)) else a % b
theorem mod_uniq {a b r : Int} (k : Int) (hb : b ≠ 0 ∧ b ≠ -1) (h : a = b * k + r) (hr : 0 < b ∧ 0 ≤ r ∧ r < b ∨ b < 0 ∧ b < r ∧ r ≤ 0) : modF a b = r := by
  unfold modF
  rw [if_neg (by omega)]
  rcases hr with ⟨h1, h2, h3⟩ | ⟨h1, h2, h3⟩
  · rw [if_neg (by omega), h, Int.add_comm, Int.add_mul_emod_self_left, Int.emod_eq_of_lt h2 h3]
  · rw [if_pos h1, h, show -(b * k + r) = -r + (-b) * k by grind, Int.add_mul_emod_self_left, Int.emod_eq_of_lt (by omega) (by omega)]; omega
theorem tmod_facts {a b : Int} (hb : b ≠ 0) : ∃ k, a = b * k + Int.tmod a b ∧ a = b * (k - 1) + (Int.tmod a b + b) ∧ (0 ≤ a → 0 ≤ Int.tmod a b) ∧ (a ≤ 0 → Int.tmod a b ≤ 0) ∧ (0 < b → -b < Int.tmod a b ∧ Int.tmod a b < b) ∧ (b < 0 → b < Int.tmod a b ∧ Int.tmod a b < -b) := by
  have h0 := Int.mul_tdiv_add_tmod a b
  have hs : (Int.tmod a b).natAbs < b.natAbs := by
    rw [Int.natAbs_tmod]; exact Nat.mod_lt _ (by omega)
  have h1 : 0 ≤ a → 0 ≤ Int.tmod a b := fun h => Int.tmod_nonneg _ h
  have h2 : a ≤ 0 → Int.tmod a b ≤ 0 := fun h => by
    have := Int.tmod_nonneg b (a := -a) (by omega)
    rw [Int.neg_tmod] at this; omega
  refine ⟨Int.tdiv a b, by omega, ?_, h1, h2, fun h => by omega, fun h => by omega⟩
  rw [Int.mul_sub, Int.mul_one]; omega
theorem ediv_bd {x d : Int} (hd : 1 ≤ d) (hx : -9223372036854775808 ≤ x ∧ x ≤ 9223372036854775808) (h : x ≤ 9223372036854775807 ∨ 2 ≤ d) : -9223372036854775808 ≤ x / d ∧ x / d ≤ 9223372036854775807 := by
  have h1 := Int.ediv_mul_le x (show d ≠ 0 by omega)
  have h2 : x < (x / d + 1) * d := Int.lt_ediv_add_one_mul_self x (by omega)
  constructor
  · rcases (show 0 ≤ x / d ∨ x / d ≤ -1 by omega) with h3 | h3
    · omega
    · have := Int.mul_le_mul_of_nonpos_left (a := x / d + 1) (b := d) (c := 1) (by omega) hd
      omega
  · rcases (show x / d ≤ 0 ∨ 1 ≤ x / d by omega) with h3 | h3
    · omega
    · rcases h with h | h
      · have := Int.mul_le_mul_of_nonneg_left hd (show 0 ≤ x / d by omega); omega
      · have := Int.mul_le_mul_of_nonneg_left h (show 0 ≤ x / d by omega); omega
theorem floor_val {a b : Int} (ha : -9223372036854775808 ≤ a ∧ a ≤ 9223372036854775807) (hb : b ≠ 0 ∧ b ≠ -1) : mdX a 1 b 1 = if b < 0 then (-a) / (-b) else a / b := by
  have e : mulDivR a 1 b 1 = if b < 0 then (-a) / (-b) else a / b := by
    unfold mulDivR rndQ; simp
  have hf : fitsB (mulDivR a 1 b 1) = true := by
    rw [e]; unfold fitsB
    split
    · have := ediv_bd (x := -a) (d := -b) (by omega) (by omega) (by omega); simp only [Bool.and_eq_true, decide_eq_true_eq]; exact this
    · have := ediv_bd (x := a) (d := b) (by omega) (by omega) (by omega); simp only [Bool.and_eq_true, decide_eq_true_eq]; exact this
  unfold mdX
  rw [if_neg (by omega), if_neg hb.1, if_pos hf, e]
theorem modF_wrap {a b : Int} (ha : -9223372036854775808 ≤ a ∧ a ≤ 9223372036854775807) (hb2 : -9223372036854775808 ≤ b ∧ b ≤ 9223372036854775807) (hb : b ≠ 0 ∧ b ≠ -1) : IntKind.wrap .i64 (a - IntKind.wrap .i64 (b * mdX a 1 b 1)) = modF a b := by
  have h1 : ∃ r, a - b * mdX a 1 b 1 = r ∧ (0 < b ∧ 0 ≤ r ∧ r < b ∨ b < 0 ∧ b < r ∧ r ≤ 0) := by
    refine ⟨_, rfl, ?_⟩
    rw [floor_val ha hb]
    split
    · have h2 := Int.mul_ediv_add_emod (-a) (-b)
      have h3 := mod_bd (x := -a) (y := -b) (by omega)
      rw [Int.neg_mul] at h2
      omega
    · have h2 := Int.mul_ediv_add_emod a b
      have h3 := mod_bd (x := a) (y := b) (by omega)
      omega
  obtain ⟨r, hr, hr2⟩ := h1
  have e : IntKind.wrap .i64 (a - IntKind.wrap .i64 (b * mdX a 1 b 1)) = r := by
    generalize b * mdX a 1 b 1 = p at *
    rw [IntKind.wrap_i64, IntKind.wrap_i64]; omega
  rw [e, mod_uniq (mdX a 1 b 1) hb (by omega) hr2]

theorem bool_eq {x y : Int} {P : Prop} [Decidable P] (h : x = y ↔ P) : ((x == y) == decide P) = true := by
  by_cases hp : P
  · simp [h.2 hp, hp]
  · have : ¬ x = y := fun e => hp (h.1 e)
    simp [this, hp]
theorem rounds_facts {a b : Int} (ha : -1099511627776 ≤ a ∧ a ≤ 1099511627776) (hb : 1 ≤ b ∧ b ≤ 1099511627776) : ∃ D R, 0 ≤ R ∧ R < b ∧ modF a b = R ∧
    mdX a 1 b 1 = D ∧ mdE a 1 b 1 = 0 ∧ (R = 0 → mdX a 1 b 2 = D) ∧ (R ≠ 0 → mdX a 1 b 2 = D + 1) ∧ mdE a 1 b 2 = 0 ∧
    (b ≤ 2 * R → mdX a 1 b 3 = D + 1) ∧ (2 * R < b → mdX a 1 b 3 = D) ∧ mdE a 1 b 3 = 0 ∧ mdX (0 - a) 1 b 1 = - mdX a 1 b 2 ∧ mdE (0 - a) 1 b 1 = 0 ∧ mdX (0 - a) 1 (0 - b) 3 = mdX a 1 b 3 ∧ mdE (0 - a) 1 (0 - b) 3 = 0 ∧ -1099511627777 ≤ D ∧ D ≤ 1099511627777 := by
  have h2 := Int.mul_ediv_add_emod a b
  have h3 := mod_bd (x := a) (y := b) (by omega)
  have hD := Int.ediv_mul_le a (show b ≠ 0 by omega)
  have hDb : -1099511627776 ≤ a / b ∧ a / b ≤ 1099511627776 := by
    have h1 := Int.ediv_mul_le a (show b ≠ 0 by omega)
    have h2 : a < (a / b + 1) * b := Int.lt_ediv_add_one_mul_self a (by omega)
    constructor
    · rcases (show 0 ≤ a / b ∨ a / b ≤ -1 by omega) with h3 | h3
      · omega
      · have := Int.mul_le_mul_of_nonpos_left (a := a / b + 1) (b := b) (c := 1) (by omega) (by omega); omega
    · rcases (show a / b ≤ 0 ∨ 1 ≤ a / b by omega) with h3 | h3
      · omega
      · have := Int.mul_le_mul_of_nonneg_left hb.1 (show 0 ≤ a / b by omega); omega
  have hm : modF a b = a % b := by unfold modF; rw [if_neg (by omega), if_neg (by omega)]
  have fit : ∀ {x : Int} {p c m : Int}, mulDivR p 1 c m = x → 1 ≤ m ∧ m ≤ 3 → c ≠ 0 → -9223372036854775808 ≤ x ∧ x ≤ 9223372036854775807 → mdX p 1 c m = x ∧ mdE p 1 c m = 0 := by
    intro x p c m e hm hc hx
    have hf : fitsB (mulDivR p 1 c m) = true := by rw [e]; simp only [fitsB, Bool.and_eq_true, decide_eq_true_eq]; exact hx
    unfold mdX mdE
    rw [if_neg (by omega), if_neg hc, if_pos hf, if_neg (by omega), if_neg hc, if_pos hf, e]
    exact ⟨rfl, rfl⟩
  generalize hDe : a / b = D at *
  generalize hRe : a % b = R at *
  have eR : mulDivR a 1 b 1 = D := by unfold mulDivR rndQ; simp [hDe]; omega
  have eU : mulDivR a 1 b 2 = if R = 0 then D else D + 1 := by
    have : (-a) / b = if R = 0 then -D else -D - 1 := by
      split
      · exact ediv_of (by omega) (by rw [Int.neg_mul, Int.mul_comm]; omega) (by rw [Int.neg_mul, Int.mul_comm]; omega)
      · exact ediv_of (by omega) (by rw [show (-D - 1) * b = -(b * D) - b by grind]; omega) (by rw [show (-D - 1) * b = -(b * D) - b by grind]; omega)
    unfold mulDivR rndQ; simp [this]; split <;> split <;> omega
  have eN : mulDivR a 1 b 3 = if b ≤ 2 * R then D + 1 else D := by
    have : (2 * a + b) / (2 * b) = if b ≤ 2 * R then D + 1 else D := by
      split
      · exact ediv_of (by omega) (by rw [show (D + 1) * (2 * b) = 2 * (b * D) + 2 * b by grind]; omega) (by rw [show (D + 1) * (2 * b) = 2 * (b * D) + 2 * b by grind]; omega)
      · exact ediv_of (by omega) (by rw [show D * (2 * b) = 2 * (b * D) by grind]; omega) (by rw [show D * (2 * b) = 2 * (b * D) by grind]; omega)
    unfold mulDivR rndQ; simp [this]; omega
  have eM : mulDivR (0 - a) 1 b 1 = -(if R = 0 then D else D + 1) := by
    rw [← eU]; unfold mulDivR rndQ; simp; omega
  have eT : mulDivR (0 - a) 1 (0 - b) 3 = if b ≤ 2 * R then D + 1 else D := by
    rw [← eN]; unfold mulDivR rndQ; simp; omega
  obtain ⟨a1, a2⟩ := fit eR (by omega) (by omega) (by omega)
  obtain ⟨b1, b2⟩ := fit eU (by omega) (by omega) (by split <;> omega)
  obtain ⟨c1, c2⟩ := fit eN (by omega) (by omega) (by split <;> omega)
  obtain ⟨d1, d2⟩ := fit eM (by omega) (by omega) (by split <;> omega)
  obtain ⟨t1, t2⟩ := fit eT (by omega) (by omega) (by split <;> omega)
  exact ⟨D, R, h3.1, h3.2, hm, a1, a2, fun h => by rw [b1, if_pos h], fun h => by rw [b1, if_neg h], b2, fun h => by rw [c1, if_pos h], fun h => by rw [c1, if_neg (by omega)], c2, by rw [d1, b1], d2, by rw [t1, c1], t2, by omega, by omega⟩
theorem md_comm (a b c m : Int) : mdX b a c m = mdX a b c m ∧ mdE b a c m = mdE a b c m := by
  have : mulDivR b a c m = mulDivR a b c m := by unfold mulDivR; rw [Int.mul_comm b a]
  unfold mdX mdE; rw [this]; exact ⟨rfl, rfl⟩
theorem md_negs (a b c m : Int) : mdX (0 - a) (0 - b) c m = mdX a b c m ∧ mdE (0 - a) (0 - b) c m = mdE a b c m := by
  have : mulDivR (0 - a) (0 - b) c m = mulDivR a b c m := by unfold mulDivR; rw [show (0 - a) * (0 - b) = a * b by grind]
  unfold mdX mdE; rw [this]; exact ⟨rfl, rfl⟩
theorem md_same {a b m : Int} (ha : -9223372036854775808 ≤ a ∧ a ≤ 9223372036854775807) (hb : b ≠ 0) (hm : 1 ≤ m ∧ m ≤ 3) : mdX a b b m = a ∧ mdE a b b m = 0 := by
  have key : ∀ d, 0 < d → rndQ (a * d) d m = a := fun d hd => by
    have h1 : a * d / d = a := Int.mul_ediv_cancel _ (by omega)
    have h2 : -(a * d) / d = -a := by rw [← Int.neg_mul]; exact Int.mul_ediv_cancel _ (by omega)
    have h3 : (2 * (a * d) + d) / (2 * d) = a := ediv_of (by omega) (by rw [show a * (2 * d) = 2 * (a * d) by grind]; omega) (by rw [show a * (2 * d) = 2 * (a * d) by grind]; omega)
    unfold rndQ; rw [h1, h2, h3]; split; · rfl
    split <;> omega
  have e : mulDivR a b b m = a := by
    unfold mulDivR
    split
    · rw [← Int.mul_neg]; exact key _ (by omega)
    · exact key _ (by omega)
  have hf : fitsB (mulDivR a b b m) = true := by rw [e]; simp only [fitsB, Bool.and_eq_true, decide_eq_true_eq]; exact ha
  unfold mdX mdE
  rw [if_neg (by omega), if_neg hb, if_pos hf, if_neg (by omega), if_neg hb, if_pos hf, e]
  exact ⟨rfl, rfl⟩
theorem rndQ_mono {p q d m : Int} (hd : 0 < d) (h : p ≤ q) : rndQ p d m ≤ rndQ q d m := by
  unfold rndQ
  split
  · exact Int.ediv_le_ediv hd h
  split
  · have := Int.ediv_le_ediv (a := -q) (b := -p) hd (by omega); omega
  · exact Int.ediv_le_ediv (by omega) (by omega)
theorem md_mono {a b c m : Int} (hb : 0 ≤ b) (hc : 1 ≤ c) (h1 : mdE a b c m = 0) (h2 : mdE (a + 1) b c m = 0) : mdX a b c m ≤ mdX (a + 1) b c m := by
  unfold mdE at h1 h2
  unfold mdX
  by_cases hm : m < 1 ∨ 3 < m
  · rw [if_pos hm, if_pos hm]; omega
  rw [if_neg hm] at h1 h2 ⊢
  rw [if_neg (show ¬ c = 0 by omega)] at h1 h2 ⊢
  rw [if_neg hm, if_neg (show ¬ c = 0 by omega)]
  have f1 : fitsB (mulDivR a b c m) = true := by
    cases h : fitsB (mulDivR a b c m) with
    | true => rfl
    | false => rw [h] at h1; simp at h1
  have f2 : fitsB (mulDivR (a + 1) b c m) = true := by
    cases h : fitsB (mulDivR (a + 1) b c m) with
    | true => rfl
    | false => rw [h] at h2; simp at h2
  rw [if_pos f1, if_pos f2]
  unfold mulDivR
  rw [if_neg (by omega), if_neg (by omega)]
  exact rndQ_mono (by omega) (by rw [Int.add_mul]; omega)
theorem satF_bounds (x b : Int) (s : Bool) : -4611686018427387904 ≤ satF x b s ∧ satF x b s ≤ 4611686018427387904 := by
  unfold satF
  split
  · omega
  · have h1 := pow62 (n := (b - 1).toNat) (by omega)
    have h2 := pow62 (n := b.toNat) (by omega)
    split <;> omega
theorem satF_idem (x b : Int) (s : Bool) : satF (satF x b s) b s = satF x b s := by
  unfold satF
  split
  · rfl
  · have h1 := pow62 (n := (b - 1).toNat) (by omega)
    have h2 := pow62 (n := b.toNat) (by omega)
    split <;> omega
theorem satF_mono {x y : Int} (b : Int) (s : Bool) (h : x ≤ y) : satF x b s ≤ satF y b s := by
  unfold satF
  split
  · omega
  · split <;> omega
/-- the root of a number of 63 bits -/
theorem root_all {n : Int} (h : 0 ≤ n) : ∃ r, IsRoot n r := by
  obtain ⟨m, rfl⟩ : ∃ m : Nat, n = m := ⟨n.toNat, by omega⟩
  clear h
  induction m with
  | zero => exact ⟨0, by omega, by omega, by omega⟩
  | succ m ih =>
    obtain ⟨r, h1, h2, h3⟩ := ih
    by_cases h4 : ((m + 1 : Nat) : Int) < (r + 1) * (r + 1)
    · exact ⟨r, h1, by omega, h4⟩
    · refine ⟨r + 1, by omega, by omega, ?_⟩
      have e : (r + 1 + 1) * (r + 1 + 1) = (r + 1) * (r + 1) + 2 * r + 3 := by grind
      omega
theorem rootF_spec {n : Int} (h : 0 ≤ n) : IsRoot n (rootF n) := by
  obtain ⟨r, hr⟩ := root_all h
  rw [rootF_eq hr]; exact hr
theorem rootF_bounds {n : Int} (h : n ≤ 9223372036854775807) : 0 ≤ rootF n ∧ rootF n ≤ 3037000499 := by
  by_cases h0 : n < 0
  · rw [rootF_neg h0]; omega
  · have hr := rootF_spec (n := n) (by omega)
    refine ⟨hr.1, ?_⟩
    have := sq_lt (r := rootF n) (s := 3037000500) hr.1 (by have := hr.2.1; omega) (by omega)
    omega
theorem rootF_mono {x y : Int} (h : x ≤ y) : rootF x ≤ rootF y := by
  by_cases h0 : x < 0
  · rw [rootF_neg h0]
    by_cases h1 : y < 0
    · rw [rootF_neg h1]; omega
    · exact (rootF_spec (n := y) (by omega)).1
  · have h1 := rootF_spec (n := x) (by omega); have h2 := rootF_spec (n := y) (by omega)
    have := sq_lt (r := rootF x) (s := rootF y + 1) h1.1 (by have := h1.2.1; have := h2.2.2; omega) (by have := h2.1; omega)
    omega
theorem shl_one {y : Int} (h0 : 0 ≤ y) (h : y ≤ 62) : IntKind.wrap .i64 (1 * 2 ^ min y.toNat (IntKind.bits .i64)) = 2 ^ y.toNat := by rw [shl_i (.inl rfl) h0 h, Int.one_mul]
theorem shl_neg {y : Int} (h0 : 0 ≤ y) (h : y ≤ 62) : IntKind.wrap .i64 (-1 * 2 ^ min y.toNat (IntKind.bits .i64)) = -(2 ^ y.toNat) := by rw [shl_i (.inr rfl) h0 h, Int.neg_mul, Int.one_mul]
theorem or_bit2 {out bit : Int} {j : Nat} (hb : bit = 2 ^ j) (h0 : 0 ≤ out) (hm : out % 2 ^ (j + 1) = 0) (hj : j ≤ 31) (ho : out ≤ 4294967296) : IntKind.wrap .i64 ((BitVec.ofInt 64 out ||| BitVec.ofInt 64 bit).toNat : Int) = out + bit := by
  subst hb; exact or_bit h0 hm hj ho
theorem pow_zero_of {k : Nat} {bit : Int} (hb : bit = 2 ^ k / 2) (h : ¬ bit > 0) : k = 0 := by
  cases k with
  | zero => rfl
  | succ j => rw [Int.pow_succ] at hb; have : (0 : Int) < 2 ^ j := Int.pow_pos (by omega)
              omega
theorem bne_dec {P Q : Prop} [Decidable P] [Decidable Q] (h : (!(decide P == decide Q)) = true) : ¬ (P ↔ Q) := by
  intro e; simp [e] at h
theorem beq_dec {P Q : Prop} [Decidable P] [Decidable Q] (h : (!(decide P == decide Q)) = false) : P ↔ Q := by
  by_cases hp : P <;> by_cases hq : Q <;> simp [hp, hq] at h ⊢
theorem root_start {n : Int} (h : n ≤ 9223372036854775807) : n < (0 + 2 ^ 32) * (0 + 2 ^ 32) := by
  have : (0 + 2 ^ 32 : Int) * (0 + 2 ^ 32) = 18446744073709551616 := by decide
  omega
theorem root_fin {n low high : Int} (h : low = high) (hu : n < (high + 1) * (high + 1)) : n < (low + 1) * (low + 1) := by rw [h]; exact hu
theorem sq_b {m : Int} (h : 0 ≤ m ∧ m ≤ 3037000499) : 0 ≤ m * m ∧ m * m ≤ 9223372030926249001 := ⟨sq_nonneg m, by have := sq_mono h.1 h.2; omega⟩

theorem hb20 : HasBody Tryd.prog 20 := fun _ _ => by kernel_rfl
noncomputable def K20_0 : List Item := adv 9 [] (bodyOf Tryd.f20)
noncomputable def K20_1 : List Item := adv 2 [] K20_0
noncomputable def K20_2 : List Item := adv 2 [] K20_1
set_option maxRecDepth 20000 in
set_option maxHeartbeats 20000000 in
theorem clamp_any (x lo hi : Int) (w : World) : Ret Tryd.prog 20 #[.int .i64 x, .int .i64 lo, .int .i64 hi] w (fun v w' => v = .int .i64 (min (max x lo) hi) ∧ Sep w [] w') := by
  have S0 := Sep.refl w
  refine Ret.named fun R hR => ?_
  refine Ret.of_J (N := 12) [(0, .int .i64 x), (1, .int .i64 lo), (2, .int .i64 hi)] Tryd.func20 rfl rfl (Nat.le_of_ble_eq_true (by kernel_rfl)) (by kernel_rfl) ?_
  refine J.run 9 K20_0 [(9, .int .i64 (if lo > x then lo else x)), (2, .int .i64 hi)] w (by kernel_rfl) ?_
  refine J.head (.int .i64 (max x lo)) (congrArg (Value.int .i64) (by omega)) ?_
  refine J.run 2 K20_1 [(11, .int .i64 (if hi < (max x lo) then hi else (max x lo)))] w (by kernel_rfl) ?_
  refine J.head (.int .i64 (min (max x lo) hi)) (congrArg (Value.int .i64) (by omega)) ?_
  refine J.run 2 K20_2 [(6, .int .i64 (min (max x lo) hi))] w (by kernel_rfl) ?_
  refine J.ret Tryd.f20 [.int .i64 (min (max x lo) hi)] Tryd.func20 ⟨by kernel_rfl, trivial⟩ ?_
  refine hR _ _ ?_
  exact ⟨rfl, S0.nil⟩

theorem hb11 : HasBody Tryd.prog 11 := fun _ _ => by kernel_rfl
noncomputable def K11_0 : List Item := adv 11 [] (bodyOf Tryd.f11)
noncomputable def K11_1 : List Item := adv 10 [true] K11_0
noncomputable def K11_2 : List Item := adv 5 [] K11_0
noncomputable def K11_3 : List Item := adv 5 [true] K11_2
noncomputable def K11_4 : List Item := adv 6 [false] K11_2
noncomputable def K11_5 : List Item := adv 2 [true] K11_4
noncomputable def K11_6 : List Item := adv 7 [false] K11_4
noncomputable def K11_7 : List Item := adv 1 [] (popK K11_6)
noncomputable def K11_8 : List Item := adv 2 [] (popK K11_7)
set_option maxRecDepth 20000 in
set_option maxHeartbeats 20000000 in
theorem sat_any (x b : Int) (s : Bool) (w : World) (hb : (-9223372036854775808) ≤ b ∧ b ≤ 9223372036854775807) : Ret Tryd.prog 11 #[.int .i64 x, .int .i64 b, .bool s] w (fun v w' => v = .int .i64 (satF x b s) ∧ Sep w [] w') := by
  have S0 := Sep.refl w
  refine Ret.named fun R hR => ?_
  refine Ret.of_J (N := 30) [(0, .int .i64 x), (1, .int .i64 b), (2, .bool s)] Tryd.func11 rfl rfl (Nat.le_of_ble_eq_true (by kernel_rfl)) (by kernel_rfl) ?_
  refine J.run 11 K11_0 [(10, .bool (decide (b < 1))), (0, .int .i64 x), (1, .int .i64 b), (2, .bool s)] w (by kernel_rfl) ?_
  by_cases fk1 : b < 1
  · skip
    refine J.head (.bool true) (congrArg Value.bool (decide_eq_true fk1)) ?_
    refine J.run 10 K11_1 [(6, .int .i64 0)] w (by kernel_rfl) ?_
    refine J.ret Tryd.f11 [.int .i64 0] Tryd.func11 ⟨by kernel_rfl, trivial⟩ ?_
    refine hR _ _ ?_
    exact ⟨congrArg (Value.int .i64) (by unfold satF; rw [if_pos (by omega)]), S0.nil⟩
  · skip
    refine J.head (.bool false) (congrArg Value.bool (decide_eq_false fk1)) ?_
    refine J.run 5 K11_2 [(7, .bool (decide (b > 62))), (0, .int .i64 x), (1, .int .i64 b), (2, .bool s)] w (by kernel_rfl) ?_
    by_cases fk2 : b > 62
    · skip
      refine J.head (.bool true) (congrArg Value.bool (decide_eq_true fk2)) ?_
      refine J.run 5 K11_3 [(6, .int .i64 0)] w (by kernel_rfl) ?_
      refine J.ret Tryd.f11 [.int .i64 0] Tryd.func11 ⟨by kernel_rfl, trivial⟩ ?_
      refine hR _ _ ?_
      exact ⟨congrArg (Value.int .i64) (by unfold satF; rw [if_pos (by omega)]), S0.nil⟩
    · skip
      refine J.head (.bool false) (congrArg Value.bool (decide_eq_false fk2)) ?_
      refine J.run 6 K11_4 [(14, .bool s), (0, .int .i64 x), (1, .int .i64 b)] w (by kernel_rfl) ?_
      rcases Bool.eq_false_or_eq_true s with fk3 | fk3
      · skip
        refine J.head (.bool true) (congrArg Value.bool fk3) ?_
        refine J.run 2 K11_5 [(0, .int .i64 x), (1, .int .i64 b)] w (by kernel_rfl) ?_
        refine J.drawTail S0 8 Tryd.mixed (by kernel_rfl) (by kernel_rfl) ?_
        intro w1 S1
        refine SL.ok (by decide) (OK.run 16 (.int .i64 x) (by kernel_rfl)) ?_
        refine SL.ok (by decide) (OK.run 17 (.int .i64 b) (by kernel_rfl)) ?_
        refine SL.ok (by decide) (OK.run 18 (.int .i64 (IntKind.wrap .i64 (b - 1))) (by kernel_rfl)) ?_
        refine SL.head (.int .i64 (b - 1)) (congrArg (Value.int .i64) (IntWalk.i64_in _ (by omega))) ?_
        have := pow62 (n := (b - 1).toNat) (by omega)
        refine SL.ok (by decide) (OK.shl 19 .i64 (-1) (b - 1) (-(2 ^ (b - 1).toNat)) (by kernel_rfl) (by omega) (shl_neg (by omega) (by omega))) ?_
        refine SL.ok (by decide) (OK.run 20 (.int .i64 b) (by kernel_rfl)) ?_
        refine SL.ok (by decide) (OK.run 21 (.int .i64 (IntKind.wrap .i64 (b - 1))) (by kernel_rfl)) ?_
        refine SL.head (.int .i64 (b - 1)) (congrArg (Value.int .i64) (IntWalk.i64_in _ (by omega))) ?_
        have := pow62 (n := (b - 1).toNat) (by omega)
        refine SL.ok (by decide) (OK.shl 22 .i64 1 (b - 1) (2 ^ (b - 1).toNat) (by kernel_rfl) (by omega) (shl_one (by omega) (by omega))) ?_
        refine SL.ok (by decide) (OK.run 23 (.int .i64 (IntKind.wrap .i64 ((2 ^ (b - 1).toNat) - 1))) (by kernel_rfl)) ?_
        refine SL.head (.int .i64 ((2 ^ (b - 1).toNat) - 1)) (congrArg (Value.int .i64) (IntWalk.i64_in _ (by omega))) ?_
        refine SL.done ?_
        refine TL.callF 24 20 #[.int .i64 x, .int .i64 (-(2 ^ (b - 1).toNat)), .int .i64 ((2 ^ (b - 1).toNat) - 1)] hb20 (by kernel_rfl) (clamp_any x (-(2 ^ (b - 1).toNat)) ((2 ^ (b - 1).toNat) - 1) _) ?_
        rintro _ w2 ⟨rfl, T1⟩
        have S2 : Sep w [] w2 := S1.trans T1
        clear T1 S1
        refine TL.ok (OK.run 6 (.int .i64 (min (max x (-(2 ^ (b - 1).toNat))) ((2 ^ (b - 1).toNat) - 1))) (by kernel_rfl)) ?_
        refine TL.done (by kernel_rfl) ?_
        refine J.run 0 (rRest K11_5) [(6, .int .i64 (min (max x (-(2 ^ (b - 1).toNat))) ((2 ^ (b - 1).toNat) - 1)))] w2 (by kernel_rfl) ?_
        refine J.ret Tryd.f11 [.int .i64 (min (max x (-(2 ^ (b - 1).toNat))) ((2 ^ (b - 1).toNat) - 1))] Tryd.func11 ⟨by kernel_rfl, trivial⟩ ?_
        refine hR _ _ ?_
        exact ⟨congrArg (Value.int .i64) (by unfold satF; rw [if_neg (by omega), fk3]; simp), S2.nil⟩
      · skip
        refine J.head (.bool false) (congrArg Value.bool fk3) ?_
        refine J.run 7 K11_6 [(26, .int .i64 b), (25, .int .i64 x)] w (by kernel_rfl) ?_
        have := pow62 (n := (b).toNat) (by omega)
        refine J.ok (OK.shl 27 .i64 1 b (2 ^ (b).toNat) (by kernel_rfl) (by omega) (shl_one (by omega) (by omega))) ?_
        refine J.run 1 K11_7 [(28, .int .i64 (IntKind.wrap .i64 ((2 ^ (b).toNat) - 1))), (25, .int .i64 x)] w (by kernel_rfl) ?_
        refine J.head (.int .i64 ((2 ^ (b).toNat) - 1)) (congrArg (Value.int .i64) (IntWalk.i64_in _ (by omega))) ?_
        refine J.callF 29 20 #[.int .i64 x, .int .i64 0, .int .i64 ((2 ^ (b).toNat) - 1)] hb20 (by kernel_rfl) (clamp_any x 0 ((2 ^ (b).toNat) - 1) _) ?_
        rintro _ w3 ⟨rfl, T2⟩
        have S3 : Sep w [] w3 := S0.trans T2
        clear T2
        refine J.run 2 K11_8 [(6, .int .i64 (min (max x 0) ((2 ^ (b).toNat) - 1)))] w3 (by kernel_rfl) ?_
        refine J.ret Tryd.f11 [.int .i64 (min (max x 0) ((2 ^ (b).toNat) - 1))] Tryd.func11 ⟨by kernel_rfl, trivial⟩ ?_
        refine hR _ _ ?_
        exact ⟨congrArg (Value.int .i64) (by unfold satF; rw [if_neg (by omega), fk3]; simp), S3.nil⟩

theorem hb9 : HasBody Tryd.prog 9 := fun _ _ => by kernel_rfl
noncomputable def K9_0 : List Item := adv 10 [] (bodyOf Tryd.f9)
noncomputable def K9_1 : List Item := adv 5 [] (popK K9_0)
set_option maxRecDepth 20000 in
set_option maxHeartbeats 20000000 in
theorem div_any (a b m : Int) (w : World) (ha : (-9223372036854775808) ≤ a ∧ a ≤ 9223372036854775807) (hb : (-9223372036854775808) ≤ b ∧ b ≤ 9223372036854775807) : Ret Tryd.prog 9 #[.int .i64 a, .int .i64 b, .int .i64 m] w (fun v w' => v = .tuple #[.int .i64 (mdX a 1 b m), .int .i64 (mdE a 1 b m)] ∧ Sep w [] w') := by
  have S0 := Sep.refl w
  refine Ret.named fun R hR => ?_
  refine Ret.of_J (N := 14) [(0, .int .i64 a), (1, .int .i64 b), (2, .int .i64 m)] Tryd.func9 rfl rfl (Nat.le_of_ble_eq_true (by kernel_rfl)) (by kernel_rfl) ?_
  refine J.run 10 K9_0 [(10, .int .i64 m), (9, .int .i64 b), (8, .int .i64 a)] w (by kernel_rfl) ?_
  refine J.callF 11 10 #[.int .i64 a, .int .i64 1, .int .i64 b, .int .i64 m] hb10 (by kernel_rfl) (muldiv_any a 1 b m _ (by omega) (by omega) (by omega)) ?_
  rintro _ w1 ⟨rfl, T1⟩
  have S1 : Sep w [] w1 := S0.trans T1
  clear T1
  have := mdX_bounds a 1 b m
  refine J.run 5 K9_1 [(7, .int .i64 (mdE a 1 b m)), (6, .int .i64 (mdX a 1 b m))] w1 (by kernel_rfl) ?_
  refine J.ret Tryd.f9 [.int .i64 (mdX a 1 b m), .int .i64 (mdE a 1 b m)] Tryd.func9 ⟨by kernel_rfl, by kernel_rfl, trivial⟩ ?_
  refine hR _ _ ?_
  exact ⟨rfl, S1.nil⟩

theorem hb12 : HasBody Tryd.prog 12 := fun _ _ => by kernel_rfl
noncomputable def K12_0 : List Item := adv 10 [] (bodyOf Tryd.f12)
noncomputable def K12_1 : List Item := adv 5 [true] K12_0
noncomputable def K12_2 : List Item := adv 13 [false] K12_0
noncomputable def K12_3 : List Item := adv 6 [] K12_2
noncomputable def K12_4 : List Item := adv 9 [true] K12_3
noncomputable def K12_5 : List Item := adv 1 [] K12_4
noncomputable def K12_6 : List Item := adv 7 [] K12_5
noncomputable def K12_7 : List Item := adv 2 [] K12_6
noncomputable def K12_8 : List Item := adv 2 [] K12_7
noncomputable def K12_9 : List Item := adv 5 [true] K12_8
noncomputable def K12_10 : List Item := adv 6 [] K12_9
noncomputable def K12_11 : List Item := adv 6 [false] K12_8
noncomputable def K12_12 : List Item := adv 7 [false] K12_3
set_option maxRecDepth 20000 in
set_option maxHeartbeats 20000000 in
theorem root_any (n : Int) (w : World) (hn : (-9223372036854775808) ≤ n ∧ n ≤ 9223372036854775807) : Ret Tryd.prog 12 #[.int .i64 n] w (fun v w' => v = .int .i64 (rootF n) ∧ Sep w [] w') := by
  have S0 := Sep.refl w
  refine Ret.named fun R hR => ?_
  refine Ret.of_J (N := 26) [(0, .int .i64 n)] Tryd.func12 rfl rfl (Nat.le_of_ble_eq_true (by kernel_rfl)) (by kernel_rfl) ?_
  refine J.run 10 K12_0 [(7, .bool (decide (n ≤ 0))), (0, .int .i64 n)] w (by kernel_rfl) ?_
  by_cases fk1 : n ≤ 0
  · skip
    refine J.head (.bool true) (congrArg Value.bool (decide_eq_true fk1)) ?_
    refine J.run 5 K12_1 [(2, .int .i64 0)] w (by kernel_rfl) ?_
    refine J.ret Tryd.f12 [.int .i64 0] Tryd.func12 ⟨by kernel_rfl, trivial⟩ ?_
    refine hR _ _ ?_
    exact ⟨congrArg (Value.int .i64) (by rcases (show n < 0 ∨ n = 0 by omega) with h | h; exact (rootF_neg h).symm; subst h; exact rootF_zero.symm), S0.nil⟩
  · skip
    refine J.head (.bool false) (congrArg Value.bool (decide_eq_false fk1)) ?_
    refine J.run 13 K12_2 [(4, .int .i64 2147483648), (3, .int .i64 0), (0, .int .i64 n)] w (by kernel_rfl) ?_
    have L12_1 : ∀ (mm_ : Nat) (out : Int) (bit : Int) (k : Nat) (w1 : World), (bit = 2 ^ k / 2) → (k ≤ 32) → (out % 2 ^ k = 0) → (0 ≤ out ∧ out + 2 ^ k ≤ 4294967296) → (out * out ≤ n) → (n < (out + 2 ^ k) * (out + 2 ^ k)) → Sep w [] w1 → k = mm_ → J Tryd.prog 12 26 R K12_2 [(4, .int .i64 bit), (3, .int .i64 out), (0, .int .i64 n)] w1 := by
      intro mm1
      induction mm1 using Nat.strongRecOn with
      | _ mm1 ih1 =>
      intro out bit k w1 hb hk hm ho hl hu S1 hm1
      refine J.run 6 K12_3 [(9, .bool (decide (bit > 0))), (4, .int .i64 bit), (3, .int .i64 out), (0, .int .i64 n)] w1 (by kernel_rfl) ?_
      by_cases fk2 : bit > 0
      · skip
        refine J.head (.bool true) (congrArg Value.bool (decide_eq_true fk2)) ?_
        obtain ⟨j, hj1, hj2⟩ := pow_half hb fk2
        subst hj1
        have hp1 : (2 : Int) ^ (j + 1) = 2 * 2 ^ j := by rw [Int.pow_succ]; omega
        have hsq := mul32 (a := out + bit) (b := out + bit) (by omega) (by omega)
        refine J.run 9 K12_4 [(14, .int .i64 (IntKind.wrap .i64 ((BitVec.ofInt 64 out ||| (BitVec.ofInt 64 bit)).toNat : Int))), (4, .int .i64 bit), (3, .int .i64 out), (0, .int .i64 n)] w1 (by kernel_rfl) ?_
        refine J.head (.int .i64 (out + bit)) (congrArg (Value.int .i64) (or_bit2 hj2 (by omega) hm (by omega) (by omega))) ?_
        refine J.run 1 K12_5 [(15, .int .u64 (IntKind.wrap .u64 (out + bit))), (4, .int .i64 bit), (3, .int .i64 out), (0, .int .i64 n)] w1 (by kernel_rfl) ?_
        refine J.head (.int .u64 (out + bit)) (congrArg (Value.int .u64) (IntWalk.u64_in _ (by omega))) ?_
        refine J.run 7 K12_6 [(18, .int .u64 (IntKind.wrap .u64 ((out + bit) * (out + bit)))), (4, .int .i64 bit), (3, .int .i64 out), (0, .int .i64 n)] w1 (by kernel_rfl) ?_
        refine J.head (.int .u64 ((out + bit) * (out + bit))) (congrArg (Value.int .u64) (IntWalk.u64_in _ (by omega))) ?_
        refine J.run 2 K12_7 [(20, .int .u64 (IntKind.wrap .u64 n)), (18, .int .u64 ((out + bit) * (out + bit))), (4, .int .i64 bit), (3, .int .i64 out), (0, .int .i64 n)] w1 (by kernel_rfl) ?_
        refine J.head (.int .u64 n) (congrArg (Value.int .u64) (IntWalk.u64_in _ (by omega))) ?_
        refine J.run 2 K12_8 [(21, .bool (decide (((out + bit) * (out + bit)) ≤ n))), (4, .int .i64 bit), (3, .int .i64 out), (0, .int .i64 n)] w1 (by kernel_rfl) ?_
        by_cases fk3 : ((out + bit) * (out + bit)) ≤ n
        · skip
          refine J.head (.bool true) (congrArg Value.bool (decide_eq_true fk3)) ?_
          refine J.run 5 K12_9 [(24, .int .i64 (IntKind.wrap .i64 ((BitVec.ofInt 64 out ||| (BitVec.ofInt 64 bit)).toNat : Int))), (4, .int .i64 bit), (0, .int .i64 n)] w1 (by kernel_rfl) ?_
          refine J.head (.int .i64 (out + bit)) (congrArg (Value.int .i64) (or_bit2 hj2 (by omega) hm (by omega) (by omega))) ?_
          refine J.run 6 K12_10 [(11, .int .i64 (Int.fdiv bit (2 ^ 1))), (3, .int .i64 (out + bit)), (0, .int .i64 n)] w1 (by kernel_rfl) ?_
          refine J.head (.int .i64 (bit / 2)) (congrArg (Value.int .i64) (shr_lit _ _ (by decide))) ?_
          refine J.run 3 K12_2 [(4, .int .i64 (bit / 2)), (3, .int .i64 (out + bit)), (0, .int .i64 n)] w1 (by kernel_rfl) ?_
          refine J.run 0 K12_2 [(4, .int .i64 (bit / 2)), (3, .int .i64 (out + bit)), (0, .int .i64 n)] w1 (by kernel_rfl) ?_
          exact ih1 _ (show j < mm1 from by omega) (out + bit) (bit / 2) j w1 (by rw [hj2]) (by omega) (by rw [hj2]; exact (mod_half hm).2) (by omega) (by omega) (by rw [show out + bit + 2 ^ j = out + 2 ^ (j + 1) by omega]; exact hu) S1 rfl
        · skip
          refine J.head (.bool false) (congrArg Value.bool (decide_eq_false fk3)) ?_
          refine J.run 6 K12_11 [(11, .int .i64 (Int.fdiv bit (2 ^ 1))), (3, .int .i64 out), (0, .int .i64 n)] w1 (by kernel_rfl) ?_
          refine J.head (.int .i64 (bit / 2)) (congrArg (Value.int .i64) (shr_lit _ _ (by decide))) ?_
          refine J.run 3 K12_2 [(4, .int .i64 (bit / 2)), (3, .int .i64 out), (0, .int .i64 n)] w1 (by kernel_rfl) ?_
          refine J.run 0 K12_2 [(4, .int .i64 (bit / 2)), (3, .int .i64 out), (0, .int .i64 n)] w1 (by kernel_rfl) ?_
          exact ih1 _ (show j < mm1 from by omega) out (bit / 2) j w1 (by rw [hj2]) (by omega) ((mod_half hm).1) (by omega) (by omega) (by rw [← hj2]; omega) S1 rfl
      · skip
        refine J.head (.bool false) (congrArg Value.bool (decide_eq_false fk2)) ?_
        refine J.run 7 K12_12 [(2, .int .i64 out)] w1 (by kernel_rfl) ?_
        refine J.ret Tryd.f12 [.int .i64 out] Tryd.func12 ⟨by kernel_rfl, trivial⟩ ?_
        refine hR _ _ ?_
        have hk0 := pow_zero_of hb fk2
        subst hk0
        exact ⟨congrArg (Value.int .i64) (rootF_eq ⟨ho.1, hl, by simpa using hu⟩).symm, S1.nil⟩
    exact L12_1 _ 0 2147483648 32 w (by decide) (by omega) (by decide) (by decide) (by omega) (root_start (by omega)) S0 rfl

end Go.Proofs.YtfmcbmoinkibkaaDoor
