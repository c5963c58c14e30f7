/- Walks of functions of this seat, printed by a program over the engine. Conditions: as each theorem says. -/
import Derived.Test.YtadgnficogeheaaGreatDoorProg
import Derived.Test.YtadgnficogeheaaGreatDoorZsEng9
namespace Go.Proofs.YtadgnficogeheaaGreatDoor
noncomputable section
open Go.Eng Go.RowKit
set_option linter.unusedSimpArgs false
set_option linter.unusedVariables false
theorem Tryz.mixed : Tryz.prog.follows .mixedOrders = true := by kernel_rfl
def lenTab : ByteArray := ⟨#[0, 1, 2, 2, 3, 3, 3, 3, 4, 4, 4, 4, 4, 4, 4, 4, 5, 5, 5, 5, 5, 5, 5, 5, 5, 5, 5, 5, 5, 5, 5, 5, 6, 6, 6, 6, 6, 6, 6, 6, 6, 6, 6, 6, 6, 6, 6, 6, 6, 6, 6, 6, 6, 6, 6, 6, 6, 6, 6, 6, 6, 6, 6, 6, 7, 7, 7, 7, 7, 7, 7, 7, 7, 7, 7, 7, 7, 7, 7, 7, 7, 7, 7, 7, 7, 7, 7, 7, 7, 7, 7, 7, 7, 7, 7, 7, 7, 7, 7, 7, 7, 7, 7, 7, 7, 7, 7, 7, 7, 7, 7, 7, 7, 7, 7, 7, 7, 7, 7, 7, 7, 7, 7, 7, 7, 7, 7, 7, 8, 8, 8, 8, 8, 8, 8, 8, 8, 8, 8, 8, 8, 8, 8, 8, 8, 8, 8, 8, 8, 8, 8, 8, 8, 8, 8, 8, 8, 8, 8, 8, 8, 8, 8, 8, 8, 8, 8, 8, 8, 8, 8, 8, 8, 8, 8, 8, 8, 8, 8, 8, 8, 8, 8, 8, 8, 8, 8, 8, 8, 8, 8, 8, 8, 8, 8, 8, 8, 8, 8, 8, 8, 8, 8, 8, 8, 8, 8, 8, 8, 8, 8, 8, 8, 8, 8, 8, 8, 8, 8, 8, 8, 8, 8, 8, 8, 8, 8, 8, 8, 8, 8, 8, 8, 8, 8, 8, 8, 8, 8, 8, 8, 8, 8, 8, 8, 8, 8, 8, 8, 8, 8, 8, 8, 8, 8, 8]⟩
/-- the number of bits -/
def lenF (n : Int) : Int := if n = 0 then 0 else ((Nat.log2 n.toNat + 1 : Nat) : Int)
theorem lenF_eq {n : Int} {k : Nat} (h1 : 2 ^ k ≤ n) (h2 : n < 2 ^ (k + 1)) : lenF n = k + 1 := by
  have hp : (0 : Int) < 2 ^ k := Int.pow_pos (by omega)
  obtain ⟨m, rfl⟩ : ∃ m : Nat, n = m := ⟨n.toNat, by omega⟩
  have h3 : 2 ^ k ≤ m := by exact_mod_cast h1
  have h4 : m < 2 ^ (k + 1) := by exact_mod_cast h2
  unfold lenF
  rw [if_neg (by omega), Int.toNat_natCast, (Nat.log2_eq_iff (by omega)).2 ⟨h3, h4⟩]
  omega
theorem lenF_spec {n : Int} (h : 0 < n) : ∃ k : Nat, lenF n = k + 1 ∧ 2 ^ k ≤ n ∧ n < 2 ^ (k + 1) := by
  obtain ⟨m, rfl⟩ : ∃ m : Nat, n = m := ⟨n.toNat, by omega⟩
  have := (Nat.log2_eq_iff (n := m) (by omega) (k := m.log2)).1 rfl
  refine ⟨m.log2, ?_, by exact_mod_cast this.1, by exact_mod_cast this.2⟩
  unfold lenF
  rw [if_neg (by omega), Int.toNat_natCast]; omega
theorem lenF_shift {n : Int} (k : Nat) (h : 2 ^ k ≤ n) : lenF n = k + lenF (n / 2 ^ k) := by
  have hp : (0 : Int) < 2 ^ k := Int.pow_pos (by omega)
  have h1 : 1 ≤ n / 2 ^ k := (Int.le_ediv_iff_mul_le hp).2 (by rw [Int.one_mul]; exact h)
  obtain ⟨j, e, h2, h3⟩ := lenF_spec (n := n / 2 ^ k) (by omega)
  rw [e, lenF_eq (k := k + j)]
  · omega
  · rw [Int.pow_add]; have := (Int.le_ediv_iff_mul_le hp).1 h2; rw [Int.mul_comm]; exact this
  · have := (Int.ediv_lt_iff_lt_mul hp).1 h3
    rw [show k + j + 1 = j + 1 + k by omega, Int.pow_add]; exact this
theorem len8 : ∀ i : Fin 256, byteAt lenTab i.val = lenF (i.val : Int) := by decide +kernel
theorem len8' {i : Int} (h : 0 ≤ i) (h2 : i < 256) : byteAt lenTab i.toNat = lenF i := by
  have := len8 ⟨i.toNat, by omega⟩
  simp only at this
  rw [this, Int.toNat_of_nonneg h]
theorem lenF_bounds {i : Int} (h : 0 ≤ i) (h2 : i < 18446744073709551616) : 0 ≤ lenF i ∧ lenF i ≤ 64 := by
  by_cases h0 : i = 0
  · subst h0; decide
  · obtain ⟨k, e, h3, _⟩ := lenF_spec (n := i) (by omega)
    have : k ≤ 63 := by
      rcases Nat.lt_or_ge 63 k with h4 | h4
      · have : (2 : Int) ^ 64 ≤ 2 ^ k := by exact_mod_cast Nat.pow_le_pow_right (by omega) h4
        omega
      · exact h4
    omega
theorem lenF_small {i : Int} (h : 0 ≤ i) (h2 : i < 256) : 0 ≤ lenF i ∧ lenF i ≤ 8 := by
  rw [← len8' h h2]
  have := byteAt_bounds lenTab i.toNat
  by_cases h0 : i = 0
  · subst h0; decide +kernel
  · rw [len8' h h2]
    obtain ⟨k, e, h3, _⟩ := lenF_spec (n := i) (by omega)
    have : k ≤ 7 := by
      rcases Nat.lt_or_ge 7 k with h4 | h4
      · have : (2 : Int) ^ 8 ≤ 2 ^ k := by exact_mod_cast Nat.pow_le_pow_right (by omega) h4
        omega
      · exact h4
    omega

/-- the absolute value -/
def magF (n : Int) : Int := (n.natAbs : Int)
theorem wrap_u64 (n : Int) : IntKind.wrap .u64 n = n % 18446744073709551616 := by simp [IntKind.wrap, IntKind.bits, IntKind.signed]
def rndB (r c : Int) (neg : Bool) (mode : Int) : Bool := if mode = 1 then neg && decide (0 < r) else if mode = 2 then !neg && decide (0 < r) else if neg then decide (c - r < r) else decide (c - r ≤ r)
theorem mul64 {x y : Int} (hx : 0 ≤ x ∧ x ≤ 18446744073709551615) (hy : 0 ≤ y ∧ y ≤ 18446744073709551615) :
    (0 ≤ (x % 4294967296) * (y % 4294967296) ∧ (x % 4294967296) * (y % 4294967296) ≤ 18446744065119617025) ∧
    (0 ≤ (x / 4294967296) * (y % 4294967296) ∧ (x / 4294967296) * (y % 4294967296) ≤ 18446744065119617025) ∧
    (0 ≤ (x % 4294967296) * (y / 4294967296) ∧ (x % 4294967296) * (y / 4294967296) ≤ 18446744065119617025) ∧
    (0 ≤ (x / 4294967296) * (y / 4294967296) ∧ (x / 4294967296) * (y / 4294967296) ≤ 18446744065119617025) ∧
    (0 ≤ x * y ∧ x * y ≤ 340282366920938463426481119284349108225) ∧
    x * y = (x / 4294967296) * (y / 4294967296) * 18446744073709551616 + ((x / 4294967296) * (y % 4294967296) + (x % 4294967296) * (y / 4294967296)) * 4294967296 + (x % 4294967296) * (y % 4294967296) := by
  have hb : ∀ {a b : Int}, 0 ≤ a ∧ a ≤ 4294967295 → 0 ≤ b ∧ b ≤ 4294967295 → 0 ≤ a * b ∧ a * b ≤ 18446744065119617025 := fun ha hb =>
    ⟨Int.mul_nonneg ha.1 hb.1, Int.le_trans (Int.mul_le_mul ha.2 hb.2 hb.1 (by omega)) (by decide)⟩
  refine ⟨hb (by omega) (by omega), hb (by omega) (by omega), hb (by omega) (by omega), hb (by omega) (by omega), ⟨Int.mul_nonneg hx.1 hy.1, Int.le_trans (Int.mul_le_mul hx.2 hy.2 hy.1 (by omega)) (by decide)⟩, ?_⟩
  have e1 : x = x / 4294967296 * 4294967296 + x % 4294967296 := by omega
  have e2 : y = y / 4294967296 * 4294967296 + y % 4294967296 := by omega
  generalize x / 4294967296 = a at *
  generalize y / 4294967296 = b at *
  generalize x % 4294967296 = c at *
  generalize y % 4294967296 = d at *
  subst e1 e2
  grind
theorem mul32 {a b : Int} (ha : 0 ≤ a ∧ a ≤ 4294967295) (hb : 0 ≤ b ∧ b ≤ 4294967295) : 0 ≤ a * b ∧ a * b ≤ 18446744065119617025 :=
    ⟨Int.mul_nonneg ha.1 hb.1, Int.le_trans (Int.mul_le_mul ha.2 hb.2 hb.1 (by omega)) (by decide)⟩
theorem hb109 : HasBody Tryz.prog 109 := fun _ _ => by kernel_rfl
def K109_0 := adv 10 [] (bodyOf Tryz.f109)
def K109_1 := adv 5 [true] K109_0
def K109_2 := adv 1 [] K109_1
def K109_3 := adv 1 [] K109_2
def K109_4 := adv 1 [] K109_3
def K109_5 := adv 2 [] K109_4
def K109_6 := adv 6 [false] K109_0
def K109_7 := adv 2 [] K109_6
set_option maxRecDepth 20000 in
set_option maxHeartbeats 20000000 in
theorem mag_any (n : Int) (w : World) (hn : (-9223372036854775808) ≤ n ∧ n ≤ 9223372036854775807) : Ret Tryz.prog 109 #[.int .i64 n] w (fun v w' => v = .int .u64 (magF n) ∧ Sep w [] w') := by
 have S0 := Sep.refl w
 refine Ret.named fun R hR => ?_
 refine Ret.of_J (N := 12) [(0, .int .i64 n)] Tryz.func109 rfl rfl (Nat.le_of_ble_eq_true (by kernel_rfl)) (by kernel_rfl) ?_
 refine J.run 10 K109_0 [(4, .bool (decide (n < 0))), (0, .int .i64 n)] w (by kernel_rfl) ?_
 by_cases fk1 : n < 0
 rotate_left
 ·skip
  refine J.head (.bool false) (congrArg Value.bool (decide_eq_false fk1)) ?_
  refine J.run 6 K109_6 [(11, .int .u64 (IntKind.wrap .u64 n))] w (by kernel_rfl) ?_
  refine J.head (.int .u64 n) (congrArg (Value.int .u64) (IntWalk.u64_in _ (by omega))) ?_
  refine J.run 2 K109_7 [(2, .int .u64 n)] w (by kernel_rfl) ?_
  refine J.ret Tryz.f109 [.int .u64 n] Tryz.func109 ⟨by kernel_rfl, trivial⟩ ?_
  refine hR _ _ ?_
  exact ⟨by rw [tup_one]; exact congrArg (Value.int .u64) (by (try simp only [wrap_u64]); unfold magF; omega), S0.nil⟩
 refine J.head (.bool true) (congrArg Value.bool (decide_eq_true fk1)) ?_
 refine J.run 5 K109_1 [(6, .int .i64 (IntKind.wrap .i64 (n + 1)))] w (by kernel_rfl) ?_
 refine J.head (.int .i64 (n + 1)) (congrArg (Value.int .i64) (IntWalk.i64_in _ (by omega))) ?_
 refine J.run 1 K109_2 [(7, .int .i64 (IntKind.wrap .i64 (0 - (n + 1))))] w (by kernel_rfl) ?_
 refine J.head (.int .i64 (0 - (n + 1))) (congrArg (Value.int .i64) (IntWalk.i64_in _ (by omega))) ?_
 refine J.run 1 K109_3 [(8, .int .u64 (IntKind.wrap .u64 (0 - (n + 1))))] w (by kernel_rfl) ?_
 refine J.head (.int .u64 (0 - (n + 1))) (congrArg (Value.int .u64) (IntWalk.u64_in _ (by omega))) ?_
 refine J.run 1 K109_4 [(9, .int .u64 (IntKind.wrap .u64 ((0 - (n + 1)) + 1)))] w (by kernel_rfl) ?_
 refine J.head (.int .u64 ((0 - (n + 1)) + 1)) (congrArg (Value.int .u64) (IntWalk.u64_in _ (by omega))) ?_
 refine J.run 2 K109_5 [(2, .int .u64 ((0 - (n + 1)) + 1))] w (by kernel_rfl) ?_
 refine J.ret Tryz.f109 [.int .u64 ((0 - (n + 1)) + 1)] Tryz.func109 ⟨by kernel_rfl, trivial⟩ ?_
 refine hR _ _ ?_
 exact ⟨by rw [tup_one]; exact congrArg (Value.int .u64) (by (try simp only [wrap_u64]); unfold magF; omega), S0.nil⟩

theorem mag_le (n : Int) (h : -9223372036854775808 ≤ n ∧ n ≤ 9223372036854775807) : 0 ≤ magF n ∧ magF n ≤ 9223372036854775808 ∧ (n = 0 ∨ 1 ≤ magF n) := by unfold magF; omega
theorem hb111 : HasBody Tryz.prog 111 := fun _ _ => by kernel_rfl
def K111_0 := adv 15 [] (bodyOf Tryz.f111)
def K111_1 := adv 5 [true] K111_0
def K111_2 := adv 5 [] K111_1
def K111_3 := adv 5 [] K111_1
def K111_4 := adv 6 [false] K111_0
def K111_5 := adv 6 [true] K111_4
def K111_6 := adv 5 [] K111_5
def K111_7 := adv 5 [] K111_5
def K111_8 := adv 8 [false] K111_4
def K111_9 := adv 7 [true] K111_8
def K111_10 := adv 3 [] K111_9
def K111_11 := adv 8 [false] K111_8
def K111_12 := adv 3 [] K111_11
set_option maxRecDepth 20000 in
set_option maxHeartbeats 20000000 in
theorem rounded_any (r c : Int) (neg : Bool) (mode : Int) (w : World) (hr : 0 ≤ r ∧ r ≤ c ∧ c ≤ 9223372036854775808) : Ret Tryz.prog 111 #[.int .u64 r, .int .u64 c, .bool neg, .int .i64 mode] w (fun v w' => v = .bool (rndB r c neg mode) ∧ Sep w [] w') := by
 have S0 := Sep.refl w
 refine Ret.named fun R hR => ?_
 refine Ret.of_J (N := 36) [(0, .int .u64 r), (1, .int .u64 c), (2, .bool neg), (3, .int .i64 mode)] Tryz.func111 rfl rfl (Nat.le_of_ble_eq_true (by kernel_rfl)) (by kernel_rfl) ?_
 refine J.run 15 K111_0 [(10, .bool (mode == 1)), (9, .int .i64 mode), (0, .int .u64 r), (1, .int .u64 c), (2, .bool neg)] w (by kernel_rfl) ?_
 by_cases fk1 : mode = 1
 ·skip
  refine J.head (.bool true) (congrArg Value.bool (beq_iff_eq.2 fk1)) ?_
  refine J.run 5 K111_1 [(13, .bool neg), (0, .int .u64 r)] w (by kernel_rfl) ?_
  rcases Bool.eq_false_or_eq_true neg with fk2 | fk2
  rotate_left
  ·skip
   refine J.head (.bool false) (congrArg Value.bool fk2) ?_
   refine J.run 5 K111_3 [(8, .bool false)] w (by kernel_rfl) ?_
   refine J.ret Tryz.f111 [.bool false] Tryz.func111 ⟨by kernel_rfl, trivial⟩ ?_
   refine hR _ _ ?_
   exact ⟨by (try simp only [rndB, gt_iff_lt, ge_iff_le, tup_one, tup_two, tup_three, (beq_iff_eq.2 fk1), (beq_iff_eq.2 (Eq.symm fk1)), (Eq.symm fk1)]) <;> simp [rndB, gt_iff_lt, ge_iff_le, tup_one, tup_two, tup_three, (beq_iff_eq.2 fk1), (beq_iff_eq.2 (Eq.symm fk1)), (Eq.symm fk1), fk2], S0.nil⟩
  refine J.head (.bool true) (congrArg Value.bool fk2) ?_
  refine J.run 5 K111_2 [(8, .bool (decide (r > 0)))] w (by kernel_rfl) ?_
  refine J.ret Tryz.f111 [.bool (decide (r > 0))] Tryz.func111 ⟨by kernel_rfl, trivial⟩ ?_
  refine hR _ _ ?_
  exact ⟨by (try simp only [rndB, gt_iff_lt, ge_iff_le, tup_one, tup_two, tup_three, (beq_iff_eq.2 fk1), (beq_iff_eq.2 (Eq.symm fk1)), (Eq.symm fk1)]) <;> simp [rndB, gt_iff_lt, ge_iff_le, tup_one, tup_two, tup_three, (beq_iff_eq.2 fk1), (beq_iff_eq.2 (Eq.symm fk1)), (Eq.symm fk1), fk2], S0.nil⟩
 refine J.head (.bool false) (congrArg Value.bool (beq_eq_false_iff_ne.2 fk1)) ?_
 refine J.run 6 K111_4 [(17, .bool (mode == 2)), (0, .int .u64 r), (1, .int .u64 c), (2, .bool neg)] w (by kernel_rfl) ?_
 by_cases fk3 : mode = 2
 ·skip
  refine J.head (.bool true) (congrArg Value.bool (beq_iff_eq.2 fk3)) ?_
  refine J.run 6 K111_5 [(21, .bool (!neg)), (0, .int .u64 r)] w (by kernel_rfl) ?_
  rcases Bool.eq_false_or_eq_true neg with fk4 | fk4
  ·skip
   refine J.head (.bool false) (congrArg Value.bool (by rw [fk4]; rfl)) ?_
   refine J.run 5 K111_6 [(8, .bool false)] w (by kernel_rfl) ?_
   refine J.ret Tryz.f111 [.bool false] Tryz.func111 ⟨by kernel_rfl, trivial⟩ ?_
   refine hR _ _ ?_
   exact ⟨by (try simp only [rndB, gt_iff_lt, ge_iff_le, tup_one, tup_two, tup_three, fk1, (beq_eq_false_iff_ne.2 fk1), (beq_eq_false_iff_ne.2 (Ne.symm fk1)), (beq_iff_eq.2 fk3), (beq_iff_eq.2 (Eq.symm fk3)), (Eq.symm fk3)]) <;> simp [rndB, gt_iff_lt, ge_iff_le, tup_one, tup_two, tup_three, fk1, (beq_eq_false_iff_ne.2 fk1), (beq_eq_false_iff_ne.2 (Ne.symm fk1)), (beq_iff_eq.2 fk3), (beq_iff_eq.2 (Eq.symm fk3)), (Eq.symm fk3), fk4], S0.nil⟩
  refine J.head (.bool true) (congrArg Value.bool (by rw [fk4]; rfl)) ?_
  refine J.run 5 K111_7 [(8, .bool (decide (r > 0)))] w (by kernel_rfl) ?_
  refine J.ret Tryz.f111 [.bool (decide (r > 0))] Tryz.func111 ⟨by kernel_rfl, trivial⟩ ?_
  refine hR _ _ ?_
  exact ⟨by (try simp only [rndB, gt_iff_lt, ge_iff_le, tup_one, tup_two, tup_three, fk1, (beq_eq_false_iff_ne.2 fk1), (beq_eq_false_iff_ne.2 (Ne.symm fk1)), (beq_iff_eq.2 fk3), (beq_iff_eq.2 (Eq.symm fk3)), (Eq.symm fk3)]) <;> simp [rndB, gt_iff_lt, ge_iff_le, tup_one, tup_two, tup_three, fk1, (beq_eq_false_iff_ne.2 fk1), (beq_eq_false_iff_ne.2 (Ne.symm fk1)), (beq_iff_eq.2 fk3), (beq_iff_eq.2 (Eq.symm fk3)), (Eq.symm fk3), fk4], S0.nil⟩
 refine J.head (.bool false) (congrArg Value.bool (beq_eq_false_iff_ne.2 fk3)) ?_
 refine J.run 8 K111_8 [(25, .bool neg), (0, .int .u64 r), (1, .int .u64 c)] w (by kernel_rfl) ?_
 rcases Bool.eq_false_or_eq_true neg with fk5 | fk5
 ·skip
  refine J.head (.bool true) (congrArg Value.bool fk5) ?_
  refine J.run 7 K111_9 [(29, .int .u64 (IntKind.wrap .u64 (c - r))), (26, .int .u64 r)] w (by kernel_rfl) ?_
  refine J.head (.int .u64 (c - r)) (congrArg (Value.int .u64) (IntWalk.u64_in _ (by omega))) ?_
  refine J.run 3 K111_10 [(8, .bool (decide (r > (c - r))))] w (by kernel_rfl) ?_
  refine J.ret Tryz.f111 [.bool (decide (r > (c - r)))] Tryz.func111 ⟨by kernel_rfl, trivial⟩ ?_
  refine hR _ _ ?_
  exact ⟨by (try simp only [rndB, gt_iff_lt, ge_iff_le, tup_one, tup_two, tup_three, fk1, (beq_eq_false_iff_ne.2 fk1), (beq_eq_false_iff_ne.2 (Ne.symm fk1)), fk3, (beq_eq_false_iff_ne.2 fk3), (beq_eq_false_iff_ne.2 (Ne.symm fk3))]) <;> simp [rndB, gt_iff_lt, ge_iff_le, tup_one, tup_two, tup_three, fk1, (beq_eq_false_iff_ne.2 fk1), (beq_eq_false_iff_ne.2 (Ne.symm fk1)), fk3, (beq_eq_false_iff_ne.2 fk3), (beq_eq_false_iff_ne.2 (Ne.symm fk3)), fk5], S0.nil⟩
 refine J.head (.bool false) (congrArg Value.bool fk5) ?_
 refine J.run 8 K111_11 [(34, .int .u64 (IntKind.wrap .u64 (c - r))), (31, .int .u64 r)] w (by kernel_rfl) ?_
 refine J.head (.int .u64 (c - r)) (congrArg (Value.int .u64) (IntWalk.u64_in _ (by omega))) ?_
 refine J.run 3 K111_12 [(8, .bool (decide (r ≥ (c - r))))] w (by kernel_rfl) ?_
 refine J.ret Tryz.f111 [.bool (decide (r ≥ (c - r)))] Tryz.func111 ⟨by kernel_rfl, trivial⟩ ?_
 refine hR _ _ ?_
 exact ⟨by (try simp only [rndB, gt_iff_lt, ge_iff_le, tup_one, tup_two, tup_three, fk1, (beq_eq_false_iff_ne.2 fk1), (beq_eq_false_iff_ne.2 (Ne.symm fk1)), fk3, (beq_eq_false_iff_ne.2 fk3), (beq_eq_false_iff_ne.2 (Ne.symm fk3))]) <;> simp [rndB, gt_iff_lt, ge_iff_le, tup_one, tup_two, tup_three, fk1, (beq_eq_false_iff_ne.2 fk1), (beq_eq_false_iff_ne.2 (Ne.symm fk1)), fk3, (beq_eq_false_iff_ne.2 fk3), (beq_eq_false_iff_ne.2 (Ne.symm fk3)), fk5], S0.nil⟩

theorem hb108 : HasBody Tryz.prog 108 := fun _ _ => by kernel_rfl
def K108_0 := adv 9 [] (bodyOf Tryz.f108)
def K108_1 := adv 6 [] K108_0
def K108_2 := adv 6 [] K108_1
def K108_3 := adv 6 [] K108_2
def K108_4 := adv 7 [] K108_3
def K108_5 := adv 7 [] K108_4
def K108_6 := adv 2 [] K108_5
def K108_7 := adv 1 [] K108_6
def K108_8 := adv 6 [] K108_7
def K108_9 := adv 6 [] K108_8
def K108_10 := adv 8 [] K108_9
def K108_11 := adv 1 [] K108_10
def K108_12 := adv 7 [] K108_11
def K108_13 := adv 2 [] K108_12
def K108_14 := adv 2 [] K108_13
def K108_15 := adv 1 [] K108_14
def K108_16 := adv 9 [] K108_15
set_option maxRecDepth 20000 in
set_option maxHeartbeats 20000000 in
theorem mul64_any (x y : Int) (w : World) (hx : 0 ≤ x ∧ x ≤ 18446744073709551615) (hy : 0 ≤ y ∧ y ≤ 18446744073709551615) : Ret Tryz.prog 108 #[.int .u64 x, .int .u64 y] w (fun v w' => v = .tuple #[.int .u64 (x * y / 18446744073709551616), .int .u64 (x * y % 18446744073709551616)] ∧ Sep w [] w') := by
 have S0 := Sep.refl w
 refine Ret.named fun R hR => ?_
 refine Ret.of_J (N := 51) [(0, .int .u64 x), (1, .int .u64 y)] Tryz.func108 rfl rfl (Nat.le_of_ble_eq_true (by kernel_rfl)) (by kernel_rfl) ?_
 obtain ⟨hm1, hm2, hm3, hm4, hm6, hm5⟩ := mul64 hx hy
 refine J.run 9 K108_0 [(15, .int .u64 (IntKind.wrap .u64 ((BitVec.ofInt 64 x &&& (BitVec.ofInt 64 (4294967295 : Int))).toNat : Int))), (0, .int .u64 x), (1, .int .u64 y)] w (by kernel_rfl) ?_
 refine J.head (.int .u64 (x % 4294967296)) (congrArg (Value.int .u64) (and_mask_u64 32 _ _ (by rfl) (by decide))) ?_
 refine J.run 6 K108_1 [(17, .int .u64 (Int.fdiv x (2 ^ 32))), (6, .int .u64 (x % 4294967296)), (0, .int .u64 x), (1, .int .u64 y)] w (by kernel_rfl) ?_
 refine J.head (.int .u64 (x / 4294967296)) (congrArg (Value.int .u64) (shr_lit _ _ (by decide))) ?_
 refine J.run 6 K108_2 [(19, .int .u64 (IntKind.wrap .u64 ((BitVec.ofInt 64 y &&& (BitVec.ofInt 64 (4294967295 : Int))).toNat : Int))), (7, .int .u64 (x / 4294967296)), (6, .int .u64 (x % 4294967296)), (0, .int .u64 x), (1, .int .u64 y)] w (by kernel_rfl) ?_
 refine J.head (.int .u64 (y % 4294967296)) (congrArg (Value.int .u64) (and_mask_u64 32 _ _ (by rfl) (by decide))) ?_
 refine J.run 6 K108_3 [(21, .int .u64 (Int.fdiv y (2 ^ 32))), (8, .int .u64 (y % 4294967296)), (7, .int .u64 (x / 4294967296)), (6, .int .u64 (x % 4294967296)), (0, .int .u64 x), (1, .int .u64 y)] w (by kernel_rfl) ?_
 refine J.head (.int .u64 (y / 4294967296)) (congrArg (Value.int .u64) (shr_lit _ _ (by decide))) ?_
 refine J.run 7 K108_4 [(24, .int .u64 (IntKind.wrap .u64 ((x % 4294967296) * (y % 4294967296)))), (9, .int .u64 (y / 4294967296)), (8, .int .u64 (y % 4294967296)), (7, .int .u64 (x / 4294967296)), (6, .int .u64 (x % 4294967296)), (0, .int .u64 x), (1, .int .u64 y)] w (by kernel_rfl) ?_
 refine J.head (.int .u64 ((x % 4294967296) * (y % 4294967296))) (congrArg (Value.int .u64) (IntWalk.u64_in _ (by omega))) ?_
 refine J.run 7 K108_5 [(27, .int .u64 (IntKind.wrap .u64 ((x / 4294967296) * (y % 4294967296)))), (10, .int .u64 ((x % 4294967296) * (y % 4294967296))), (9, .int .u64 (y / 4294967296)), (7, .int .u64 (x / 4294967296)), (6, .int .u64 (x % 4294967296)), (0, .int .u64 x), (1, .int .u64 y)] w (by kernel_rfl) ?_
 refine J.head (.int .u64 ((x / 4294967296) * (y % 4294967296))) (congrArg (Value.int .u64) (IntWalk.u64_in _ (by omega))) ?_
 refine J.run 2 K108_6 [(29, .int .u64 (Int.fdiv ((x % 4294967296) * (y % 4294967296)) (2 ^ 32))), (27, .int .u64 ((x / 4294967296) * (y % 4294967296))), (9, .int .u64 (y / 4294967296)), (7, .int .u64 (x / 4294967296)), (6, .int .u64 (x % 4294967296)), (0, .int .u64 x), (1, .int .u64 y)] w (by kernel_rfl) ?_
 refine J.head (.int .u64 (((x % 4294967296) * (y % 4294967296)) / 4294967296)) (congrArg (Value.int .u64) (shr_lit _ _ (by decide))) ?_
 refine J.run 1 K108_7 [(30, .int .u64 (IntKind.wrap .u64 (((x / 4294967296) * (y % 4294967296)) + (((x % 4294967296) * (y % 4294967296)) / 4294967296)))), (9, .int .u64 (y / 4294967296)), (7, .int .u64 (x / 4294967296)), (6, .int .u64 (x % 4294967296)), (0, .int .u64 x), (1, .int .u64 y)] w (by kernel_rfl) ?_
 refine J.head (.int .u64 (((x / 4294967296) * (y % 4294967296)) + (((x % 4294967296) * (y % 4294967296)) / 4294967296))) (congrArg (Value.int .u64) (IntWalk.u64_in _ (by omega))) ?_
 refine J.run 6 K108_8 [(32, .int .u64 (IntKind.wrap .u64 ((BitVec.ofInt 64 (((x / 4294967296) * (y % 4294967296)) + (((x % 4294967296) * (y % 4294967296)) / 4294967296)) &&& (BitVec.ofInt 64 (4294967295 : Int))).toNat : Int))), (11, .int .u64 (((x / 4294967296) * (y % 4294967296)) + (((x % 4294967296) * (y % 4294967296)) / 4294967296))), (9, .int .u64 (y / 4294967296)), (7, .int .u64 (x / 4294967296)), (6, .int .u64 (x % 4294967296)), (0, .int .u64 x), (1, .int .u64 y)] w (by kernel_rfl) ?_
 refine J.head (.int .u64 ((((x / 4294967296) * (y % 4294967296)) + (((x % 4294967296) * (y % 4294967296)) / 4294967296)) % 4294967296)) (congrArg (Value.int .u64) (and_mask_u64 32 _ _ (by rfl) (by decide))) ?_
 refine J.run 6 K108_9 [(34, .int .u64 (Int.fdiv (((x / 4294967296) * (y % 4294967296)) + (((x % 4294967296) * (y % 4294967296)) / 4294967296)) (2 ^ 32))), (12, .int .u64 ((((x / 4294967296) * (y % 4294967296)) + (((x % 4294967296) * (y % 4294967296)) / 4294967296)) % 4294967296)), (9, .int .u64 (y / 4294967296)), (7, .int .u64 (x / 4294967296)), (6, .int .u64 (x % 4294967296)), (0, .int .u64 x), (1, .int .u64 y)] w (by kernel_rfl) ?_
 refine J.head (.int .u64 ((((x / 4294967296) * (y % 4294967296)) + (((x % 4294967296) * (y % 4294967296)) / 4294967296)) / 4294967296)) (congrArg (Value.int .u64) (shr_lit _ _ (by decide))) ?_
 refine J.run 8 K108_10 [(38, .int .u64 (IntKind.wrap .u64 ((x % 4294967296) * (y / 4294967296)))), (35, .int .u64 ((((x / 4294967296) * (y % 4294967296)) + (((x % 4294967296) * (y % 4294967296)) / 4294967296)) % 4294967296)), (13, .int .u64 ((((x / 4294967296) * (y % 4294967296)) + (((x % 4294967296) * (y % 4294967296)) / 4294967296)) / 4294967296)), (9, .int .u64 (y / 4294967296)), (7, .int .u64 (x / 4294967296)), (0, .int .u64 x), (1, .int .u64 y)] w (by kernel_rfl) ?_
 refine J.head (.int .u64 ((x % 4294967296) * (y / 4294967296))) (congrArg (Value.int .u64) (IntWalk.u64_in _ (by omega))) ?_
 refine J.run 1 K108_11 [(39, .int .u64 (IntKind.wrap .u64 (((((x / 4294967296) * (y % 4294967296)) + (((x % 4294967296) * (y % 4294967296)) / 4294967296)) % 4294967296) + ((x % 4294967296) * (y / 4294967296))))), (13, .int .u64 ((((x / 4294967296) * (y % 4294967296)) + (((x % 4294967296) * (y % 4294967296)) / 4294967296)) / 4294967296)), (9, .int .u64 (y / 4294967296)), (7, .int .u64 (x / 4294967296)), (0, .int .u64 x), (1, .int .u64 y)] w (by kernel_rfl) ?_
 refine J.head (.int .u64 (((((x / 4294967296) * (y % 4294967296)) + (((x % 4294967296) * (y % 4294967296)) / 4294967296)) % 4294967296) + ((x % 4294967296) * (y / 4294967296)))) (congrArg (Value.int .u64) (IntWalk.u64_in _ (by omega))) ?_
 refine J.run 7 K108_12 [(42, .int .u64 (IntKind.wrap .u64 ((x / 4294967296) * (y / 4294967296)))), (12, .int .u64 (((((x / 4294967296) * (y % 4294967296)) + (((x % 4294967296) * (y % 4294967296)) / 4294967296)) % 4294967296) + ((x % 4294967296) * (y / 4294967296)))), (13, .int .u64 ((((x / 4294967296) * (y % 4294967296)) + (((x % 4294967296) * (y % 4294967296)) / 4294967296)) / 4294967296)), (0, .int .u64 x), (1, .int .u64 y)] w (by kernel_rfl) ?_
 refine J.head (.int .u64 ((x / 4294967296) * (y / 4294967296))) (congrArg (Value.int .u64) (IntWalk.u64_in _ (by omega))) ?_
 refine J.run 2 K108_13 [(44, .int .u64 (IntKind.wrap .u64 (((x / 4294967296) * (y / 4294967296)) + ((((x / 4294967296) * (y % 4294967296)) + (((x % 4294967296) * (y % 4294967296)) / 4294967296)) / 4294967296)))), (12, .int .u64 (((((x / 4294967296) * (y % 4294967296)) + (((x % 4294967296) * (y % 4294967296)) / 4294967296)) % 4294967296) + ((x % 4294967296) * (y / 4294967296)))), (0, .int .u64 x), (1, .int .u64 y)] w (by kernel_rfl) ?_
 refine J.head (.int .u64 (((x / 4294967296) * (y / 4294967296)) + ((((x / 4294967296) * (y % 4294967296)) + (((x % 4294967296) * (y % 4294967296)) / 4294967296)) / 4294967296))) (congrArg (Value.int .u64) (IntWalk.u64_in _ (by omega))) ?_
 refine J.run 2 K108_14 [(46, .int .u64 (Int.fdiv (((((x / 4294967296) * (y % 4294967296)) + (((x % 4294967296) * (y % 4294967296)) / 4294967296)) % 4294967296) + ((x % 4294967296) * (y / 4294967296))) (2 ^ 32))), (44, .int .u64 (((x / 4294967296) * (y / 4294967296)) + ((((x / 4294967296) * (y % 4294967296)) + (((x % 4294967296) * (y % 4294967296)) / 4294967296)) / 4294967296))), (0, .int .u64 x), (1, .int .u64 y)] w (by kernel_rfl) ?_
 refine J.head (.int .u64 ((((((x / 4294967296) * (y % 4294967296)) + (((x % 4294967296) * (y % 4294967296)) / 4294967296)) % 4294967296) + ((x % 4294967296) * (y / 4294967296))) / 4294967296)) (congrArg (Value.int .u64) (shr_lit _ _ (by decide))) ?_
 refine J.run 1 K108_15 [(47, .int .u64 (IntKind.wrap .u64 ((((x / 4294967296) * (y / 4294967296)) + ((((x / 4294967296) * (y % 4294967296)) + (((x % 4294967296) * (y % 4294967296)) / 4294967296)) / 4294967296)) + ((((((x / 4294967296) * (y % 4294967296)) + (((x % 4294967296) * (y % 4294967296)) / 4294967296)) % 4294967296) + ((x % 4294967296) * (y / 4294967296))) / 4294967296)))), (0, .int .u64 x), (1, .int .u64 y)] w (by kernel_rfl) ?_
 refine J.head (.int .u64 ((((x / 4294967296) * (y / 4294967296)) + ((((x / 4294967296) * (y % 4294967296)) + (((x % 4294967296) * (y % 4294967296)) / 4294967296)) / 4294967296)) + ((((((x / 4294967296) * (y % 4294967296)) + (((x % 4294967296) * (y % 4294967296)) / 4294967296)) % 4294967296) + ((x % 4294967296) * (y / 4294967296))) / 4294967296))) (congrArg (Value.int .u64) (IntWalk.u64_in _ (by omega))) ?_
 refine J.run 9 K108_16 [(5, .int .u64 (IntKind.wrap .u64 (x * y))), (4, .int .u64 ((((x / 4294967296) * (y / 4294967296)) + ((((x / 4294967296) * (y % 4294967296)) + (((x % 4294967296) * (y % 4294967296)) / 4294967296)) / 4294967296)) + ((((((x / 4294967296) * (y % 4294967296)) + (((x % 4294967296) * (y % 4294967296)) / 4294967296)) % 4294967296) + ((x % 4294967296) * (y / 4294967296))) / 4294967296)))] w (by kernel_rfl) ?_
 refine J.ret Tryz.f108 [.int .u64 ((((x / 4294967296) * (y / 4294967296)) + ((((x / 4294967296) * (y % 4294967296)) + (((x % 4294967296) * (y % 4294967296)) / 4294967296)) / 4294967296)) + ((((((x / 4294967296) * (y % 4294967296)) + (((x % 4294967296) * (y % 4294967296)) / 4294967296)) % 4294967296) + ((x % 4294967296) * (y / 4294967296))) / 4294967296)), .int .u64 (IntKind.wrap .u64 (x * y))] Tryz.func108 ⟨by kernel_rfl, by kernel_rfl, trivial⟩ ?_
 refine hR _ _ ?_
 have e1 : (((x / 4294967296) * (y / 4294967296)) + ((((x / 4294967296) * (y % 4294967296)) + (((x % 4294967296) * (y % 4294967296)) / 4294967296)) / 4294967296)) + ((((((x / 4294967296) * (y % 4294967296)) + (((x % 4294967296) * (y % 4294967296)) / 4294967296)) % 4294967296) + ((x % 4294967296) * (y / 4294967296))) / 4294967296) = x * y / 18446744073709551616 := by omega
 exact ⟨by rw [tup_two, wrap_u64, e1], S0.nil⟩

theorem lenF_32 {n : Int} (h : 4294967296 ≤ n) : lenF n = 32 + lenF (n / 4294967296) := by have := lenF_shift (n := n) 32 (by omega); simpa using this
theorem lenF_16 {n : Int} (h : 65536 ≤ n) : lenF n = 16 + lenF (n / 65536) := by have := lenF_shift (n := n) 16 (by omega); simpa using this
theorem lenF_8 {n : Int} (h : 256 ≤ n) : lenF n = 8 + lenF (n / 256) := by have := lenF_shift (n := n) 8 (by omega); simpa using this
theorem hb117 : HasBody Tryz.prog 117 := fun _ _ => by kernel_rfl
def K117_0 := adv 10 [] (bodyOf Tryz.f117)
def K117_1 := adv 5 [true] K117_0
def K117_2 := adv 11 [] K117_1
def K117_3 := adv 5 [true] K117_2
def K117_4 := adv 13 [] K117_3
def K117_5 := adv 5 [true] K117_4
def K117_6 := adv 12 [] K117_5
def K117_7 := adv 1 [] (popK K117_6)
def K117_8 := adv 1 [] K117_7
def K117_9 := adv 2 [] K117_8
def K117_10 := adv 7 [false] K117_4
def K117_11 := adv 1 [] (popK K117_10)
def K117_12 := adv 1 [] K117_11
def K117_13 := adv 2 [] K117_12
def K117_14 := adv 8 [false] K117_2
def K117_15 := adv 5 [true] K117_14
def K117_16 := adv 12 [] K117_15
def K117_17 := adv 1 [] (popK K117_16)
def K117_18 := adv 1 [] K117_17
def K117_19 := adv 2 [] K117_18
def K117_20 := adv 7 [false] K117_14
def K117_21 := adv 1 [] (popK K117_20)
def K117_22 := adv 1 [] K117_21
def K117_23 := adv 2 [] K117_22
def K117_24 := adv 8 [false] K117_0
def K117_25 := adv 5 [true] K117_24
def K117_26 := adv 13 [] K117_25
def K117_27 := adv 5 [true] K117_26
def K117_28 := adv 12 [] K117_27
def K117_29 := adv 1 [] (popK K117_28)
def K117_30 := adv 1 [] K117_29
def K117_31 := adv 2 [] K117_30
def K117_32 := adv 7 [false] K117_26
def K117_33 := adv 1 [] (popK K117_32)
def K117_34 := adv 1 [] K117_33
def K117_35 := adv 2 [] K117_34
def K117_36 := adv 8 [false] K117_24
def K117_37 := adv 5 [true] K117_36
def K117_38 := adv 12 [] K117_37
def K117_39 := adv 1 [] (popK K117_38)
def K117_40 := adv 1 [] K117_39
def K117_41 := adv 2 [] K117_40
def K117_42 := adv 7 [false] K117_36
def K117_43 := adv 1 [] (popK K117_42)
def K117_44 := adv 1 [] K117_43
def K117_45 := adv 2 [] K117_44
set_option maxRecDepth 20000 in
set_option maxHeartbeats 20000000 in
theorem len_any (n : Int) (w : World) (hn : 0 ≤ n ∧ n ≤ 18446744073709551615) : Ret Tryz.prog 117 #[.int .u64 n] w (fun v w' => v = .int .i64 (lenF n) ∧ Sep w [] w') := by
 have S0 := Sep.refl w
 refine Ret.named fun R hR => ?_
 refine Ret.of_J (N := 25) [(0, .int .u64 n)] Tryz.func117 rfl rfl (Nat.le_of_ble_eq_true (by kernel_rfl)) (by kernel_rfl) ?_
 refine J.run 10 K117_0 [(4, .bool (decide (n ≥ 4294967296))), (2, .int .i64 0), (0, .int .u64 n)] w (by kernel_rfl) ?_
 by_cases fk1 : n ≥ 4294967296
 rotate_left
 ·skip
  refine J.head (.bool false) (congrArg Value.bool (decide_eq_false fk1)) ?_
  refine J.run 8 K117_24 [(8, .bool (decide (n ≥ 65536))), (2, .int .i64 0), (0, .int .u64 n)] w (by kernel_rfl) ?_
  by_cases fk5 : n ≥ 65536
  rotate_left
  ·skip
   refine J.head (.bool false) (congrArg Value.bool (decide_eq_false fk5)) ?_
   refine J.run 8 K117_36 [(14, .bool (decide (n ≥ 256))), (2, .int .i64 0), (0, .int .u64 n)] w (by kernel_rfl) ?_
   by_cases fk7 : n ≥ 256
   rotate_left
   ·skip
    refine J.head (.bool false) (congrArg Value.bool (decide_eq_false fk7)) ?_
    refine J.run 7 K117_42 [(21, .int .u8 (IntKind.wrap .u8 n)), (19, .int .i64 0)] w (by kernel_rfl) ?_
    refine J.head (.int .u8 n) (congrArg (Value.int .u8) (IntWalk.u8_in _ (by omega))) ?_
    refine J.ok (OK.byte 22 9 ⟨#[0, 1, 2, 2, 3, 3, 3, 3, 4, 4, 4, 4, 4, 4, 4, 4, 5, 5, 5, 5, 5, 5, 5, 5, 5, 5, 5, 5, 5, 5, 5, 5, 6, 6, 6, 6, 6, 6, 6, 6, 6, 6, 6, 6, 6, 6, 6, 6, 6, 6, 6, 6, 6, 6, 6, 6, 6, 6, 6, 6, 6, 6, 6, 6, 7, 7, 7, 7, 7, 7, 7, 7, 7, 7, 7, 7, 7, 7, 7, 7, 7, 7, 7, 7, 7, 7, 7, 7, 7, 7, 7, 7, 7, 7, 7, 7, 7, 7, 7, 7, 7, 7, 7, 7, 7, 7, 7, 7, 7, 7, 7, 7, 7, 7, 7, 7, 7, 7, 7, 7, 7, 7, 7, 7, 7, 7, 7, 7, 8, 8, 8, 8, 8, 8, 8, 8, 8, 8, 8, 8, 8, 8, 8, 8, 8, 8, 8, 8, 8, 8, 8, 8, 8, 8, 8, 8, 8, 8, 8, 8, 8, 8, 8, 8, 8, 8, 8, 8, 8, 8, 8, 8, 8, 8, 8, 8, 8, 8, 8, 8, 8, 8, 8, 8, 8, 8, 8, 8, 8, 8, 8, 8, 8, 8, 8, 8, 8, 8, 8, 8, 8, 8, 8, 8, 8, 8, 8, 8, 8, 8, 8, 8, 8, 8, 8, 8, 8, 8, 8, 8, 8, 8, 8, 8, 8, 8, 8, 8, 8, 8, 8, 8, 8, 8, 8, 8, 8, 8, 8, 8, 8, 8, 8, 8, 8, 8, 8, 8, 8, 8, 8, 8, 8, 8, 8, 8]⟩ n (lenF n) (by kernel_rfl) (by kernel_rfl) (by omega) ((show (_ : Int) < (256 : Nat) by omega)) (len8' (by omega) (by omega))) ?_
    obtain ⟨t, ht⟩ : ∃ x : Int, x = lenF n := ⟨_, rfl⟩
    refine J.head (.int .u8 t) (congrArg (Value.int .u8) ht.symm) ?_
    have := lenF_small (i := n) (by omega) (by omega); rw [← ht] at this
    refine J.run 1 K117_43 [(23, .int .i64 (IntKind.wrap .i64 t)), (19, .int .i64 0)] w (by kernel_rfl) ?_
    refine J.head (.int .i64 t) (congrArg (Value.int .i64) (IntWalk.i64_in _ (by omega))) ?_
    refine J.run 1 K117_44 [(24, .int .i64 (IntKind.wrap .i64 (0 + t)))] w (by kernel_rfl) ?_
    refine J.head (.int .i64 (0 + t)) (congrArg (Value.int .i64) (IntWalk.i64_in _ (by omega))) ?_
    refine J.run 2 K117_45 [(2, .int .i64 (0 + t))] w (by kernel_rfl) ?_
    refine J.ret Tryz.f117 [.int .i64 (0 + t)] Tryz.func117 ⟨by kernel_rfl, trivial⟩ ?_
    refine hR _ _ ?_
    exact ⟨by rw [tup_one]; exact congrArg (Value.int .i64) (by rw [ht] <;> omega), S0.nil⟩
   refine J.head (.bool true) (congrArg Value.bool (decide_eq_true fk7)) ?_
   refine J.run 5 K117_37 [(16, .int .u64 (Int.fdiv n (2 ^ 8))), (2, .int .i64 0)] w (by kernel_rfl) ?_
   refine J.head (.int .u64 (n / 256)) (congrArg (Value.int .u64) (shr_lit _ _ (by decide))) ?_
   refine J.run 12 K117_38 [(21, .int .u8 (IntKind.wrap .u8 (n / 256))), (19, .int .i64 8)] w (by kernel_rfl) ?_
   refine J.head (.int .u8 (n / 256)) (congrArg (Value.int .u8) (IntWalk.u8_in _ (by omega))) ?_
   refine J.ok (OK.byte 22 9 ⟨#[0, 1, 2, 2, 3, 3, 3, 3, 4, 4, 4, 4, 4, 4, 4, 4, 5, 5, 5, 5, 5, 5, 5, 5, 5, 5, 5, 5, 5, 5, 5, 5, 6, 6, 6, 6, 6, 6, 6, 6, 6, 6, 6, 6, 6, 6, 6, 6, 6, 6, 6, 6, 6, 6, 6, 6, 6, 6, 6, 6, 6, 6, 6, 6, 7, 7, 7, 7, 7, 7, 7, 7, 7, 7, 7, 7, 7, 7, 7, 7, 7, 7, 7, 7, 7, 7, 7, 7, 7, 7, 7, 7, 7, 7, 7, 7, 7, 7, 7, 7, 7, 7, 7, 7, 7, 7, 7, 7, 7, 7, 7, 7, 7, 7, 7, 7, 7, 7, 7, 7, 7, 7, 7, 7, 7, 7, 7, 7, 8, 8, 8, 8, 8, 8, 8, 8, 8, 8, 8, 8, 8, 8, 8, 8, 8, 8, 8, 8, 8, 8, 8, 8, 8, 8, 8, 8, 8, 8, 8, 8, 8, 8, 8, 8, 8, 8, 8, 8, 8, 8, 8, 8, 8, 8, 8, 8, 8, 8, 8, 8, 8, 8, 8, 8, 8, 8, 8, 8, 8, 8, 8, 8, 8, 8, 8, 8, 8, 8, 8, 8, 8, 8, 8, 8, 8, 8, 8, 8, 8, 8, 8, 8, 8, 8, 8, 8, 8, 8, 8, 8, 8, 8, 8, 8, 8, 8, 8, 8, 8, 8, 8, 8, 8, 8, 8, 8, 8, 8, 8, 8, 8, 8, 8, 8, 8, 8, 8, 8, 8, 8, 8, 8, 8, 8, 8, 8]⟩ (n / 256) (lenF (n / 256)) (by kernel_rfl) (by kernel_rfl) (by omega) ((show (_ : Int) < (256 : Nat) by omega)) (len8' (by omega) (by omega))) ?_
   obtain ⟨t, ht⟩ : ∃ x : Int, x = lenF (n / 256) := ⟨_, rfl⟩
   refine J.head (.int .u8 t) (congrArg (Value.int .u8) ht.symm) ?_
   have := lenF_small (i := (n / 256)) (by omega) (by omega); rw [← ht] at this
   refine J.run 1 K117_39 [(23, .int .i64 (IntKind.wrap .i64 t)), (19, .int .i64 8)] w (by kernel_rfl) ?_
   refine J.head (.int .i64 t) (congrArg (Value.int .i64) (IntWalk.i64_in _ (by omega))) ?_
   refine J.run 1 K117_40 [(24, .int .i64 (IntKind.wrap .i64 (8 + t)))] w (by kernel_rfl) ?_
   refine J.head (.int .i64 (8 + t)) (congrArg (Value.int .i64) (IntWalk.i64_in _ (by omega))) ?_
   refine J.run 2 K117_41 [(2, .int .i64 (8 + t))] w (by kernel_rfl) ?_
   refine J.ret Tryz.f117 [.int .i64 (8 + t)] Tryz.func117 ⟨by kernel_rfl, trivial⟩ ?_
   refine hR _ _ ?_
   exact ⟨by rw [tup_one]; exact congrArg (Value.int .i64) (by rw [lenF_8 (by omega), ht] <;> omega), S0.nil⟩
  refine J.head (.bool true) (congrArg Value.bool (decide_eq_true fk5)) ?_
  refine J.run 5 K117_25 [(10, .int .u64 (Int.fdiv n (2 ^ 16))), (2, .int .i64 0)] w (by kernel_rfl) ?_
  refine J.head (.int .u64 (n / 65536)) (congrArg (Value.int .u64) (shr_lit _ _ (by decide))) ?_
  refine J.run 13 K117_26 [(14, .bool (decide ((n / 65536) ≥ 256))), (2, .int .i64 16), (0, .int .u64 (n / 65536))] w (by kernel_rfl) ?_
  by_cases fk6 : (n / 65536) ≥ 256
  rotate_left
  ·skip
   refine J.head (.bool false) (congrArg Value.bool (decide_eq_false fk6)) ?_
   refine J.run 7 K117_32 [(21, .int .u8 (IntKind.wrap .u8 (n / 65536))), (19, .int .i64 16)] w (by kernel_rfl) ?_
   refine J.head (.int .u8 (n / 65536)) (congrArg (Value.int .u8) (IntWalk.u8_in _ (by omega))) ?_
   refine J.ok (OK.byte 22 9 ⟨#[0, 1, 2, 2, 3, 3, 3, 3, 4, 4, 4, 4, 4, 4, 4, 4, 5, 5, 5, 5, 5, 5, 5, 5, 5, 5, 5, 5, 5, 5, 5, 5, 6, 6, 6, 6, 6, 6, 6, 6, 6, 6, 6, 6, 6, 6, 6, 6, 6, 6, 6, 6, 6, 6, 6, 6, 6, 6, 6, 6, 6, 6, 6, 6, 7, 7, 7, 7, 7, 7, 7, 7, 7, 7, 7, 7, 7, 7, 7, 7, 7, 7, 7, 7, 7, 7, 7, 7, 7, 7, 7, 7, 7, 7, 7, 7, 7, 7, 7, 7, 7, 7, 7, 7, 7, 7, 7, 7, 7, 7, 7, 7, 7, 7, 7, 7, 7, 7, 7, 7, 7, 7, 7, 7, 7, 7, 7, 7, 8, 8, 8, 8, 8, 8, 8, 8, 8, 8, 8, 8, 8, 8, 8, 8, 8, 8, 8, 8, 8, 8, 8, 8, 8, 8, 8, 8, 8, 8, 8, 8, 8, 8, 8, 8, 8, 8, 8, 8, 8, 8, 8, 8, 8, 8, 8, 8, 8, 8, 8, 8, 8, 8, 8, 8, 8, 8, 8, 8, 8, 8, 8, 8, 8, 8, 8, 8, 8, 8, 8, 8, 8, 8, 8, 8, 8, 8, 8, 8, 8, 8, 8, 8, 8, 8, 8, 8, 8, 8, 8, 8, 8, 8, 8, 8, 8, 8, 8, 8, 8, 8, 8, 8, 8, 8, 8, 8, 8, 8, 8, 8, 8, 8, 8, 8, 8, 8, 8, 8, 8, 8, 8, 8, 8, 8, 8, 8]⟩ (n / 65536) (lenF (n / 65536)) (by kernel_rfl) (by kernel_rfl) (by omega) ((show (_ : Int) < (256 : Nat) by omega)) (len8' (by omega) (by omega))) ?_
   obtain ⟨t, ht⟩ : ∃ x : Int, x = lenF (n / 65536) := ⟨_, rfl⟩
   refine J.head (.int .u8 t) (congrArg (Value.int .u8) ht.symm) ?_
   have := lenF_small (i := (n / 65536)) (by omega) (by omega); rw [← ht] at this
   refine J.run 1 K117_33 [(23, .int .i64 (IntKind.wrap .i64 t)), (19, .int .i64 16)] w (by kernel_rfl) ?_
   refine J.head (.int .i64 t) (congrArg (Value.int .i64) (IntWalk.i64_in _ (by omega))) ?_
   refine J.run 1 K117_34 [(24, .int .i64 (IntKind.wrap .i64 (16 + t)))] w (by kernel_rfl) ?_
   refine J.head (.int .i64 (16 + t)) (congrArg (Value.int .i64) (IntWalk.i64_in _ (by omega))) ?_
   refine J.run 2 K117_35 [(2, .int .i64 (16 + t))] w (by kernel_rfl) ?_
   refine J.ret Tryz.f117 [.int .i64 (16 + t)] Tryz.func117 ⟨by kernel_rfl, trivial⟩ ?_
   refine hR _ _ ?_
   exact ⟨by rw [tup_one]; exact congrArg (Value.int .i64) (by rw [lenF_16 (by omega), ht] <;> omega), S0.nil⟩
  refine J.head (.bool true) (congrArg Value.bool (decide_eq_true fk6)) ?_
  refine J.run 5 K117_27 [(16, .int .u64 (Int.fdiv (n / 65536) (2 ^ 8))), (2, .int .i64 16)] w (by kernel_rfl) ?_
  refine J.head (.int .u64 ((n / 65536) / 256)) (congrArg (Value.int .u64) (shr_lit _ _ (by decide))) ?_
  refine J.run 12 K117_28 [(21, .int .u8 (IntKind.wrap .u8 ((n / 65536) / 256))), (19, .int .i64 24)] w (by kernel_rfl) ?_
  refine J.head (.int .u8 ((n / 65536) / 256)) (congrArg (Value.int .u8) (IntWalk.u8_in _ (by omega))) ?_
  refine J.ok (OK.byte 22 9 ⟨#[0, 1, 2, 2, 3, 3, 3, 3, 4, 4, 4, 4, 4, 4, 4, 4, 5, 5, 5, 5, 5, 5, 5, 5, 5, 5, 5, 5, 5, 5, 5, 5, 6, 6, 6, 6, 6, 6, 6, 6, 6, 6, 6, 6, 6, 6, 6, 6, 6, 6, 6, 6, 6, 6, 6, 6, 6, 6, 6, 6, 6, 6, 6, 6, 7, 7, 7, 7, 7, 7, 7, 7, 7, 7, 7, 7, 7, 7, 7, 7, 7, 7, 7, 7, 7, 7, 7, 7, 7, 7, 7, 7, 7, 7, 7, 7, 7, 7, 7, 7, 7, 7, 7, 7, 7, 7, 7, 7, 7, 7, 7, 7, 7, 7, 7, 7, 7, 7, 7, 7, 7, 7, 7, 7, 7, 7, 7, 7, 8, 8, 8, 8, 8, 8, 8, 8, 8, 8, 8, 8, 8, 8, 8, 8, 8, 8, 8, 8, 8, 8, 8, 8, 8, 8, 8, 8, 8, 8, 8, 8, 8, 8, 8, 8, 8, 8, 8, 8, 8, 8, 8, 8, 8, 8, 8, 8, 8, 8, 8, 8, 8, 8, 8, 8, 8, 8, 8, 8, 8, 8, 8, 8, 8, 8, 8, 8, 8, 8, 8, 8, 8, 8, 8, 8, 8, 8, 8, 8, 8, 8, 8, 8, 8, 8, 8, 8, 8, 8, 8, 8, 8, 8, 8, 8, 8, 8, 8, 8, 8, 8, 8, 8, 8, 8, 8, 8, 8, 8, 8, 8, 8, 8, 8, 8, 8, 8, 8, 8, 8, 8, 8, 8, 8, 8, 8, 8]⟩ ((n / 65536) / 256) (lenF ((n / 65536) / 256)) (by kernel_rfl) (by kernel_rfl) (by omega) ((show (_ : Int) < (256 : Nat) by omega)) (len8' (by omega) (by omega))) ?_
  obtain ⟨t, ht⟩ : ∃ x : Int, x = lenF ((n / 65536) / 256) := ⟨_, rfl⟩
  refine J.head (.int .u8 t) (congrArg (Value.int .u8) ht.symm) ?_
  have := lenF_small (i := ((n / 65536) / 256)) (by omega) (by omega); rw [← ht] at this
  refine J.run 1 K117_29 [(23, .int .i64 (IntKind.wrap .i64 t)), (19, .int .i64 24)] w (by kernel_rfl) ?_
  refine J.head (.int .i64 t) (congrArg (Value.int .i64) (IntWalk.i64_in _ (by omega))) ?_
  refine J.run 1 K117_30 [(24, .int .i64 (IntKind.wrap .i64 (24 + t)))] w (by kernel_rfl) ?_
  refine J.head (.int .i64 (24 + t)) (congrArg (Value.int .i64) (IntWalk.i64_in _ (by omega))) ?_
  refine J.run 2 K117_31 [(2, .int .i64 (24 + t))] w (by kernel_rfl) ?_
  refine J.ret Tryz.f117 [.int .i64 (24 + t)] Tryz.func117 ⟨by kernel_rfl, trivial⟩ ?_
  refine hR _ _ ?_
  exact ⟨by rw [tup_one]; exact congrArg (Value.int .i64) (by rw [lenF_16 (by omega), lenF_8 (by omega), ht] <;> omega), S0.nil⟩
 refine J.head (.bool true) (congrArg Value.bool (decide_eq_true fk1)) ?_
 refine J.run 5 K117_1 [(6, .int .u64 (Int.fdiv n (2 ^ 32)))] w (by kernel_rfl) ?_
 refine J.head (.int .u64 (n / 4294967296)) (congrArg (Value.int .u64) (shr_lit _ _ (by decide))) ?_
 refine J.run 11 K117_2 [(8, .bool (decide ((n / 4294967296) ≥ 65536))), (2, .int .i64 32), (0, .int .u64 (n / 4294967296))] w (by kernel_rfl) ?_
 by_cases fk2 : (n / 4294967296) ≥ 65536
 rotate_left
 ·skip
  refine J.head (.bool false) (congrArg Value.bool (decide_eq_false fk2)) ?_
  refine J.run 8 K117_14 [(14, .bool (decide ((n / 4294967296) ≥ 256))), (2, .int .i64 32), (0, .int .u64 (n / 4294967296))] w (by kernel_rfl) ?_
  by_cases fk4 : (n / 4294967296) ≥ 256
  rotate_left
  ·skip
   refine J.head (.bool false) (congrArg Value.bool (decide_eq_false fk4)) ?_
   refine J.run 7 K117_20 [(21, .int .u8 (IntKind.wrap .u8 (n / 4294967296))), (19, .int .i64 32)] w (by kernel_rfl) ?_
   refine J.head (.int .u8 (n / 4294967296)) (congrArg (Value.int .u8) (IntWalk.u8_in _ (by omega))) ?_
   refine J.ok (OK.byte 22 9 ⟨#[0, 1, 2, 2, 3, 3, 3, 3, 4, 4, 4, 4, 4, 4, 4, 4, 5, 5, 5, 5, 5, 5, 5, 5, 5, 5, 5, 5, 5, 5, 5, 5, 6, 6, 6, 6, 6, 6, 6, 6, 6, 6, 6, 6, 6, 6, 6, 6, 6, 6, 6, 6, 6, 6, 6, 6, 6, 6, 6, 6, 6, 6, 6, 6, 7, 7, 7, 7, 7, 7, 7, 7, 7, 7, 7, 7, 7, 7, 7, 7, 7, 7, 7, 7, 7, 7, 7, 7, 7, 7, 7, 7, 7, 7, 7, 7, 7, 7, 7, 7, 7, 7, 7, 7, 7, 7, 7, 7, 7, 7, 7, 7, 7, 7, 7, 7, 7, 7, 7, 7, 7, 7, 7, 7, 7, 7, 7, 7, 8, 8, 8, 8, 8, 8, 8, 8, 8, 8, 8, 8, 8, 8, 8, 8, 8, 8, 8, 8, 8, 8, 8, 8, 8, 8, 8, 8, 8, 8, 8, 8, 8, 8, 8, 8, 8, 8, 8, 8, 8, 8, 8, 8, 8, 8, 8, 8, 8, 8, 8, 8, 8, 8, 8, 8, 8, 8, 8, 8, 8, 8, 8, 8, 8, 8, 8, 8, 8, 8, 8, 8, 8, 8, 8, 8, 8, 8, 8, 8, 8, 8, 8, 8, 8, 8, 8, 8, 8, 8, 8, 8, 8, 8, 8, 8, 8, 8, 8, 8, 8, 8, 8, 8, 8, 8, 8, 8, 8, 8, 8, 8, 8, 8, 8, 8, 8, 8, 8, 8, 8, 8, 8, 8, 8, 8, 8, 8]⟩ (n / 4294967296) (lenF (n / 4294967296)) (by kernel_rfl) (by kernel_rfl) (by omega) ((show (_ : Int) < (256 : Nat) by omega)) (len8' (by omega) (by omega))) ?_
   obtain ⟨t, ht⟩ : ∃ x : Int, x = lenF (n / 4294967296) := ⟨_, rfl⟩
   refine J.head (.int .u8 t) (congrArg (Value.int .u8) ht.symm) ?_
   have := lenF_small (i := (n / 4294967296)) (by omega) (by omega); rw [← ht] at this
   refine J.run 1 K117_21 [(23, .int .i64 (IntKind.wrap .i64 t)), (19, .int .i64 32)] w (by kernel_rfl) ?_
   refine J.head (.int .i64 t) (congrArg (Value.int .i64) (IntWalk.i64_in _ (by omega))) ?_
   refine J.run 1 K117_22 [(24, .int .i64 (IntKind.wrap .i64 (32 + t)))] w (by kernel_rfl) ?_
   refine J.head (.int .i64 (32 + t)) (congrArg (Value.int .i64) (IntWalk.i64_in _ (by omega))) ?_
   refine J.run 2 K117_23 [(2, .int .i64 (32 + t))] w (by kernel_rfl) ?_
   refine J.ret Tryz.f117 [.int .i64 (32 + t)] Tryz.func117 ⟨by kernel_rfl, trivial⟩ ?_
   refine hR _ _ ?_
   exact ⟨by rw [tup_one]; exact congrArg (Value.int .i64) (by rw [lenF_32 (by omega), ht] <;> omega), S0.nil⟩
  refine J.head (.bool true) (congrArg Value.bool (decide_eq_true fk4)) ?_
  refine J.run 5 K117_15 [(16, .int .u64 (Int.fdiv (n / 4294967296) (2 ^ 8))), (2, .int .i64 32)] w (by kernel_rfl) ?_
  refine J.head (.int .u64 ((n / 4294967296) / 256)) (congrArg (Value.int .u64) (shr_lit _ _ (by decide))) ?_
  refine J.run 12 K117_16 [(21, .int .u8 (IntKind.wrap .u8 ((n / 4294967296) / 256))), (19, .int .i64 40)] w (by kernel_rfl) ?_
  refine J.head (.int .u8 ((n / 4294967296) / 256)) (congrArg (Value.int .u8) (IntWalk.u8_in _ (by omega))) ?_
  refine J.ok (OK.byte 22 9 ⟨#[0, 1, 2, 2, 3, 3, 3, 3, 4, 4, 4, 4, 4, 4, 4, 4, 5, 5, 5, 5, 5, 5, 5, 5, 5, 5, 5, 5, 5, 5, 5, 5, 6, 6, 6, 6, 6, 6, 6, 6, 6, 6, 6, 6, 6, 6, 6, 6, 6, 6, 6, 6, 6, 6, 6, 6, 6, 6, 6, 6, 6, 6, 6, 6, 7, 7, 7, 7, 7, 7, 7, 7, 7, 7, 7, 7, 7, 7, 7, 7, 7, 7, 7, 7, 7, 7, 7, 7, 7, 7, 7, 7, 7, 7, 7, 7, 7, 7, 7, 7, 7, 7, 7, 7, 7, 7, 7, 7, 7, 7, 7, 7, 7, 7, 7, 7, 7, 7, 7, 7, 7, 7, 7, 7, 7, 7, 7, 7, 8, 8, 8, 8, 8, 8, 8, 8, 8, 8, 8, 8, 8, 8, 8, 8, 8, 8, 8, 8, 8, 8, 8, 8, 8, 8, 8, 8, 8, 8, 8, 8, 8, 8, 8, 8, 8, 8, 8, 8, 8, 8, 8, 8, 8, 8, 8, 8, 8, 8, 8, 8, 8, 8, 8, 8, 8, 8, 8, 8, 8, 8, 8, 8, 8, 8, 8, 8, 8, 8, 8, 8, 8, 8, 8, 8, 8, 8, 8, 8, 8, 8, 8, 8, 8, 8, 8, 8, 8, 8, 8, 8, 8, 8, 8, 8, 8, 8, 8, 8, 8, 8, 8, 8, 8, 8, 8, 8, 8, 8, 8, 8, 8, 8, 8, 8, 8, 8, 8, 8, 8, 8, 8, 8, 8, 8, 8, 8]⟩ ((n / 4294967296) / 256) (lenF ((n / 4294967296) / 256)) (by kernel_rfl) (by kernel_rfl) (by omega) ((show (_ : Int) < (256 : Nat) by omega)) (len8' (by omega) (by omega))) ?_
  obtain ⟨t, ht⟩ : ∃ x : Int, x = lenF ((n / 4294967296) / 256) := ⟨_, rfl⟩
  refine J.head (.int .u8 t) (congrArg (Value.int .u8) ht.symm) ?_
  have := lenF_small (i := ((n / 4294967296) / 256)) (by omega) (by omega); rw [← ht] at this
  refine J.run 1 K117_17 [(23, .int .i64 (IntKind.wrap .i64 t)), (19, .int .i64 40)] w (by kernel_rfl) ?_
  refine J.head (.int .i64 t) (congrArg (Value.int .i64) (IntWalk.i64_in _ (by omega))) ?_
  refine J.run 1 K117_18 [(24, .int .i64 (IntKind.wrap .i64 (40 + t)))] w (by kernel_rfl) ?_
  refine J.head (.int .i64 (40 + t)) (congrArg (Value.int .i64) (IntWalk.i64_in _ (by omega))) ?_
  refine J.run 2 K117_19 [(2, .int .i64 (40 + t))] w (by kernel_rfl) ?_
  refine J.ret Tryz.f117 [.int .i64 (40 + t)] Tryz.func117 ⟨by kernel_rfl, trivial⟩ ?_
  refine hR _ _ ?_
  exact ⟨by rw [tup_one]; exact congrArg (Value.int .i64) (by rw [lenF_32 (by omega), lenF_8 (by omega), ht] <;> omega), S0.nil⟩
 refine J.head (.bool true) (congrArg Value.bool (decide_eq_true fk2)) ?_
 refine J.run 5 K117_3 [(10, .int .u64 (Int.fdiv (n / 4294967296) (2 ^ 16))), (2, .int .i64 32)] w (by kernel_rfl) ?_
 refine J.head (.int .u64 ((n / 4294967296) / 65536)) (congrArg (Value.int .u64) (shr_lit _ _ (by decide))) ?_
 refine J.run 13 K117_4 [(14, .bool (decide (((n / 4294967296) / 65536) ≥ 256))), (2, .int .i64 48), (0, .int .u64 ((n / 4294967296) / 65536))] w (by kernel_rfl) ?_
 by_cases fk3 : ((n / 4294967296) / 65536) ≥ 256
 rotate_left
 ·skip
  refine J.head (.bool false) (congrArg Value.bool (decide_eq_false fk3)) ?_
  refine J.run 7 K117_10 [(21, .int .u8 (IntKind.wrap .u8 ((n / 4294967296) / 65536))), (19, .int .i64 48)] w (by kernel_rfl) ?_
  refine J.head (.int .u8 ((n / 4294967296) / 65536)) (congrArg (Value.int .u8) (IntWalk.u8_in _ (by omega))) ?_
  refine J.ok (OK.byte 22 9 ⟨#[0, 1, 2, 2, 3, 3, 3, 3, 4, 4, 4, 4, 4, 4, 4, 4, 5, 5, 5, 5, 5, 5, 5, 5, 5, 5, 5, 5, 5, 5, 5, 5, 6, 6, 6, 6, 6, 6, 6, 6, 6, 6, 6, 6, 6, 6, 6, 6, 6, 6, 6, 6, 6, 6, 6, 6, 6, 6, 6, 6, 6, 6, 6, 6, 7, 7, 7, 7, 7, 7, 7, 7, 7, 7, 7, 7, 7, 7, 7, 7, 7, 7, 7, 7, 7, 7, 7, 7, 7, 7, 7, 7, 7, 7, 7, 7, 7, 7, 7, 7, 7, 7, 7, 7, 7, 7, 7, 7, 7, 7, 7, 7, 7, 7, 7, 7, 7, 7, 7, 7, 7, 7, 7, 7, 7, 7, 7, 7, 8, 8, 8, 8, 8, 8, 8, 8, 8, 8, 8, 8, 8, 8, 8, 8, 8, 8, 8, 8, 8, 8, 8, 8, 8, 8, 8, 8, 8, 8, 8, 8, 8, 8, 8, 8, 8, 8, 8, 8, 8, 8, 8, 8, 8, 8, 8, 8, 8, 8, 8, 8, 8, 8, 8, 8, 8, 8, 8, 8, 8, 8, 8, 8, 8, 8, 8, 8, 8, 8, 8, 8, 8, 8, 8, 8, 8, 8, 8, 8, 8, 8, 8, 8, 8, 8, 8, 8, 8, 8, 8, 8, 8, 8, 8, 8, 8, 8, 8, 8, 8, 8, 8, 8, 8, 8, 8, 8, 8, 8, 8, 8, 8, 8, 8, 8, 8, 8, 8, 8, 8, 8, 8, 8, 8, 8, 8, 8]⟩ ((n / 4294967296) / 65536) (lenF ((n / 4294967296) / 65536)) (by kernel_rfl) (by kernel_rfl) (by omega) ((show (_ : Int) < (256 : Nat) by omega)) (len8' (by omega) (by omega))) ?_
  obtain ⟨t, ht⟩ : ∃ x : Int, x = lenF ((n / 4294967296) / 65536) := ⟨_, rfl⟩
  refine J.head (.int .u8 t) (congrArg (Value.int .u8) ht.symm) ?_
  have := lenF_small (i := ((n / 4294967296) / 65536)) (by omega) (by omega); rw [← ht] at this
  refine J.run 1 K117_11 [(23, .int .i64 (IntKind.wrap .i64 t)), (19, .int .i64 48)] w (by kernel_rfl) ?_
  refine J.head (.int .i64 t) (congrArg (Value.int .i64) (IntWalk.i64_in _ (by omega))) ?_
  refine J.run 1 K117_12 [(24, .int .i64 (IntKind.wrap .i64 (48 + t)))] w (by kernel_rfl) ?_
  refine J.head (.int .i64 (48 + t)) (congrArg (Value.int .i64) (IntWalk.i64_in _ (by omega))) ?_
  refine J.run 2 K117_13 [(2, .int .i64 (48 + t))] w (by kernel_rfl) ?_
  refine J.ret Tryz.f117 [.int .i64 (48 + t)] Tryz.func117 ⟨by kernel_rfl, trivial⟩ ?_
  refine hR _ _ ?_
  exact ⟨by rw [tup_one]; exact congrArg (Value.int .i64) (by rw [lenF_32 (by omega), lenF_16 (by omega), ht] <;> omega), S0.nil⟩
 refine J.head (.bool true) (congrArg Value.bool (decide_eq_true fk3)) ?_
 refine J.run 5 K117_5 [(16, .int .u64 (Int.fdiv ((n / 4294967296) / 65536) (2 ^ 8))), (2, .int .i64 48)] w (by kernel_rfl) ?_
 refine J.head (.int .u64 (((n / 4294967296) / 65536) / 256)) (congrArg (Value.int .u64) (shr_lit _ _ (by decide))) ?_
 refine J.run 12 K117_6 [(21, .int .u8 (IntKind.wrap .u8 (((n / 4294967296) / 65536) / 256))), (19, .int .i64 56)] w (by kernel_rfl) ?_
 refine J.head (.int .u8 (((n / 4294967296) / 65536) / 256)) (congrArg (Value.int .u8) (IntWalk.u8_in _ (by omega))) ?_
 refine J.ok (OK.byte 22 9 ⟨#[0, 1, 2, 2, 3, 3, 3, 3, 4, 4, 4, 4, 4, 4, 4, 4, 5, 5, 5, 5, 5, 5, 5, 5, 5, 5, 5, 5, 5, 5, 5, 5, 6, 6, 6, 6, 6, 6, 6, 6, 6, 6, 6, 6, 6, 6, 6, 6, 6, 6, 6, 6, 6, 6, 6, 6, 6, 6, 6, 6, 6, 6, 6, 6, 7, 7, 7, 7, 7, 7, 7, 7, 7, 7, 7, 7, 7, 7, 7, 7, 7, 7, 7, 7, 7, 7, 7, 7, 7, 7, 7, 7, 7, 7, 7, 7, 7, 7, 7, 7, 7, 7, 7, 7, 7, 7, 7, 7, 7, 7, 7, 7, 7, 7, 7, 7, 7, 7, 7, 7, 7, 7, 7, 7, 7, 7, 7, 7, 8, 8, 8, 8, 8, 8, 8, 8, 8, 8, 8, 8, 8, 8, 8, 8, 8, 8, 8, 8, 8, 8, 8, 8, 8, 8, 8, 8, 8, 8, 8, 8, 8, 8, 8, 8, 8, 8, 8, 8, 8, 8, 8, 8, 8, 8, 8, 8, 8, 8, 8, 8, 8, 8, 8, 8, 8, 8, 8, 8, 8, 8, 8, 8, 8, 8, 8, 8, 8, 8, 8, 8, 8, 8, 8, 8, 8, 8, 8, 8, 8, 8, 8, 8, 8, 8, 8, 8, 8, 8, 8, 8, 8, 8, 8, 8, 8, 8, 8, 8, 8, 8, 8, 8, 8, 8, 8, 8, 8, 8, 8, 8, 8, 8, 8, 8, 8, 8, 8, 8, 8, 8, 8, 8, 8, 8, 8, 8]⟩ (((n / 4294967296) / 65536) / 256) (lenF (((n / 4294967296) / 65536) / 256)) (by kernel_rfl) (by kernel_rfl) (by omega) ((show (_ : Int) < (256 : Nat) by omega)) (len8' (by omega) (by omega))) ?_
 obtain ⟨t, ht⟩ : ∃ x : Int, x = lenF (((n / 4294967296) / 65536) / 256) := ⟨_, rfl⟩
 refine J.head (.int .u8 t) (congrArg (Value.int .u8) ht.symm) ?_
 have := lenF_small (i := (((n / 4294967296) / 65536) / 256)) (by omega) (by omega); rw [← ht] at this
 refine J.run 1 K117_7 [(23, .int .i64 (IntKind.wrap .i64 t)), (19, .int .i64 56)] w (by kernel_rfl) ?_
 refine J.head (.int .i64 t) (congrArg (Value.int .i64) (IntWalk.i64_in _ (by omega))) ?_
 refine J.run 1 K117_8 [(24, .int .i64 (IntKind.wrap .i64 (56 + t)))] w (by kernel_rfl) ?_
 refine J.head (.int .i64 (56 + t)) (congrArg (Value.int .i64) (IntWalk.i64_in _ (by omega))) ?_
 refine J.run 2 K117_9 [(2, .int .i64 (56 + t))] w (by kernel_rfl) ?_
 refine J.ret Tryz.f117 [.int .i64 (56 + t)] Tryz.func117 ⟨by kernel_rfl, trivial⟩ ?_
 refine hR _ _ ?_
 exact ⟨by rw [tup_one]; exact congrArg (Value.int .i64) (by rw [lenF_32 (by omega), lenF_16 (by omega), lenF_8 (by omega), ht] <;> omega), S0.nil⟩

theorem hb121 : HasBody Tryz.prog 121 := fun _ _ => by kernel_rfl
def K121_0 := adv 7 [] (bodyOf Tryz.f121)
def K121_1 := adv 1 [] (popK K121_0)
def K121_2 := adv 2 [] K121_1
set_option maxRecDepth 20000 in
set_option maxHeartbeats 20000000 in
theorem zeros_any (n : Int) (w : World) (hn : 0 ≤ n ∧ n ≤ 18446744073709551615) : Ret Tryz.prog 121 #[.int .u64 n] w (fun v w' => v = .int .i64 (64 - lenF n) ∧ Sep w [] w') := by
 have S0 := Sep.refl w
 refine Ret.named fun R hR => ?_
 refine Ret.of_J (N := 6) [(0, .int .u64 n)] Tryz.func121 rfl rfl (Nat.le_of_ble_eq_true (by kernel_rfl)) (by kernel_rfl) ?_
 refine J.run 7 K121_0 [(3, .int .u64 n)] w (by kernel_rfl) ?_
 have := lenF_bounds (i := n) (by omega) (by omega)
 refine J.callF 4 117 #[.int .u64 n] hb117 (by kernel_rfl) (len_any n _ (by omega)) ?_
 rintro _ w1 ⟨rfl, T1⟩
 have S1 : Sep w [] w1 := S0.trans T1
 clear T1
 refine J.run 1 K121_1 [(5, .int .i64 (IntKind.wrap .i64 (64 - (lenF n))))] w1 (by kernel_rfl) ?_
 refine J.head (.int .i64 (64 - (lenF n))) (congrArg (Value.int .i64) (IntWalk.i64_in _ (by omega))) ?_
 refine J.run 2 K121_2 [(2, .int .i64 (64 - (lenF n)))] w1 (by kernel_rfl) ?_
 refine J.ret Tryz.f121 [.int .i64 (64 - (lenF n))] Tryz.func121 ⟨by kernel_rfl, trivial⟩ ?_
 refine hR _ _ ?_
 exact ⟨rfl, S1.nil⟩

theorem pow_le63 {k : Nat} (h : k ≤ 63) : (1 : Int) ≤ 2 ^ k ∧ (2 : Int) ^ k ≤ 9223372036854775808 := by
  have h1 : (1 : Int) ≤ 2 ^ k := by exact_mod_cast Nat.one_le_two_pow
  have h2 : (2 : Int) ^ k ≤ 2 ^ 63 := by exact_mod_cast Nat.pow_le_pow_right (by omega) h
  omega
theorem norm_facts {n : Int} (h : 1 ≤ n) (h2 : n ≤ 18446744073709551615) : ∃ s : Nat, 64 - lenF n = s ∧ s ≤ 63 ∧ 9223372036854775808 ≤ n * 2 ^ s ∧ n * 2 ^ s ≤ 18446744073709551615 ∧ 1 ≤ (2 : Int) ^ s := by
  obtain ⟨k, e, h3, h4⟩ := lenF_spec (n := n) (by omega)
  have hb := lenF_bounds (i := n) (by omega) (by omega)
  have h63 : k ≤ 63 := by omega
  refine ⟨63 - k, by omega, by omega, ?_, ?_, (pow_le63 (by omega)).1⟩
  · have := Int.mul_le_mul_of_nonneg_right h3 (show (0 : Int) ≤ 2 ^ (63 - k) by have := (pow_le63 (k := 63 - k) (by omega)).1; omega)
    rw [← Int.pow_add, show k + (63 - k) = 63 by omega] at this
    omega
  · have := Int.mul_lt_mul_of_pos_right h4 (show (0 : Int) < 2 ^ (63 - k) by have := (pow_le63 (k := 63 - k) (by omega)).1; omega)
    rw [← Int.pow_add, show k + 1 + (63 - k) = 64 by omega] at this
    omega
theorem ediv_of {x d k : Int} (hd : 0 < d) (h1 : k * d ≤ x) (h2 : x < k * d + d) : x / d = k := by
  rw [show x = (x - k * d) + k * d by omega, Int.add_mul_ediv_right _ _ (by omega), Int.ediv_eq_zero_of_lt (by omega) (by omega), Int.zero_add]
theorem emod_of {x d k : Int} (hd : 0 < d) (h1 : k * d ≤ x) (h2 : x < k * d + d) : x % d = x - k * d := by
  rw [Int.emod_def, ediv_of hd h1 h2, Int.mul_comm]
theorem kn_exit {b Y yn1 yn0 u q rh d : Int} (hY : Y = yn1 * b + yn0) (hu : u = q * yn1 + rh) (h : q * yn0 ≤ b * rh + d) : q * Y ≤ u * b + d := by
  subst hY hu
  have : (q * yn1 + rh) * b + d - q * (yn1 * b + yn0) = b * rh + d - q * yn0 := by grind
  omega
theorem kn_dec {b Y yn1 yn0 u q rh d : Int} (hY : Y = yn1 * b + yn0) (hu : u = q * yn1 + rh) (h : b * rh + d < q * yn0) : u * b + d < q * Y := by
  subst hY hu
  have : (q * yn1 + rh) * b + d - q * (yn1 * b + yn0) = b * rh + d - q * yn0 := by grind
  omega
/-- the shifted number in two words: what the shifts and the or give -/
theorem kn_words {hi lo y : Int} {s : Nat} (hs : s ≤ 63) (hh : 0 ≤ hi) (hhy : hi < y) (hl : 0 ≤ lo ∧ lo ≤ 18446744073709551615) (hy : y * 2 ^ s ≤ 18446744073709551615) :
    (0 ≤ hi * 2 ^ s ∧ hi * 2 ^ s ≤ 18446744073709551615) ∧ (0 ≤ lo / 2 ^ (64 - s) ∧ lo / 2 ^ (64 - s) < 2 ^ s) ∧ hi * 2 ^ s + lo / 2 ^ (64 - s) < y * 2 ^ s ∧
    (hi * 18446744073709551616 + lo) * 2 ^ s = (hi * 2 ^ s + lo / 2 ^ (64 - s)) * 18446744073709551616 + (lo * 2 ^ s) % 18446744073709551616 := by
  have hp : (2 : Int) ^ s * 2 ^ (64 - s) = 18446744073709551616 := by rw [← Int.pow_add, show s + (64 - s) = 64 by omega]; rfl
  have h1 := (pow_le63 hs).1
  have h2 : (1 : Int) ≤ 2 ^ (64 - s) := by exact_mod_cast Nat.one_le_two_pow
  generalize (2 : Int) ^ s = p at *
  generalize (2 : Int) ^ (64 - s) = pp at *
  have h3 : 0 ≤ lo / pp := Int.ediv_nonneg hl.1 (by omega)
  have h4 : lo / pp < p := Int.ediv_lt_of_lt_mul (by omega) (by rw [hp]; omega)
  have h5 : (hi + 1) * p ≤ y * p := Int.mul_le_mul_of_nonneg_right (by omega) (by omega)
  have h6 : 0 ≤ hi * p := Int.mul_nonneg hh (by omega)
  have h7 : (hi + 1) * p = hi * p + p := by grind
  refine ⟨⟨h6, by omega⟩, ⟨h3, h4⟩, by omega, ?_⟩
  have h8 : lo * p = lo / pp * 18446744073709551616 + lo % pp * p := by
    rw [← hp]; have := Int.mul_ediv_add_emod lo pp; grind
  have h9 : 0 ≤ lo % pp * p := Int.mul_nonneg (Int.emod_nonneg _ (by omega)) (by omega)
  have h10 : lo % pp * p < 18446744073709551616 := by
    rw [← hp, Int.mul_comm p pp]; exact Int.mul_lt_mul_of_pos_right (Int.emod_lt_of_pos _ (by omega)) (by omega)
  have h11 : (lo * p) % 18446744073709551616 = lo % pp * p := by omega
  rw [h11]
  have : (hi * 18446744073709551616 + lo) * p = hi * p * 18446744073709551616 + lo * p := by grind
  omega
theorem or_add {m b : Int} {s : Nat} (hb : 0 ≤ b ∧ b < 2 ^ s) (hm : 0 ≤ m) (h : m * 2 ^ s + b ≤ 18446744073709551615) : IntKind.wrap .u64 ((BitVec.ofInt 64 (m * 2 ^ s) ||| BitVec.ofInt 64 b).toNat : Int) = m * 2 ^ s + b := by
  obtain ⟨m, rfl⟩ : ∃ k : Nat, m = k := ⟨m.toNat, by omega⟩
  obtain ⟨b, rfl⟩ : ∃ k : Nat, b = k := ⟨b.toNat, by omega⟩
  have h1 : b < 2 ^ s := by exact_mod_cast hb.2
  have h0 : ((m * 2 ^ s + b : Nat) : Int) ≤ 18446744073709551615 := by rw [Int.natCast_add, Int.natCast_mul, Int.natCast_pow]; exact h
  have h2 : m * 2 ^ s + b ≤ 18446744073709551615 := by omega
  have h3 : ((m : Int) * 2 ^ s) = ((m * 2 ^ s : Nat) : Int) := by rw [Int.natCast_mul, Int.natCast_pow]; rfl
  have h4 : (BitVec.ofInt 64 ((m * 2 ^ s : Nat) : Int) ||| BitVec.ofInt 64 (b : Int)).toNat = m * 2 ^ s + b := by
    rw [BitVec.toNat_or, BitVec.ofInt_natCast, BitVec.ofInt_natCast, BitVec.toNat_ofNat, BitVec.toNat_ofNat, Nat.mod_eq_of_lt (by omega), Nat.mod_eq_of_lt (by omega), Nat.mul_comm, Nat.two_pow_add_eq_or_of_lt h1]
  rw [h3, h4, Int.natCast_add]
  refine IntWalk.u64_in _ ⟨by omega, ?_⟩
  rw [← Int.natCast_add]
  exact h0
theorem shl_s {x sh : Int} {s : Nat} (h : sh.toNat = s) (hs : s ≤ 63) (hb : 0 ≤ x * 2 ^ s ∧ x * 2 ^ s ≤ 18446744073709551615) : IntKind.wrap .u64 (x * 2 ^ min sh.toNat (IntKind.bits .u64)) = x * 2 ^ s := by
  rw [h, show min s (IntKind.bits .u64) = s from Nat.min_eq_left (show s ≤ 64 by omega)]; exact IntWalk.u64_in _ hb
theorem shl_m {x sh : Int} {s : Nat} (h : sh.toNat = s) (hs : s ≤ 63) : IntKind.wrap .u64 (x * 2 ^ min sh.toNat (IntKind.bits .u64)) = x * 2 ^ s % 18446744073709551616 := by
  rw [h, show min s (IntKind.bits .u64) = s from Nat.min_eq_left (show s ≤ 64 by omega)]; exact wrap_u64 _
theorem shr_s {x sh : Int} {s : Nat} (h : sh.toNat = s) (hs : s ≤ 64) : x.fdiv (2 ^ min sh.toNat (IntKind.bits .u64)) = x / 2 ^ s := by
  rw [h, show min s (IntKind.bits .u64) = s from Nat.min_eq_left (show s ≤ 64 by omega), Int.fdiv_eq_ediv_of_nonneg _ (Int.le_of_lt (Int.pow_pos (by omega)))]
theorem quo_facts {q u y : Int} (h : q = u / y) (hu : 0 ≤ u) (hy : 1 ≤ y) : q * y ≤ u ∧ u < q * y + y ∧ (0 ≤ q ∧ 0 ≤ q * y) ∧ q ≤ u := by
  have h1 := Int.mul_ediv_add_emod u y
  have h2 := Int.emod_nonneg u (show y ≠ 0 by omega)
  have h3 := Int.emod_lt_of_pos u (show 0 < y by omega)
  rw [← h, Int.mul_comm] at h1
  have h4 : 0 ≤ q := by rw [h]; exact Int.ediv_nonneg hu (by omega)
  have h5 : q * 1 ≤ q * y := Int.mul_le_mul_of_nonneg_left hy h4
  have h6 := Int.mul_nonneg h4 (show 0 ≤ y by omega)
  omega
theorem sub1_mul (q y : Int) : (q - 1) * y = q * y - y := by rw [Int.sub_mul, Int.one_mul]
theorem kn_lt {Q q y n : Int} (hy : 0 < y) (h1 : Q * y ≤ n) (h2 : n < q * y) : Q < q := Int.lt_of_mul_lt_mul_right (Int.lt_of_le_of_lt h1 h2) (by omega)
theorem kn_le {Q q y n : Int} (hy : 0 < y) (h1 : n < Q * y + y) (h2 : q * y ≤ n) : q ≤ Q := by
  have : q * y < (Q + 1) * y := by have : (Q + 1) * y = Q * y + y := by grind
                                   omega
  have := Int.lt_of_mul_lt_mul_right this (by omega); omega
theorem kn_brk {Y yn1 yn0 u q rh d : Int} (hY : Y = yn1 * 4294967296 + yn0) (hu : u = q * yn1 + rh) (huY : u < Y) (h1 : 1 ≤ yn1) (h0 : 0 ≤ yn0 ∧ yn0 < 4294967296) (hr : 4294967296 ≤ rh) (hd : 0 ≤ d) (hq : 0 ≤ q) : q * Y ≤ u * 4294967296 + d := by
  refine kn_exit hY hu ?_
  have h2 : q < 4294967296 := by
    refine Int.lt_of_mul_lt_mul_right (a := yn1) ?_ (by omega)
    omega
  have := mul32 (a := q) (b := yn0) (by omega) (by omega)
  omega
theorem kn_end {X y p k r : Int} (hp : 1 ≤ p) (hy : 1 ≤ y) (h : X * p = k * (y * p) + r) (h0 : 0 ≤ r) (h1 : r < y * p) : X / y = k ∧ X % y = r / p := by
  have h2 : r = (X - k * y) * p := by grind
  have h3 : r / p = X - k * y := by rw [h2, Int.mul_ediv_cancel _ (by omega)]
  have h4 : 0 ≤ X - k * y := by rw [← h3]; exact Int.ediv_nonneg h0 (by omega)
  have h5 : X - k * y < y := by rw [← h3]; exact Int.ediv_lt_of_lt_mul (by omega) h1
  rw [h3]
  exact ⟨ediv_of (by omega) (by omega) (by omega), emod_of (by omega) (by omega) (by omega)⟩
theorem kn_start {Y yn1 yn0 u q0 d Q : Int} (hY : Y = yn1 * 4294967296 + yn0) (hq : q0 = u / yn1) (hu : 0 ≤ u ∧ u < Y) (h1 : 1 ≤ yn1) (h0 : 0 ≤ yn0 ∧ yn0 < 4294967296) (hd : 0 ≤ d ∧ d < 4294967296) (hQ : Q * Y ≤ u * 4294967296 + d) : Q ≤ q0 := by
  obtain ⟨a1, a2, a3, a4⟩ := quo_facts hq hu.1 h1
  refine Int.le_of_lt_add_one ?_
  refine kn_lt (y := Y) (n := u * 4294967296 + d) (by omega) hQ ?_
  have e : (q0 + 1) * Y = (q0 * yn1 + yn1) * 4294967296 + (q0 + 1) * yn0 := by rw [hY]; grind
  have e2 : 0 ≤ (q0 + 1) * yn0 := Int.mul_nonneg (by omega) h0.1
  omega
theorem hb110 : HasBody Tryz.prog 110 := fun _ _ => by kernel_rfl
def K110_0 := adv 11 [] (bodyOf Tryz.f110)
def K110_1 := adv 9 [false] K110_0
def K110_2 := adv 8 [false] K110_1
def K110_3 := adv 2 [true] K110_2
def K110_4 := adv 5 [false] K110_2
def K110_5 := adv 1 [] (popK K110_4)
def K110_6 := adv 6 [] K110_5
def K110_7 := adv 6 [] (popK K110_6)
def K110_8 := adv 6 [] K110_7
def K110_9 := adv 6 [] K110_8
def K110_10 := adv 3 [] (popK K110_9)
def K110_11 := adv 1 [] (popK K110_10)
def K110_12 := adv 6 [] K110_11
def K110_13 := adv 6 [] (popK K110_12)
def K110_14 := adv 6 [] K110_13
def K110_15 := adv 6 [] K110_14
def K110_16 := adv 8 [] (popK K110_15)
def K110_17 := adv 1 [] K110_16
def K110_18 := adv 3 [] K110_17
def K110_19 := List.drop 1 K110_18
def K110_20 := adv 10 [] K110_19
def K110_21 := adv 6 [] K110_20
def K110_22 := adv 8 [] (popK K110_21)
def K110_23 := adv 1 [] K110_22
def K110_24 := adv 3 [] K110_23
def K110_25 := List.drop 1 K110_24
def K110_26 := adv 4 [] K110_25
def K110_27 := adv 2 [] K110_26
def K110_28 := adv 8 [] K110_27
def K110_29 := adv 1 [] K110_28
def K110_30 := adv 3 [] (popK K110_29)
def K110_31 := adv 2 [] K110_24
def K110_32 := adv 6 [] K110_31
def K110_33 := adv 17 [true] K110_32
def K110_34 := adv 7 [] K110_33
def K110_35 := adv 7 [] K110_34
def K110_36 := adv 3 [] K110_32
def K110_37 := adv 2 [] K110_36
def K110_38 := adv 2 [] K110_37
def K110_39 := adv 3 [] K110_38
def K110_40 := adv 7 [true] K110_39
def K110_41 := adv 7 [] K110_40
def K110_42 := adv 7 [] K110_41
def K110_43 := adv 2 [] K110_18
def K110_44 := adv 6 [] K110_43
def K110_45 := adv 17 [true] K110_44
def K110_46 := adv 7 [] K110_45
def K110_47 := adv 7 [] K110_46
def K110_48 := adv 3 [] K110_44
def K110_49 := adv 2 [] K110_48
def K110_50 := adv 2 [] K110_49
def K110_51 := adv 3 [] K110_50
def K110_52 := adv 7 [true] K110_51
def K110_53 := adv 7 [] K110_52
def K110_54 := adv 7 [] K110_53
set_option maxRecDepth 20000 in
set_option maxHeartbeats 20000000 in
theorem div64_any (hi lo y : Int) (w : World) (hhi : 0 ≤ hi ∧ hi ≤ 18446744073709551615) (hlo : 0 ≤ lo ∧ lo ≤ 18446744073709551615) (hy : 0 ≤ y ∧ y ≤ 18446744073709551615) (hlt0 : hi < y) : Ret Tryz.prog 110 #[.int .u64 hi, .int .u64 lo, .int .u64 y] w (fun v w' => v = .tuple #[.int .u64 ((hi * 18446744073709551616 + lo) / y), .int .u64 ((hi * 18446744073709551616 + lo) % y)] ∧ Sep w [] w') := by
 have S0 := Sep.refl w
 refine Ret.named fun R hR => ?_
 refine Ret.of_J (N := 135) [(0, .int .u64 hi), (1, .int .u64 lo), (2, .int .u64 y)] Tryz.func110 rfl rfl (Nat.le_of_ble_eq_true (by kernel_rfl)) (by kernel_rfl) ?_
 refine J.run 11 K110_0 [(20, .bool (y == 0)), (0, .int .u64 hi), (1, .int .u64 lo), (2, .int .u64 y)] w (by kernel_rfl) ?_
 have fk2 : ¬ (y = 0) := by omega
 refine J.head (.bool false) (congrArg Value.bool (beq_eq_false_iff_ne.2 fk2)) ?_
 refine J.run 9 K110_1 [(24, .bool (decide (y ≤ hi))), (0, .int .u64 hi), (1, .int .u64 lo), (2, .int .u64 y)] w (by kernel_rfl) ?_
 have fk4 : ¬ (y ≤ hi) := by omega
 refine J.head (.bool false) (congrArg Value.bool (decide_eq_false fk4)) ?_
 refine J.run 8 K110_2 [(27, .bool (hi == 0)), (0, .int .u64 hi), (1, .int .u64 lo), (2, .int .u64 y)] w (by kernel_rfl) ?_
 by_cases fk5 : hi = 0
 ·skip
  refine J.head (.bool true) (congrArg Value.bool (beq_iff_eq.2 fk5)) ?_
  refine J.run 2 K110_3 [(1, .int .u64 lo), (2, .int .u64 y)] w (by kernel_rfl) ?_
  refine J.drawStill S0 8 Tryz.mixed (by kernel_rfl) (by kernel_rfl) (by kernel_rfl) ?_
  intro w1 S1
  refine SL.ok (by decide) (OK.run 28 (.int .u64 lo) (by kernel_rfl)) ?_
  refine SL.ok (by decide) (OK.run 29 (.int .u64 y) (by kernel_rfl)) ?_
  refine SL.ok (by decide) (OK.quo 30 .u64 lo y (by kernel_rfl) (by omega)) ?_
  refine SL.head (.int .u64 (lo / y)) (congrArg (Value.int .u64) (IntWalk.u64_quo _ _ (by omega))) ?_
  refine SL.ok (by decide) (OK.run 31 (.int .u64 lo) (by kernel_rfl)) ?_
  refine SL.ok (by decide) (OK.run 32 (.int .u64 y) (by kernel_rfl)) ?_
  refine SL.ok (by decide) (OK.rem 33 .u64 lo y (by kernel_rfl) (by omega)) ?_
  refine SL.head (.int .u64 (lo % y)) (congrArg (Value.int .u64) (IntWalk.rem_in _ _ (by omega))) ?_
  refine SL.ok (by decide) (OK.run 6 (.int .u64 (lo / y)) (by kernel_rfl)) ?_
  refine SL.ok (by decide) (OK.run 7 (.int .u64 (lo % y)) (by kernel_rfl)) ?_
  refine SL.done ?_
  refine TL.done (by kernel_rfl) ?_
  refine J.run 0 (rRest K110_3) [(7, .int .u64 (lo % y)), (6, .int .u64 (lo / y))] w1 (by kernel_rfl) ?_
  refine J.ret Tryz.f110 [.int .u64 (lo / y), .int .u64 (lo % y)] Tryz.func110 ⟨by kernel_rfl, by kernel_rfl, trivial⟩ ?_
  refine hR _ _ ?_
  exact ⟨by rw [tup_two, show (hi * 18446744073709551616 + lo) = lo by omega], S1.nil⟩
 refine J.head (.bool false) (congrArg Value.bool (beq_eq_false_iff_ne.2 fk5)) ?_
 refine J.run 5 K110_4 [(34, .int .u64 y), (0, .int .u64 hi), (1, .int .u64 lo), (2, .int .u64 y)] w (by kernel_rfl) ?_
 obtain ⟨s, hs, hs0, hs1, hs2, hs3⟩ := norm_facts (n := y) (by omega) (by omega)
 refine J.callF 35 121 #[.int .u64 y] hb121 (by kernel_rfl) (zeros_any y _ (by omega)) ?_
 rintro _ w2 ⟨rfl, T1⟩
 have S2 : Sep w [] w2 := S0.trans T1
 clear T1
 refine J.run 1 K110_5 [(36, .int .u64 (IntKind.wrap .u64 (64 - lenF y))), (0, .int .u64 hi), (1, .int .u64 lo), (2, .int .u64 y)] w2 (by kernel_rfl) ?_
 refine J.head (.int .u64 (64 - lenF y)) (congrArg (Value.int .u64) (IntWalk.u64_in _ (by omega))) ?_
 obtain ⟨sh, hsh⟩ : ∃ x : Int, x = 64 - lenF y := ⟨_, rfl⟩
 refine J.head (.int .u64 sh) (congrArg (Value.int .u64) hsh.symm) ?_
 have hsh2 : sh.toNat = s := by omega
 refine J.run 6 K110_6 [(38, .int .u64 sh), (37, .int .u64 y), (8, .int .u64 sh), (0, .int .u64 hi), (1, .int .u64 lo)] w2 (by kernel_rfl) ?_
 refine J.ok (OK.shl 39 .u64 y sh (y * 2 ^ s) (by kernel_rfl) (by omega) ((shl_s hsh2 hs0 (by omega)))) ?_
 obtain ⟨Y, hY⟩ : ∃ x : Int, x = y * 2 ^ s := ⟨_, rfl⟩
 refine J.head (.int .u64 Y) (congrArg (Value.int .u64) hY.symm) ?_
 obtain ⟨hw1, hw2, hw3, hw4⟩ := kn_words (hi := hi) (lo := lo) (y := y) hs0 (by omega) (by omega) (by omega) hs2
 refine J.run 6 K110_7 [(41, .int .u64 (Int.fdiv Y (2 ^ 32))), (2, .int .u64 Y), (8, .int .u64 sh), (0, .int .u64 hi), (1, .int .u64 lo)] w2 (by kernel_rfl) ?_
 refine J.head (.int .u64 (Y / 4294967296)) (congrArg (Value.int .u64) (shr_lit _ _ (by decide))) ?_
 obtain ⟨yn1, hyn1⟩ : ∃ x : Int, x = Y / 4294967296 := ⟨_, rfl⟩
 refine J.head (.int .u64 yn1) (congrArg (Value.int .u64) hyn1.symm) ?_
 refine J.run 6 K110_8 [(43, .int .u64 (IntKind.wrap .u64 ((BitVec.ofInt 64 Y &&& (BitVec.ofInt 64 (4294967295 : Int))).toNat : Int))), (9, .int .u64 yn1), (2, .int .u64 Y), (8, .int .u64 sh), (0, .int .u64 hi), (1, .int .u64 lo)] w2 (by kernel_rfl) ?_
 refine J.head (.int .u64 (Y % 4294967296)) (congrArg (Value.int .u64) (and_mask_u64 32 _ _ (by rfl) (by decide))) ?_
 obtain ⟨yn0, hyn0⟩ : ∃ x : Int, x = Y % 4294967296 := ⟨_, rfl⟩
 refine J.head (.int .u64 yn0) (congrArg (Value.int .u64) hyn0.symm) ?_
 have hY2 : Y = yn1 * 4294967296 + yn0 := by omega
 have hYb : 9223372036854775808 ≤ Y ∧ Y ≤ 18446744073709551615 := by omega
 have hyb : 2147483648 ≤ yn1 ∧ yn1 ≤ 4294967295 ∧ 0 ≤ yn0 ∧ yn0 ≤ 4294967295 := by omega
 refine J.run 6 K110_9 [(45, .int .u64 sh), (44, .int .u64 hi), (10, .int .u64 yn0), (9, .int .u64 yn1), (2, .int .u64 Y), (8, .int .u64 sh), (1, .int .u64 lo)] w2 (by kernel_rfl) ?_
 refine J.ok (OK.shl 46 .u64 hi sh (hi * 2 ^ s) (by kernel_rfl) (by omega) ((shl_s hsh2 hs0 (by omega)))) ?_
 refine J.run 3 K110_10 [(49, .int .u64 (IntKind.wrap .u64 (64 - sh))), (47, .int .u64 lo), (46, .int .u64 (hi * 2 ^ s)), (10, .int .u64 yn0), (9, .int .u64 yn1), (2, .int .u64 Y), (8, .int .u64 sh), (1, .int .u64 lo)] w2 (by kernel_rfl) ?_
 refine J.head (.int .u64 (64 - sh)) (congrArg (Value.int .u64) (IntWalk.u64_in _ (by omega))) ?_
 refine J.ok (OK.shr 50 .u64 lo (64 - sh) (lo / 2 ^ (64 - s)) (by kernel_rfl) (by omega) ((shr_s (by omega) (by omega)))) ?_
 refine J.run 1 K110_11 [(51, .int .u64 (IntKind.wrap .u64 ((BitVec.ofInt 64 (hi * 2 ^ s) ||| (BitVec.ofInt 64 (lo / 2 ^ (64 - s)))).toNat : Int))), (10, .int .u64 yn0), (9, .int .u64 yn1), (2, .int .u64 Y), (8, .int .u64 sh), (1, .int .u64 lo)] w2 (by kernel_rfl) ?_
 refine J.head (.int .u64 ((hi * 2 ^ s) + (lo / 2 ^ (64 - s)))) (congrArg (Value.int .u64) (or_add hw2 (by omega) (by omega))) ?_
 obtain ⟨u, hu⟩ : ∃ x : Int, x = (hi * 2 ^ s) + (lo / 2 ^ (64 - s)) := ⟨_, rfl⟩
 refine J.head (.int .u64 u) (congrArg (Value.int .u64) hu.symm) ?_
 have hu0 : 0 ≤ u ∧ u < Y := by omega
 refine J.run 6 K110_12 [(53, .int .u64 sh), (52, .int .u64 lo), (11, .int .u64 u), (10, .int .u64 yn0), (9, .int .u64 yn1), (2, .int .u64 Y), (8, .int .u64 sh)] w2 (by kernel_rfl) ?_
 refine J.ok (OK.shl 54 .u64 lo sh (lo * 2 ^ s % 18446744073709551616) (by kernel_rfl) (by omega) ((shl_m hsh2 hs0))) ?_
 obtain ⟨v, hv⟩ : ∃ x : Int, x = lo * 2 ^ s % 18446744073709551616 := ⟨_, rfl⟩
 refine J.head (.int .u64 v) (congrArg (Value.int .u64) hv.symm) ?_
 have hvb : 0 ≤ v ∧ v ≤ 18446744073709551615 := by omega
 refine J.run 6 K110_13 [(56, .int .u64 (Int.fdiv v (2 ^ 32))), (12, .int .u64 v), (11, .int .u64 u), (10, .int .u64 yn0), (9, .int .u64 yn1), (2, .int .u64 Y), (8, .int .u64 sh)] w2 (by kernel_rfl) ?_
 refine J.head (.int .u64 (v / 4294967296)) (congrArg (Value.int .u64) (shr_lit _ _ (by decide))) ?_
 obtain ⟨d1, hd1⟩ : ∃ x : Int, x = v / 4294967296 := ⟨_, rfl⟩
 refine J.head (.int .u64 d1) (congrArg (Value.int .u64) hd1.symm) ?_
 refine J.run 6 K110_14 [(58, .int .u64 (IntKind.wrap .u64 ((BitVec.ofInt 64 v &&& (BitVec.ofInt 64 (4294967295 : Int))).toNat : Int))), (13, .int .u64 d1), (11, .int .u64 u), (10, .int .u64 yn0), (9, .int .u64 yn1), (2, .int .u64 Y), (8, .int .u64 sh)] w2 (by kernel_rfl) ?_
 refine J.head (.int .u64 (v % 4294967296)) (congrArg (Value.int .u64) (and_mask_u64 32 _ _ (by rfl) (by decide))) ?_
 obtain ⟨d0, hd0⟩ : ∃ x : Int, x = v % 4294967296 := ⟨_, rfl⟩
 refine J.head (.int .u64 d0) (congrArg (Value.int .u64) hd0.symm) ?_
 have hdd : v = d1 * 4294967296 + d0 ∧ 0 ≤ d1 ∧ d1 < 4294967296 ∧ 0 ≤ d0 ∧ d0 < 4294967296 := by omega
 obtain ⟨Q, hQ⟩ : ∃ x : Int, x = (u * 4294967296 + d1) / Y := ⟨_, rfl⟩
 obtain ⟨hQ2, hQ3, hQ4, _⟩ := quo_facts hQ (by omega) (by omega)
 have hQ5 : Q < 4294967296 := by rw [hQ]; exact Int.ediv_lt_of_lt_mul (by omega) (by omega)
 refine J.run 6 K110_15 [(60, .int .u64 yn1), (59, .int .u64 u), (14, .int .u64 d0), (13, .int .u64 d1), (11, .int .u64 u), (10, .int .u64 yn0), (9, .int .u64 yn1), (2, .int .u64 Y), (8, .int .u64 sh)] w2 (by kernel_rfl) ?_
 refine J.ok (OK.quo 61 .u64 u yn1 (by kernel_rfl) (by omega)) ?_
 refine J.head (.int .u64 (u / yn1)) (congrArg (Value.int .u64) (IntWalk.u64_quo _ _ (by omega))) ?_
 obtain ⟨q0, hq0⟩ : ∃ x : Int, x = u / yn1 := ⟨_, rfl⟩
 refine J.head (.int .u64 q0) (congrArg (Value.int .u64) hq0.symm) ?_
 obtain ⟨hq01, hq02, hq03, hq04⟩ := quo_facts hq0 (by omega) (by omega)
 refine J.run 8 K110_16 [(65, .int .u64 (IntKind.wrap .u64 (q0 * yn1))), (62, .int .u64 u), (15, .int .u64 q0), (14, .int .u64 d0), (13, .int .u64 d1), (11, .int .u64 u), (10, .int .u64 yn0), (9, .int .u64 yn1), (2, .int .u64 Y), (8, .int .u64 sh)] w2 (by kernel_rfl) ?_
 refine J.head (.int .u64 (q0 * yn1)) (congrArg (Value.int .u64) (IntWalk.u64_in _ (by omega))) ?_
 refine J.run 1 K110_17 [(66, .int .u64 (IntKind.wrap .u64 (u - (q0 * yn1)))), (15, .int .u64 q0), (14, .int .u64 d0), (13, .int .u64 d1), (11, .int .u64 u), (10, .int .u64 yn0), (9, .int .u64 yn1), (2, .int .u64 Y), (8, .int .u64 sh)] w2 (by kernel_rfl) ?_
 refine J.head (.int .u64 (u - (q0 * yn1))) (congrArg (Value.int .u64) (IntWalk.u64_in _ (by omega))) ?_
 obtain ⟨r0, hr0⟩ : ∃ x : Int, x = u - (q0 * yn1) := ⟨_, rfl⟩
 refine J.head (.int .u64 r0) (congrArg (Value.int .u64) hr0.symm) ?_
 refine J.run 3 K110_18 [(16, .int .u64 r0), (15, .int .u64 q0), (14, .int .u64 d0), (13, .int .u64 d1), (11, .int .u64 u), (10, .int .u64 yn0), (9, .int .u64 yn1), (2, .int .u64 Y), (8, .int .u64 sh)] w2 (by kernel_rfl) ?_
 have X1 : ∀ (q : Int) (w3 : World), (q = Q) → Sep w [] w3 → J Tryz.prog 110 135 R K110_19 [(14, .int .u64 d0), (13, .int .u64 d1), (11, .int .u64 u), (10, .int .u64 yn0), (9, .int .u64 yn1), (2, .int .u64 Y), (8, .int .u64 sh), (15, .int .u64 q)] w3 := by
  intro q w3 hq4 S3
  refine J.run 10 K110_20 [(93, .int .u64 (IntKind.wrap .u64 ((IntKind.wrap .u64 ((IntKind.wrap .u64 (u * 4294967296)) + d1)) - (IntKind.wrap .u64 (q * Y))))), (14, .int .u64 d0), (10, .int .u64 yn0), (9, .int .u64 yn1), (2, .int .u64 Y), (8, .int .u64 sh), (15, .int .u64 q)] w3 (by kernel_rfl) ?_
  obtain ⟨u2, hu2⟩ : ∃ x : Int, x = IntKind.wrap .u64 ((IntKind.wrap .u64 ((IntKind.wrap .u64 (u * 4294967296)) + d1)) - (IntKind.wrap .u64 (q * Y))) := ⟨_, rfl⟩
  refine J.head (.int .u64 u2) (congrArg (Value.int .u64) hu2.symm) ?_
  have hu21 : u2 = u * 4294967296 + d1 - q * Y := by rw [hu2]; simp only [wrap_u64]; subst hq4; omega
  have hu02 : 0 ≤ u2 ∧ u2 < Y := by subst hq4; omega
  obtain ⟨Q2, hQ2⟩ : ∃ x : Int, x = (u2 * 4294967296 + d0) / Y := ⟨_, rfl⟩
  obtain ⟨hQ22, hQ23, hQ24, _⟩ := quo_facts hQ2 (by omega) (by omega)
  have hQ25 : Q2 < 4294967296 := by rw [hQ2]; exact Int.ediv_lt_of_lt_mul (by omega) (by omega)
  refine J.run 6 K110_21 [(95, .int .u64 yn1), (94, .int .u64 u2), (17, .int .u64 u2), (14, .int .u64 d0), (10, .int .u64 yn0), (9, .int .u64 yn1), (2, .int .u64 Y), (8, .int .u64 sh), (15, .int .u64 q)] w3 (by kernel_rfl) ?_
  refine J.ok (OK.quo 96 .u64 u2 yn1 (by kernel_rfl) (by omega)) ?_
  refine J.head (.int .u64 (u2 / yn1)) (congrArg (Value.int .u64) (IntWalk.u64_quo _ _ (by omega))) ?_
  obtain ⟨q20, hq20⟩ : ∃ x : Int, x = u2 / yn1 := ⟨_, rfl⟩
  refine J.head (.int .u64 q20) (congrArg (Value.int .u64) hq20.symm) ?_
  obtain ⟨hq201, hq202, hq203, hq204⟩ := quo_facts hq20 (by omega) (by omega)
  refine J.run 8 K110_22 [(100, .int .u64 (IntKind.wrap .u64 (q20 * yn1))), (97, .int .u64 u2), (18, .int .u64 q20), (17, .int .u64 u2), (14, .int .u64 d0), (10, .int .u64 yn0), (9, .int .u64 yn1), (2, .int .u64 Y), (8, .int .u64 sh), (15, .int .u64 q)] w3 (by kernel_rfl) ?_
  refine J.head (.int .u64 (q20 * yn1)) (congrArg (Value.int .u64) (IntWalk.u64_in _ (by omega))) ?_
  refine J.run 1 K110_23 [(101, .int .u64 (IntKind.wrap .u64 (u2 - (q20 * yn1)))), (18, .int .u64 q20), (17, .int .u64 u2), (14, .int .u64 d0), (10, .int .u64 yn0), (9, .int .u64 yn1), (2, .int .u64 Y), (8, .int .u64 sh), (15, .int .u64 q)] w3 (by kernel_rfl) ?_
  refine J.head (.int .u64 (u2 - (q20 * yn1))) (congrArg (Value.int .u64) (IntWalk.u64_in _ (by omega))) ?_
  obtain ⟨r20, hr20⟩ : ∃ x : Int, x = u2 - (q20 * yn1) := ⟨_, rfl⟩
  refine J.head (.int .u64 r20) (congrArg (Value.int .u64) hr20.symm) ?_
  refine J.run 3 K110_24 [(16, .int .u64 r20), (18, .int .u64 q20), (17, .int .u64 u2), (14, .int .u64 d0), (10, .int .u64 yn0), (9, .int .u64 yn1), (2, .int .u64 Y), (8, .int .u64 sh), (15, .int .u64 q)] w3 (by kernel_rfl) ?_
  have X2 : ∀ (q2 : Int) (w4 : World), (q2 = Q2) → Sep w [] w4 → J Tryz.prog 110 135 R K110_25 [(17, .int .u64 u2), (14, .int .u64 d0), (2, .int .u64 Y), (8, .int .u64 sh), (15, .int .u64 q), (18, .int .u64 q2)] w4 := by
   intro q2 w4 hq24 S4
   refine J.run 4 K110_26 [(122, .int .u64 (IntKind.wrap .u64 (q * 4294967296))), (17, .int .u64 u2), (14, .int .u64 d0), (2, .int .u64 Y), (8, .int .u64 sh), (18, .int .u64 q2)] w4 (by kernel_rfl) ?_
   refine J.head (.int .u64 (q * 4294967296)) (congrArg (Value.int .u64) (IntWalk.u64_in _ (by omega))) ?_
   refine J.run 2 K110_27 [(124, .int .u64 (IntKind.wrap .u64 ((q * 4294967296) + q2))), (17, .int .u64 u2), (14, .int .u64 d0), (2, .int .u64 Y), (8, .int .u64 sh), (18, .int .u64 q2)] w4 (by kernel_rfl) ?_
   refine J.head (.int .u64 ((q * 4294967296) + q2)) (congrArg (Value.int .u64) (IntWalk.u64_in _ (by omega))) ?_
   refine J.run 8 K110_28 [(132, .int .u64 (IntKind.wrap .u64 ((IntKind.wrap .u64 ((IntKind.wrap .u64 (u2 * 4294967296)) + d0)) - (IntKind.wrap .u64 (q2 * Y))))), (124, .int .u64 ((q * 4294967296) + q2)), (8, .int .u64 sh)] w4 (by kernel_rfl) ?_
   obtain ⟨r2, hr2⟩ : ∃ x : Int, x = IntKind.wrap .u64 ((IntKind.wrap .u64 ((IntKind.wrap .u64 (u2 * 4294967296)) + d0)) - (IntKind.wrap .u64 (q2 * Y))) := ⟨_, rfl⟩
   refine J.head (.int .u64 r2) (congrArg (Value.int .u64) hr2.symm) ?_
   have hr21 : r2 = u2 * 4294967296 + d0 - q2 * Y := by rw [hr2]; simp only [wrap_u64]; subst hq24; omega
   have hr22 : 0 ≤ r2 ∧ r2 < Y := by subst hq24; omega
   refine J.run 1 K110_29 [(133, .int .u64 sh), (132, .int .u64 r2), (124, .int .u64 ((q * 4294967296) + q2))] w4 (by kernel_rfl) ?_
   refine J.ok (OK.shr 134 .u64 r2 sh (r2 / 2 ^ s) (by kernel_rfl) (by omega) ((shr_s hsh2 (by omega)))) ?_
   refine J.run 3 K110_30 [(7, .int .u64 (r2 / 2 ^ s)), (6, .int .u64 ((q * 4294967296) + q2))] w4 (by kernel_rfl) ?_
   refine J.ret Tryz.f110 [.int .u64 ((q * 4294967296) + q2), .int .u64 (r2 / 2 ^ s)] Tryz.func110 ⟨by kernel_rfl, by kernel_rfl, trivial⟩ ?_
   refine hR _ _ ?_
   have e0 : (q * 4294967296 + q2) * (y * 2 ^ s) = q * (y * 2 ^ s) * 4294967296 + q2 * (y * 2 ^ s) := by grind
   obtain ⟨e1, e2⟩ := kn_end (X := (hi * 18446744073709551616 + lo)) (y := y) (p := 2 ^ s) (k := q * 4294967296 + q2) (r := r2) hs3 (by omega) (by rw [hw4, e0, ← hY, ← hu, ← hv]; omega) (by omega) (by omega)
   exact ⟨by rw [tup_two, e1, e2], S4.nil⟩
  refine J.run 2 K110_31 [(16, .int .u64 r20), (18, .int .u64 q20), (17, .int .u64 u2), (14, .int .u64 d0), (10, .int .u64 yn0), (9, .int .u64 yn1), (2, .int .u64 Y), (8, .int .u64 sh), (15, .int .u64 q)] w3 (by kernel_rfl) ?_
  have L110_1 : ∀ (mm_ : Nat) (q2 : Int) (rq2 : Int) (w5 : World), (u2 = q2 * yn1 + rq2) → (Q2 ≤ q2 ∧ q2 ≤ u2) → (0 ≤ rq2 ∧ rq2 < 4294967296) → Sep w [] w5 → (q2).toNat = mm_ → J Tryz.prog 110 135 R K110_31 [(16, .int .u64 rq2), (18, .int .u64 q2), (17, .int .u64 u2), (14, .int .u64 d0), (10, .int .u64 yn0), (9, .int .u64 yn1), (2, .int .u64 Y), (8, .int .u64 sh), (15, .int .u64 q)] w5 := by
   intro mm1
   induction mm1 using Nat.strongRecOn with
   | _ mm1 ih1 =>
   intro q2 rq2 w5 hq21 hq22 hq23 S5 hm1
   have hrr : yn1 ≤ 4294967295 := by omega
   refine J.run 6 K110_32 [(104, .bool (decide (q2 ≥ 4294967296))), (16, .int .u64 rq2), (18, .int .u64 q2), (17, .int .u64 u2), (14, .int .u64 d0), (10, .int .u64 yn0), (9, .int .u64 yn1), (2, .int .u64 Y), (8, .int .u64 sh), (15, .int .u64 q)] w5 (by kernel_rfl) ?_
   by_cases fk6 : q2 ≥ 4294967296
   ·skip
    refine J.head (.bool true) (congrArg Value.bool (decide_eq_true fk6)) ?_
    have hlt : Q2 < q2 := by omega
    refine J.run 17 K110_33 [(115, .int .u64 (IntKind.wrap .u64 (q2 - 1))), (16, .int .u64 rq2), (17, .int .u64 u2), (14, .int .u64 d0), (10, .int .u64 yn0), (9, .int .u64 yn1), (2, .int .u64 Y), (8, .int .u64 sh), (15, .int .u64 q)] w5 (by kernel_rfl) ?_
    refine J.head (.int .u64 (q2 - 1)) (congrArg (Value.int .u64) (IntWalk.u64_in _ (by omega))) ?_
    refine J.run 7 K110_34 [(118, .int .u64 (IntKind.wrap .u64 (rq2 + yn1))), (18, .int .u64 (q2 - 1)), (17, .int .u64 u2), (14, .int .u64 d0), (10, .int .u64 yn0), (9, .int .u64 yn1), (2, .int .u64 Y), (8, .int .u64 sh), (15, .int .u64 q)] w5 (by kernel_rfl) ?_
    refine J.head (.int .u64 (rq2 + yn1)) (congrArg (Value.int .u64) (IntWalk.u64_in _ (by omega))) ?_
    refine J.run 7 K110_35 [(120, .bool (decide ((rq2 + yn1) ≥ 4294967296))), (16, .int .u64 (rq2 + yn1)), (18, .int .u64 (q2 - 1)), (17, .int .u64 u2), (14, .int .u64 d0), (10, .int .u64 yn0), (9, .int .u64 yn1), (2, .int .u64 Y), (8, .int .u64 sh), (15, .int .u64 q)] w5 (by kernel_rfl) ?_
    by_cases fk7 : (rq2 + yn1) ≥ 4294967296
    ·skip
     refine J.head (.bool true) (congrArg Value.bool (decide_eq_true fk7)) ?_
     refine J.run 2 K110_25 [(17, .int .u64 u2), (14, .int .u64 d0), (2, .int .u64 Y), (8, .int .u64 sh), (15, .int .u64 q), (18, .int .u64 (q2 - 1))] w5 (by kernel_rfl) ?_
     exact X2 (q2 - 1) w5 (by have e := kn_le (q := q2 - 1) (by omega) hQ23 (kn_brk (q := q2 - 1) (rh := rq2 + yn1) hY2 (by have e9 := sub1_mul q2 yn1; omega) (by omega) (by omega) (by omega) (by omega) (by omega) (by omega)); omega) S5
    refine J.head (.bool false) (congrArg Value.bool (decide_eq_false fk7)) ?_
    refine J.run 4 K110_31 [(16, .int .u64 (rq2 + yn1)), (18, .int .u64 (q2 - 1)), (17, .int .u64 u2), (14, .int .u64 d0), (10, .int .u64 yn0), (9, .int .u64 yn1), (2, .int .u64 Y), (8, .int .u64 sh), (15, .int .u64 q)] w5 (by kernel_rfl) ?_
    refine J.run 0 K110_31 [(16, .int .u64 (rq2 + yn1)), (18, .int .u64 (q2 - 1)), (17, .int .u64 u2), (14, .int .u64 d0), (10, .int .u64 yn0), (9, .int .u64 yn1), (2, .int .u64 Y), (8, .int .u64 sh), (15, .int .u64 q)] w5 (by kernel_rfl) ?_
    exact ih1 _ (show ((q2 - 1)).toNat < mm1 from by omega) (q2 - 1) (rq2 + yn1) w5 (by have e9 := sub1_mul q2 yn1; omega) (by omega) (by omega) S5 rfl
   refine J.head (.bool false) (congrArg Value.bool (decide_eq_false fk6)) ?_
   have := mul32 (a := q2) (b := yn0) (by omega) (by omega)
   refine J.run 3 K110_36 [(107, .int .u64 (IntKind.wrap .u64 (q2 * yn0))), (104, .bool false), (16, .int .u64 rq2), (18, .int .u64 q2), (17, .int .u64 u2), (14, .int .u64 d0), (10, .int .u64 yn0), (9, .int .u64 yn1), (2, .int .u64 Y), (8, .int .u64 sh), (15, .int .u64 q)] w5 (by kernel_rfl) ?_
   refine J.head (.int .u64 (q2 * yn0)) (congrArg (Value.int .u64) (IntWalk.u64_in _ (by omega))) ?_
   refine J.run 2 K110_37 [(109, .int .u64 (IntKind.wrap .u64 (4294967296 * rq2))), (107, .int .u64 (q2 * yn0)), (104, .bool false), (16, .int .u64 rq2), (18, .int .u64 q2), (17, .int .u64 u2), (14, .int .u64 d0), (10, .int .u64 yn0), (9, .int .u64 yn1), (2, .int .u64 Y), (8, .int .u64 sh), (15, .int .u64 q)] w5 (by kernel_rfl) ?_
   refine J.head (.int .u64 (4294967296 * rq2)) (congrArg (Value.int .u64) (IntWalk.u64_in _ (by omega))) ?_
   refine J.run 2 K110_38 [(111, .int .u64 (IntKind.wrap .u64 ((4294967296 * rq2) + d0))), (107, .int .u64 (q2 * yn0)), (104, .bool false), (16, .int .u64 rq2), (18, .int .u64 q2), (17, .int .u64 u2), (14, .int .u64 d0), (10, .int .u64 yn0), (9, .int .u64 yn1), (2, .int .u64 Y), (8, .int .u64 sh), (15, .int .u64 q)] w5 (by kernel_rfl) ?_
   refine J.head (.int .u64 ((4294967296 * rq2) + d0)) (congrArg (Value.int .u64) (IntWalk.u64_in _ (by omega))) ?_
   refine J.run 3 K110_39 [(113, .bool (decide ((q2 * yn0) > ((4294967296 * rq2) + d0)))), (16, .int .u64 rq2), (18, .int .u64 q2), (17, .int .u64 u2), (14, .int .u64 d0), (10, .int .u64 yn0), (9, .int .u64 yn1), (2, .int .u64 Y), (8, .int .u64 sh), (15, .int .u64 q)] w5 (by kernel_rfl) ?_
   by_cases fk8 : (q2 * yn0) > ((4294967296 * rq2) + d0)
   rotate_left
   ·skip
    refine J.head (.bool false) (congrArg Value.bool (decide_eq_false fk8)) ?_
    refine J.run 2 K110_25 [(17, .int .u64 u2), (14, .int .u64 d0), (2, .int .u64 Y), (8, .int .u64 sh), (15, .int .u64 q), (18, .int .u64 q2)] w5 (by kernel_rfl) ?_
    exact X2 q2 w5 (by have e := kn_le (q := q2) (by omega) hQ23 (kn_exit (b := 4294967296) hY2 hq21 (by omega)); omega) S5
   refine J.head (.bool true) (congrArg Value.bool (decide_eq_true fk8)) ?_
   have hlt : Q2 < q2 := kn_lt (by omega) hQ22 (kn_dec (b := 4294967296) hY2 hq21 (by omega))
   refine J.run 7 K110_40 [(115, .int .u64 (IntKind.wrap .u64 (q2 - 1))), (16, .int .u64 rq2), (17, .int .u64 u2), (14, .int .u64 d0), (10, .int .u64 yn0), (9, .int .u64 yn1), (2, .int .u64 Y), (8, .int .u64 sh), (15, .int .u64 q)] w5 (by kernel_rfl) ?_
   refine J.head (.int .u64 (q2 - 1)) (congrArg (Value.int .u64) (IntWalk.u64_in _ (by omega))) ?_
   refine J.run 7 K110_41 [(118, .int .u64 (IntKind.wrap .u64 (rq2 + yn1))), (18, .int .u64 (q2 - 1)), (17, .int .u64 u2), (14, .int .u64 d0), (10, .int .u64 yn0), (9, .int .u64 yn1), (2, .int .u64 Y), (8, .int .u64 sh), (15, .int .u64 q)] w5 (by kernel_rfl) ?_
   refine J.head (.int .u64 (rq2 + yn1)) (congrArg (Value.int .u64) (IntWalk.u64_in _ (by omega))) ?_
   refine J.run 7 K110_42 [(120, .bool (decide ((rq2 + yn1) ≥ 4294967296))), (16, .int .u64 (rq2 + yn1)), (18, .int .u64 (q2 - 1)), (17, .int .u64 u2), (14, .int .u64 d0), (10, .int .u64 yn0), (9, .int .u64 yn1), (2, .int .u64 Y), (8, .int .u64 sh), (15, .int .u64 q)] w5 (by kernel_rfl) ?_
   by_cases fk9 : (rq2 + yn1) ≥ 4294967296
   ·skip
    refine J.head (.bool true) (congrArg Value.bool (decide_eq_true fk9)) ?_
    refine J.run 2 K110_25 [(17, .int .u64 u2), (14, .int .u64 d0), (2, .int .u64 Y), (8, .int .u64 sh), (15, .int .u64 q), (18, .int .u64 (q2 - 1))] w5 (by kernel_rfl) ?_
    exact X2 (q2 - 1) w5 (by have e := kn_le (q := q2 - 1) (by omega) hQ23 (kn_brk (q := q2 - 1) (rh := rq2 + yn1) hY2 (by have e9 := sub1_mul q2 yn1; omega) (by omega) (by omega) (by omega) (by omega) (by omega) (by omega)); omega) S5
   refine J.head (.bool false) (congrArg Value.bool (decide_eq_false fk9)) ?_
   refine J.run 4 K110_31 [(16, .int .u64 (rq2 + yn1)), (18, .int .u64 (q2 - 1)), (17, .int .u64 u2), (14, .int .u64 d0), (10, .int .u64 yn0), (9, .int .u64 yn1), (2, .int .u64 Y), (8, .int .u64 sh), (15, .int .u64 q)] w5 (by kernel_rfl) ?_
   refine J.run 0 K110_31 [(16, .int .u64 (rq2 + yn1)), (18, .int .u64 (q2 - 1)), (17, .int .u64 u2), (14, .int .u64 d0), (10, .int .u64 yn0), (9, .int .u64 yn1), (2, .int .u64 Y), (8, .int .u64 sh), (15, .int .u64 q)] w5 (by kernel_rfl) ?_
   exact ih1 _ (show ((q2 - 1)).toNat < mm1 from by omega) (q2 - 1) (rq2 + yn1) w5 (by have e9 := sub1_mul q2 yn1; omega) (by omega) (by omega) S5 rfl
  exact L110_1 _ q20 r20 w3 (by omega) (⟨kn_start (d := d0) hY2 hq20 hu02 (by omega) (by omega) (by omega) (by omega), by omega⟩) (by omega) S3 rfl
 refine J.run 2 K110_43 [(16, .int .u64 r0), (15, .int .u64 q0), (14, .int .u64 d0), (13, .int .u64 d1), (11, .int .u64 u), (10, .int .u64 yn0), (9, .int .u64 yn1), (2, .int .u64 Y), (8, .int .u64 sh)] w2 (by kernel_rfl) ?_
 have L110_2 : ∀ (mm_ : Nat) (q : Int) (rq : Int) (w6 : World), (u = q * yn1 + rq) → (Q ≤ q ∧ q ≤ u) → (0 ≤ rq ∧ rq < 4294967296) → Sep w [] w6 → (q).toNat = mm_ → J Tryz.prog 110 135 R K110_43 [(16, .int .u64 rq), (15, .int .u64 q), (14, .int .u64 d0), (13, .int .u64 d1), (11, .int .u64 u), (10, .int .u64 yn0), (9, .int .u64 yn1), (2, .int .u64 Y), (8, .int .u64 sh)] w6 := by
  intro mm2
  induction mm2 using Nat.strongRecOn with
  | _ mm2 ih2 =>
  intro q rq w6 hq1 hq2 hq3 S6 hm2
  have hrr : yn1 ≤ 4294967295 := by omega
  refine J.run 6 K110_44 [(69, .bool (decide (q ≥ 4294967296))), (16, .int .u64 rq), (15, .int .u64 q), (14, .int .u64 d0), (13, .int .u64 d1), (11, .int .u64 u), (10, .int .u64 yn0), (9, .int .u64 yn1), (2, .int .u64 Y), (8, .int .u64 sh)] w6 (by kernel_rfl) ?_
  by_cases fk10 : q ≥ 4294967296
  ·skip
   refine J.head (.bool true) (congrArg Value.bool (decide_eq_true fk10)) ?_
   have hlt : Q < q := by omega
   refine J.run 17 K110_45 [(80, .int .u64 (IntKind.wrap .u64 (q - 1))), (16, .int .u64 rq), (14, .int .u64 d0), (13, .int .u64 d1), (11, .int .u64 u), (10, .int .u64 yn0), (9, .int .u64 yn1), (2, .int .u64 Y), (8, .int .u64 sh)] w6 (by kernel_rfl) ?_
   refine J.head (.int .u64 (q - 1)) (congrArg (Value.int .u64) (IntWalk.u64_in _ (by omega))) ?_
   refine J.run 7 K110_46 [(83, .int .u64 (IntKind.wrap .u64 (rq + yn1))), (15, .int .u64 (q - 1)), (14, .int .u64 d0), (13, .int .u64 d1), (11, .int .u64 u), (10, .int .u64 yn0), (9, .int .u64 yn1), (2, .int .u64 Y), (8, .int .u64 sh)] w6 (by kernel_rfl) ?_
   refine J.head (.int .u64 (rq + yn1)) (congrArg (Value.int .u64) (IntWalk.u64_in _ (by omega))) ?_
   refine J.run 7 K110_47 [(85, .bool (decide ((rq + yn1) ≥ 4294967296))), (16, .int .u64 (rq + yn1)), (15, .int .u64 (q - 1)), (14, .int .u64 d0), (13, .int .u64 d1), (11, .int .u64 u), (10, .int .u64 yn0), (9, .int .u64 yn1), (2, .int .u64 Y), (8, .int .u64 sh)] w6 (by kernel_rfl) ?_
   by_cases fk11 : (rq + yn1) ≥ 4294967296
   ·skip
    refine J.head (.bool true) (congrArg Value.bool (decide_eq_true fk11)) ?_
    refine J.run 2 K110_19 [(14, .int .u64 d0), (13, .int .u64 d1), (11, .int .u64 u), (10, .int .u64 yn0), (9, .int .u64 yn1), (2, .int .u64 Y), (8, .int .u64 sh), (15, .int .u64 (q - 1))] w6 (by kernel_rfl) ?_
    exact X1 (q - 1) w6 (by have e := kn_le (q := q - 1) (by omega) hQ3 (kn_brk (q := q - 1) (rh := rq + yn1) hY2 (by have e9 := sub1_mul q yn1; omega) (by omega) (by omega) (by omega) (by omega) (by omega) (by omega)); omega) S6
   refine J.head (.bool false) (congrArg Value.bool (decide_eq_false fk11)) ?_
   refine J.run 4 K110_43 [(16, .int .u64 (rq + yn1)), (15, .int .u64 (q - 1)), (14, .int .u64 d0), (13, .int .u64 d1), (11, .int .u64 u), (10, .int .u64 yn0), (9, .int .u64 yn1), (2, .int .u64 Y), (8, .int .u64 sh)] w6 (by kernel_rfl) ?_
   refine J.run 0 K110_43 [(16, .int .u64 (rq + yn1)), (15, .int .u64 (q - 1)), (14, .int .u64 d0), (13, .int .u64 d1), (11, .int .u64 u), (10, .int .u64 yn0), (9, .int .u64 yn1), (2, .int .u64 Y), (8, .int .u64 sh)] w6 (by kernel_rfl) ?_
   exact ih2 _ (show ((q - 1)).toNat < mm2 from by omega) (q - 1) (rq + yn1) w6 (by have e9 := sub1_mul q yn1; omega) (by omega) (by omega) S6 rfl
  refine J.head (.bool false) (congrArg Value.bool (decide_eq_false fk10)) ?_
  have := mul32 (a := q) (b := yn0) (by omega) (by omega)
  refine J.run 3 K110_48 [(72, .int .u64 (IntKind.wrap .u64 (q * yn0))), (69, .bool false), (16, .int .u64 rq), (15, .int .u64 q), (14, .int .u64 d0), (13, .int .u64 d1), (11, .int .u64 u), (10, .int .u64 yn0), (9, .int .u64 yn1), (2, .int .u64 Y), (8, .int .u64 sh)] w6 (by kernel_rfl) ?_
  refine J.head (.int .u64 (q * yn0)) (congrArg (Value.int .u64) (IntWalk.u64_in _ (by omega))) ?_
  refine J.run 2 K110_49 [(74, .int .u64 (IntKind.wrap .u64 (4294967296 * rq))), (72, .int .u64 (q * yn0)), (69, .bool false), (16, .int .u64 rq), (15, .int .u64 q), (14, .int .u64 d0), (13, .int .u64 d1), (11, .int .u64 u), (10, .int .u64 yn0), (9, .int .u64 yn1), (2, .int .u64 Y), (8, .int .u64 sh)] w6 (by kernel_rfl) ?_
  refine J.head (.int .u64 (4294967296 * rq)) (congrArg (Value.int .u64) (IntWalk.u64_in _ (by omega))) ?_
  refine J.run 2 K110_50 [(76, .int .u64 (IntKind.wrap .u64 ((4294967296 * rq) + d1))), (72, .int .u64 (q * yn0)), (69, .bool false), (16, .int .u64 rq), (15, .int .u64 q), (14, .int .u64 d0), (13, .int .u64 d1), (11, .int .u64 u), (10, .int .u64 yn0), (9, .int .u64 yn1), (2, .int .u64 Y), (8, .int .u64 sh)] w6 (by kernel_rfl) ?_
  refine J.head (.int .u64 ((4294967296 * rq) + d1)) (congrArg (Value.int .u64) (IntWalk.u64_in _ (by omega))) ?_
  refine J.run 3 K110_51 [(78, .bool (decide ((q * yn0) > ((4294967296 * rq) + d1)))), (16, .int .u64 rq), (15, .int .u64 q), (14, .int .u64 d0), (13, .int .u64 d1), (11, .int .u64 u), (10, .int .u64 yn0), (9, .int .u64 yn1), (2, .int .u64 Y), (8, .int .u64 sh)] w6 (by kernel_rfl) ?_
  by_cases fk12 : (q * yn0) > ((4294967296 * rq) + d1)
  rotate_left
  ·skip
   refine J.head (.bool false) (congrArg Value.bool (decide_eq_false fk12)) ?_
   refine J.run 2 K110_19 [(14, .int .u64 d0), (13, .int .u64 d1), (11, .int .u64 u), (10, .int .u64 yn0), (9, .int .u64 yn1), (2, .int .u64 Y), (8, .int .u64 sh), (15, .int .u64 q)] w6 (by kernel_rfl) ?_
   exact X1 q w6 (by have e := kn_le (q := q) (by omega) hQ3 (kn_exit (b := 4294967296) hY2 hq1 (by omega)); omega) S6
  refine J.head (.bool true) (congrArg Value.bool (decide_eq_true fk12)) ?_
  have hlt : Q < q := kn_lt (by omega) hQ2 (kn_dec (b := 4294967296) hY2 hq1 (by omega))
  refine J.run 7 K110_52 [(80, .int .u64 (IntKind.wrap .u64 (q - 1))), (16, .int .u64 rq), (14, .int .u64 d0), (13, .int .u64 d1), (11, .int .u64 u), (10, .int .u64 yn0), (9, .int .u64 yn1), (2, .int .u64 Y), (8, .int .u64 sh)] w6 (by kernel_rfl) ?_
  refine J.head (.int .u64 (q - 1)) (congrArg (Value.int .u64) (IntWalk.u64_in _ (by omega))) ?_
  refine J.run 7 K110_53 [(83, .int .u64 (IntKind.wrap .u64 (rq + yn1))), (15, .int .u64 (q - 1)), (14, .int .u64 d0), (13, .int .u64 d1), (11, .int .u64 u), (10, .int .u64 yn0), (9, .int .u64 yn1), (2, .int .u64 Y), (8, .int .u64 sh)] w6 (by kernel_rfl) ?_
  refine J.head (.int .u64 (rq + yn1)) (congrArg (Value.int .u64) (IntWalk.u64_in _ (by omega))) ?_
  refine J.run 7 K110_54 [(85, .bool (decide ((rq + yn1) ≥ 4294967296))), (16, .int .u64 (rq + yn1)), (15, .int .u64 (q - 1)), (14, .int .u64 d0), (13, .int .u64 d1), (11, .int .u64 u), (10, .int .u64 yn0), (9, .int .u64 yn1), (2, .int .u64 Y), (8, .int .u64 sh)] w6 (by kernel_rfl) ?_
  by_cases fk13 : (rq + yn1) ≥ 4294967296
  ·skip
   refine J.head (.bool true) (congrArg Value.bool (decide_eq_true fk13)) ?_
   refine J.run 2 K110_19 [(14, .int .u64 d0), (13, .int .u64 d1), (11, .int .u64 u), (10, .int .u64 yn0), (9, .int .u64 yn1), (2, .int .u64 Y), (8, .int .u64 sh), (15, .int .u64 (q - 1))] w6 (by kernel_rfl) ?_
   exact X1 (q - 1) w6 (by have e := kn_le (q := q - 1) (by omega) hQ3 (kn_brk (q := q - 1) (rh := rq + yn1) hY2 (by have e9 := sub1_mul q yn1; omega) (by omega) (by omega) (by omega) (by omega) (by omega) (by omega)); omega) S6
  refine J.head (.bool false) (congrArg Value.bool (decide_eq_false fk13)) ?_
  refine J.run 4 K110_43 [(16, .int .u64 (rq + yn1)), (15, .int .u64 (q - 1)), (14, .int .u64 d0), (13, .int .u64 d1), (11, .int .u64 u), (10, .int .u64 yn0), (9, .int .u64 yn1), (2, .int .u64 Y), (8, .int .u64 sh)] w6 (by kernel_rfl) ?_
  refine J.run 0 K110_43 [(16, .int .u64 (rq + yn1)), (15, .int .u64 (q - 1)), (14, .int .u64 d0), (13, .int .u64 d1), (11, .int .u64 u), (10, .int .u64 yn0), (9, .int .u64 yn1), (2, .int .u64 Y), (8, .int .u64 sh)] w6 (by kernel_rfl) ?_
  exact ih2 _ (show ((q - 1)).toNat < mm2 from by omega) (q - 1) (rq + yn1) w6 (by have e9 := sub1_mul q yn1; omega) (by omega) (by omega) S6 rfl
 exact L110_2 _ q0 r0 w2 (by omega) (⟨kn_start (d := d1) hY2 hq0 hu0 (by omega) (by omega) (by omega) (by omega), by omega⟩) (by omega) S2 rfl

end
end Go.Proofs.YtadgnficogeheaaGreatDoor

