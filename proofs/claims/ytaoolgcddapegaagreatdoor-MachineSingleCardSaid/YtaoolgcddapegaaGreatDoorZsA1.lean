/- Walks of functions of this seat, printed by a program over the engine. Conditions: as each theorem says. -/
import Derived.Test.YtaoolgcddapegaaGreatDoorProg
import Derived.Test.YtaoolgcddapegaaGreatDoorZsEng9
namespace Go.Proofs.YtaoolgcddapegaaGreatDoor
noncomputable section
open Go.Eng Go.RowKit
set_option linter.unusedSimpArgs false
set_option linter.unusedVariables false
set_option maxRecDepth 20000
set_option maxHeartbeats 20000000
theorem Tryz.mixed : Tryz.prog.follows .mixedOrders = true := by kernel_rfl
def lenTab : ByteArray := ⟨#[0, 1, 2, 2, 3, 3, 3, 3, 4, 4, 4, 4, 4, 4, 4, 4, 5, 5, 5, 5, 5, 5, 5, 5, 5, 5, 5, 5, 5, 5, 5, 5, 6, 6, 6, 6, 6, 6, 6, 6, 6, 6, 6, 6, 6, 6, 6, 6, 6, 6, 6, 6, 6, 6, 6, 6, 6, 6, 6, 6, 6, 6, 6, 6, 7, 7, 7, 7, 7, 7, 7, 7, 7, 7, 7, 7, 7, 7, 7, 7, 7, 7, 7, 7, 7, 7, 7, 7, 7, 7, 7, 7, 7, 7, 7, 7, 7, 7, 7, 7, 7, 7, 7, 7, 7, 7, 7, 7, 7, 7, 7, 7, 7, 7, 7, 7, 7, 7, 7, 7, 7, 7, 7, 7, 7, 7, 7, 7, 8, 8, 8, 8, 8, 8, 8, 8, 8, 8, 8, 8, 8, 8, 8, 8, 8, 8, 8, 8, 8, 8, 8, 8, 8, 8, 8, 8, 8, 8, 8, 8, 8, 8, 8, 8, 8, 8, 8, 8, 8, 8, 8, 8, 8, 8, 8, 8, 8, 8, 8, 8, 8, 8, 8, 8, 8, 8, 8, 8, 8, 8, 8, 8, 8, 8, 8, 8, 8, 8, 8, 8, 8, 8, 8, 8, 8, 8, 8, 8, 8, 8, 8, 8, 8, 8, 8, 8, 8, 8, 8, 8, 8, 8, 8, 8, 8, 8, 8, 8, 8, 8, 8, 8, 8, 8, 8, 8, 8, 8, 8, 8, 8, 8, 8, 8, 8, 8, 8, 8, 8, 8, 8, 8, 8, 8, 8, 8]⟩
/-- the number of bits -/
def lenF (n : Int) : Int := if n = 0 then 0 else ((Nat.log2 n.toNat + 1 : Nat) : Int)
theorem lenF_eq {n : Int} {k : Nat} (h1 : 2 ^ k ≤ n) (h2 : n < 2 ^ (k + 1)) : lenF n = k + 1 := by
  have hp : (0 : Int) < 2 ^ k := Int.pow_pos (by omega)
  obtain ⟨m, rfl⟩ : ∃ m : Nat, n = m := ⟨n.toNat, by omega⟩
  have h3 : 2 ^ k ≤ m := by exact_mod_cast h1
  have h4 : m < 2 ^ (k + 1) := by exact_mod_cast h2
  unfold lenF
  rw [if_neg (by omega), Int.toNat_natCast, (Nat.log2_eq_iff (by omega)).2 ⟨h3, h4⟩]
  omega
theorem lenF_spec {n : Int} (h : 0 < n) : ∃ k : Nat, lenF n = k + 1 ∧ 2 ^ k ≤ n ∧ n < 2 ^ (k + 1) := by
  obtain ⟨m, rfl⟩ : ∃ m : Nat, n = m := ⟨n.toNat, by omega⟩
  have := (Nat.log2_eq_iff (n := m) (by omega) (k := m.log2)).1 rfl
  refine ⟨m.log2, ?_, by exact_mod_cast this.1, by exact_mod_cast this.2⟩
  unfold lenF
  rw [if_neg (by omega), Int.toNat_natCast]; omega
theorem lenF_shift {n : Int} (k : Nat) (h : 2 ^ k ≤ n) : lenF n = k + lenF (n / 2 ^ k) := by
  have hp : (0 : Int) < 2 ^ k := Int.pow_pos (by omega)
  have h1 : 1 ≤ n / 2 ^ k := (Int.le_ediv_iff_mul_le hp).2 (by rw [Int.one_mul]; exact h)
  obtain ⟨j, e, h2, h3⟩ := lenF_spec (n := n / 2 ^ k) (by omega)
  rw [e, lenF_eq (k := k + j)]
  · omega
  · rw [Int.pow_add]; have := (Int.le_ediv_iff_mul_le hp).1 h2; rw [Int.mul_comm]; exact this
  · have := (Int.ediv_lt_iff_lt_mul hp).1 h3
    rw [show k + j + 1 = j + 1 + k by omega, Int.pow_add]; exact this
theorem len8 : ∀ i : Fin 256, byteAt lenTab i.val = lenF (i.val : Int) := by decide +kernel
theorem len8' {i : Int} (h : 0 ≤ i) (h2 : i < 256) : byteAt lenTab i.toNat = lenF i := by
  have := len8 ⟨i.toNat, by omega⟩
  simp only at this
  rw [this, Int.toNat_of_nonneg h]
theorem lenF_bounds {i : Int} (h : 0 ≤ i) (h2 : i < 18446744073709551616) : 0 ≤ lenF i ∧ lenF i ≤ 64 := by
  by_cases h0 : i = 0
  · subst h0; decide
  · obtain ⟨k, e, h3, _⟩ := lenF_spec (n := i) (by omega)
    have : k ≤ 63 := by
      rcases Nat.lt_or_ge 63 k with h4 | h4
      · have : (2 : Int) ^ 64 ≤ 2 ^ k := by exact_mod_cast Nat.pow_le_pow_right (by omega) h4
        omega
      · exact h4
    omega
theorem lenF_small {i : Int} (h : 0 ≤ i) (h2 : i < 256) : 0 ≤ lenF i ∧ lenF i ≤ 8 := by
  rw [← len8' h h2]
  have := byteAt_bounds lenTab i.toNat
  by_cases h0 : i = 0
  · subst h0; decide +kernel
  · rw [len8' h h2]
    obtain ⟨k, e, h3, _⟩ := lenF_spec (n := i) (by omega)
    have : k ≤ 7 := by
      rcases Nat.lt_or_ge 7 k with h4 | h4
      · have : (2 : Int) ^ 8 ≤ 2 ^ k := by exact_mod_cast Nat.pow_le_pow_right (by omega) h4
        omega
      · exact h4
    omega

/-- the absolute value -/
def magF (n : Int) : Int := (n.natAbs : Int)
theorem wrap_u64 (n : Int) : IntKind.wrap .u64 n = n % 18446744073709551616 := by simp [IntKind.wrap, IntKind.bits, IntKind.signed]
def rndB (r c : Int) (neg : Bool) (mode : Int) : Bool := if mode = 1 then neg && decide (0 < r) else if mode = 2 then !neg && decide (0 < r) else if neg then decide (c - r < r) else decide (c - r ≤ r)
theorem mul64 {x y : Int} (hx : 0 ≤ x ∧ x ≤ 18446744073709551615) (hy : 0 ≤ y ∧ y ≤ 18446744073709551615) :
    (0 ≤ (x % 4294967296) * (y % 4294967296) ∧ (x % 4294967296) * (y % 4294967296) ≤ 18446744065119617025) ∧
    (0 ≤ (x / 4294967296) * (y % 4294967296) ∧ (x / 4294967296) * (y % 4294967296) ≤ 18446744065119617025) ∧
    (0 ≤ (x % 4294967296) * (y / 4294967296) ∧ (x % 4294967296) * (y / 4294967296) ≤ 18446744065119617025) ∧
    (0 ≤ (x / 4294967296) * (y / 4294967296) ∧ (x / 4294967296) * (y / 4294967296) ≤ 18446744065119617025) ∧
    (0 ≤ x * y ∧ x * y ≤ 340282366920938463426481119284349108225) ∧
    x * y = (x / 4294967296) * (y / 4294967296) * 18446744073709551616 + ((x / 4294967296) * (y % 4294967296) + (x % 4294967296) * (y / 4294967296)) * 4294967296 + (x % 4294967296) * (y % 4294967296) := by
  have hb : ∀ {a b : Int}, 0 ≤ a ∧ a ≤ 4294967295 → 0 ≤ b ∧ b ≤ 4294967295 → 0 ≤ a * b ∧ a * b ≤ 18446744065119617025 := fun ha hb =>
    ⟨Int.mul_nonneg ha.1 hb.1, Int.le_trans (Int.mul_le_mul ha.2 hb.2 hb.1 (by omega)) (by decide)⟩
  refine ⟨hb (by omega) (by omega), hb (by omega) (by omega), hb (by omega) (by omega), hb (by omega) (by omega), ⟨Int.mul_nonneg hx.1 hy.1, Int.le_trans (Int.mul_le_mul hx.2 hy.2 hy.1 (by omega)) (by decide)⟩, ?_⟩
  have e1 : x = x / 4294967296 * 4294967296 + x % 4294967296 := by omega
  have e2 : y = y / 4294967296 * 4294967296 + y % 4294967296 := by omega
  generalize x / 4294967296 = a at *
  generalize y / 4294967296 = b at *
  generalize x % 4294967296 = c at *
  generalize y % 4294967296 = d at *
  subst e1 e2
  grind
theorem mul32 {a b : Int} (ha : 0 ≤ a ∧ a ≤ 4294967295) (hb : 0 ≤ b ∧ b ≤ 4294967295) : 0 ≤ a * b ∧ a * b ≤ 18446744065119617025 :=
    ⟨Int.mul_nonneg ha.1 hb.1, Int.le_trans (Int.mul_le_mul ha.2 hb.2 hb.1 (by omega)) (by decide)⟩
theorem hb223 : HasBody Tryz.prog 223 := fun _ _ => by kernel_rfl

theorem mag_any (n : Int) (w : World) (hn : (-9223372036854775808) ≤ n ∧ n ≤ 9223372036854775807) : Ret Tryz.prog 223 #[.int .i64 n] w (fun v w' => v = .int .u64 (magF n) ∧ Sep w [] w') := by
 refine Ret.st (N := 12) Tryz.func223 fun R hR S0 => ?_
 refine J.c 10 [] [] [] 4 (n < 0) (fun fk1 => ?_) fun fk1 => ?_
 ·skip
  refine J.wi 5 [true] [] [] 6 (n + 1) ?_
  refine J.wi 1 [] [] [] 7 (0 - (n + 1)) ?_
  refine J.h 1 [] [] [] 8 (.int .u64 (IntKind.wrap .u64 (0 - (n + 1)))) (.int .u64 (0 - (n + 1))) (congrArg (Value.int .u64) (IntWalk.u64_in _ (by omega))) ?_
  refine J.h 1 [] [] [] 9 (.int .u64 (IntKind.wrap .u64 ((0 - (n + 1)) + 1))) (.int .u64 ((0 - (n + 1)) + 1)) (congrArg (Value.int .u64) (IntWalk.u64_in _ (by omega))) ?_
  refine J.e 2 [.int .u64 ((0 - (n + 1)) + 1)] Tryz.func223 (hR _ _ ?_)
  exact ⟨by rw [tup_one]; exact congrArg (Value.int .u64) (by (try simp only [wrap_u64]); unfold magF; omega), S0.nil⟩
 refine J.h 6 [false] [] [] 11 (.int .u64 (IntKind.wrap .u64 n)) (.int .u64 n) (congrArg (Value.int .u64) (IntWalk.u64_in _ (by omega))) ?_
 refine J.e 2 [.int .u64 n] Tryz.func223 (hR _ _ ?_)
 exact ⟨by rw [tup_one]; exact congrArg (Value.int .u64) (by (try simp only [wrap_u64]); unfold magF; omega), S0.nil⟩

theorem mag_le (n : Int) (h : -9223372036854775808 ≤ n ∧ n ≤ 9223372036854775807) : 0 ≤ magF n ∧ magF n ≤ 9223372036854775808 ∧ (n = 0 ∨ 1 ≤ magF n) := by unfold magF; omega
theorem hb225 : HasBody Tryz.prog 225 := fun _ _ => by kernel_rfl

theorem rounded_any (r c : Int) (neg : Bool) (mode : Int) (w : World) (hr : 0 ≤ r ∧ r ≤ c ∧ c ≤ 9223372036854775808) : Ret Tryz.prog 225 #[.int .u64 r, .int .u64 c, .bool neg, .int .i64 mode] w (fun v w' => v = .bool (rndB r c neg mode) ∧ Sep w [] w') := by
 refine Ret.st (N := 36) Tryz.func225 fun R hR S0 => ?_
 refine J.c 15 [] [(9, .int .i64 mode)] [] 10 (mode = 1) (fun fk1 => ?_) fun fk1 => ?_
 ·skip
  refine J.b 5 [true] [] [] 13 neg (fun fk2 => ?_) fun fk2 => ?_
  ·skip
   refine J.e 5 [.bool (decide (r > 0))] Tryz.func225 (hR _ _ ?_)
   exact ⟨by (try simp only [rndB, gt_iff_lt, ge_iff_le, tup_one, tup_two, tup_three, (beq_iff_eq.2 fk1), (beq_iff_eq.2 (Eq.symm fk1)), (Eq.symm fk1)]) <;> simp [rndB, gt_iff_lt, ge_iff_le, tup_one, tup_two, tup_three, (beq_iff_eq.2 fk1), (beq_iff_eq.2 (Eq.symm fk1)), (Eq.symm fk1), fk2], S0.nil⟩
  refine J.e 5 [.bool false] Tryz.func225 (hR _ _ ?_)
  exact ⟨by (try simp only [rndB, gt_iff_lt, ge_iff_le, tup_one, tup_two, tup_three, (beq_iff_eq.2 fk1), (beq_iff_eq.2 (Eq.symm fk1)), (Eq.symm fk1)]) <;> simp [rndB, gt_iff_lt, ge_iff_le, tup_one, tup_two, tup_three, (beq_iff_eq.2 fk1), (beq_iff_eq.2 (Eq.symm fk1)), (Eq.symm fk1), fk2], S0.nil⟩
 refine J.c 6 [false] [] [] 17 (mode = 2) (fun fk3 => ?_) fun fk3 => ?_
 ·skip
  refine J.bn 6 [true] [] [] 21 neg (fun fk4 => ?_) fun fk4 => ?_
  ·skip
   refine J.e 5 [.bool false] Tryz.func225 (hR _ _ ?_)
   exact ⟨by (try simp only [rndB, gt_iff_lt, ge_iff_le, tup_one, tup_two, tup_three, fk1, (beq_eq_false_iff_ne.2 fk1), (beq_eq_false_iff_ne.2 (Ne.symm fk1)), (beq_iff_eq.2 fk3), (beq_iff_eq.2 (Eq.symm fk3)), (Eq.symm fk3)]) <;> simp [rndB, gt_iff_lt, ge_iff_le, tup_one, tup_two, tup_three, fk1, (beq_eq_false_iff_ne.2 fk1), (beq_eq_false_iff_ne.2 (Ne.symm fk1)), (beq_iff_eq.2 fk3), (beq_iff_eq.2 (Eq.symm fk3)), (Eq.symm fk3), fk4], S0.nil⟩
  refine J.e 5 [.bool (decide (r > 0))] Tryz.func225 (hR _ _ ?_)
  exact ⟨by (try simp only [rndB, gt_iff_lt, ge_iff_le, tup_one, tup_two, tup_three, fk1, (beq_eq_false_iff_ne.2 fk1), (beq_eq_false_iff_ne.2 (Ne.symm fk1)), (beq_iff_eq.2 fk3), (beq_iff_eq.2 (Eq.symm fk3)), (Eq.symm fk3)]) <;> simp [rndB, gt_iff_lt, ge_iff_le, tup_one, tup_two, tup_three, fk1, (beq_eq_false_iff_ne.2 fk1), (beq_eq_false_iff_ne.2 (Ne.symm fk1)), (beq_iff_eq.2 fk3), (beq_iff_eq.2 (Eq.symm fk3)), (Eq.symm fk3), fk4], S0.nil⟩
 refine J.b 8 [false] [] [] 25 neg (fun fk5 => ?_) fun fk5 => ?_
 ·skip
  refine J.h 7 [true] [(26, .int .u64 r)] [] 29 (.int .u64 (IntKind.wrap .u64 (c - r))) (.int .u64 (c - r)) (congrArg (Value.int .u64) (IntWalk.u64_in _ (by omega))) ?_
  refine J.e 3 [.bool (decide (r > (c - r)))] Tryz.func225 (hR _ _ ?_)
  exact ⟨by (try simp only [rndB, gt_iff_lt, ge_iff_le, tup_one, tup_two, tup_three, fk1, (beq_eq_false_iff_ne.2 fk1), (beq_eq_false_iff_ne.2 (Ne.symm fk1)), fk3, (beq_eq_false_iff_ne.2 fk3), (beq_eq_false_iff_ne.2 (Ne.symm fk3))]) <;> simp [rndB, gt_iff_lt, ge_iff_le, tup_one, tup_two, tup_three, fk1, (beq_eq_false_iff_ne.2 fk1), (beq_eq_false_iff_ne.2 (Ne.symm fk1)), fk3, (beq_eq_false_iff_ne.2 fk3), (beq_eq_false_iff_ne.2 (Ne.symm fk3)), fk5], S0.nil⟩
 refine J.h 8 [false] [(31, .int .u64 r)] [] 34 (.int .u64 (IntKind.wrap .u64 (c - r))) (.int .u64 (c - r)) (congrArg (Value.int .u64) (IntWalk.u64_in _ (by omega))) ?_
 refine J.e 3 [.bool (decide (r ≥ (c - r)))] Tryz.func225 (hR _ _ ?_)
 exact ⟨by (try simp only [rndB, gt_iff_lt, ge_iff_le, tup_one, tup_two, tup_three, fk1, (beq_eq_false_iff_ne.2 fk1), (beq_eq_false_iff_ne.2 (Ne.symm fk1)), fk3, (beq_eq_false_iff_ne.2 fk3), (beq_eq_false_iff_ne.2 (Ne.symm fk3))]) <;> simp [rndB, gt_iff_lt, ge_iff_le, tup_one, tup_two, tup_three, fk1, (beq_eq_false_iff_ne.2 fk1), (beq_eq_false_iff_ne.2 (Ne.symm fk1)), fk3, (beq_eq_false_iff_ne.2 fk3), (beq_eq_false_iff_ne.2 (Ne.symm fk3)), fk5], S0.nil⟩

theorem hb199 : HasBody Tryz.prog 199 := fun _ _ => by kernel_rfl

theorem mul64_any (x y : Int) (w : World) (hx : 0 ≤ x ∧ x ≤ 18446744073709551615) (hy : 0 ≤ y ∧ y ≤ 18446744073709551615) : Ret Tryz.prog 199 #[.int .u64 x, .int .u64 y] w (fun v w' => v = .tuple #[.int .u64 (x * y / 18446744073709551616), .int .u64 (x * y % 18446744073709551616)] ∧ Sep w [] w') := by
 refine Ret.st (N := 51) Tryz.func199 fun R hR S0 => ?_
 obtain ⟨hm1, hm2, hm3, hm4, hm6, hm5⟩ := mul64 hx hy
 refine J.h 9 [] [] [] 15 (.int .u64 (IntKind.wrap .u64 ((BitVec.ofInt 64 x &&& (BitVec.ofInt 64 (4294967295 : Int))).toNat : Int))) (.int .u64 (x % 4294967296)) (congrArg (Value.int .u64) (and_mask_u64 32 _ _ (by rfl) (by decide))) ?_
 refine J.h 6 [] [(6, .int .u64 (x % 4294967296))] [] 17 (.int .u64 (Int.fdiv x (2 ^ 32))) (.int .u64 (x / 4294967296)) (congrArg (Value.int .u64) (shr_lit _ _ (by decide))) ?_
 refine J.h 6 [] [(7, .int .u64 (x / 4294967296))] [] 19 (.int .u64 (IntKind.wrap .u64 ((BitVec.ofInt 64 y &&& (BitVec.ofInt 64 (4294967295 : Int))).toNat : Int))) (.int .u64 (y % 4294967296)) (congrArg (Value.int .u64) (and_mask_u64 32 _ _ (by rfl) (by decide))) ?_
 refine J.h 6 [] [(8, .int .u64 (y % 4294967296))] [] 21 (.int .u64 (Int.fdiv y (2 ^ 32))) (.int .u64 (y / 4294967296)) (congrArg (Value.int .u64) (shr_lit _ _ (by decide))) ?_
 refine J.h 7 [] [(9, .int .u64 (y / 4294967296))] [] 24 (.int .u64 (IntKind.wrap .u64 ((x % 4294967296) * (y % 4294967296)))) (.int .u64 ((x % 4294967296) * (y % 4294967296))) (congrArg (Value.int .u64) (IntWalk.u64_in _ (by omega))) ?_
 refine J.h 7 [] [(10, .int .u64 ((x % 4294967296) * (y % 4294967296)))] [] 27 (.int .u64 (IntKind.wrap .u64 ((x / 4294967296) * (y % 4294967296)))) (.int .u64 ((x / 4294967296) * (y % 4294967296))) (congrArg (Value.int .u64) (IntWalk.u64_in _ (by omega))) ?_
 refine J.h 2 [] [] [] 29 (.int .u64 (Int.fdiv ((x % 4294967296) * (y % 4294967296)) (2 ^ 32))) (.int .u64 (((x % 4294967296) * (y % 4294967296)) / 4294967296)) (congrArg (Value.int .u64) (shr_lit _ _ (by decide))) ?_
 refine J.h 1 [] [] [] 30 (.int .u64 (IntKind.wrap .u64 (((x / 4294967296) * (y % 4294967296)) + (((x % 4294967296) * (y % 4294967296)) / 4294967296)))) (.int .u64 (((x / 4294967296) * (y % 4294967296)) + (((x % 4294967296) * (y % 4294967296)) / 4294967296))) (congrArg (Value.int .u64) (IntWalk.u64_in _ (by omega))) ?_
 refine J.h 6 [] [(11, .int .u64 (((x / 4294967296) * (y % 4294967296)) + (((x % 4294967296) * (y % 4294967296)) / 4294967296)))] [] 32 (.int .u64 (IntKind.wrap .u64 ((BitVec.ofInt 64 (((x / 4294967296) * (y % 4294967296)) + (((x % 4294967296) * (y % 4294967296)) / 4294967296)) &&& (BitVec.ofInt 64 (4294967295 : Int))).toNat : Int))) (.int .u64 ((((x / 4294967296) * (y % 4294967296)) + (((x % 4294967296) * (y % 4294967296)) / 4294967296)) % 4294967296)) (congrArg (Value.int .u64) (and_mask_u64 32 _ _ (by rfl) (by decide))) ?_
 refine J.h 6 [] [(12, .int .u64 ((((x / 4294967296) * (y % 4294967296)) + (((x % 4294967296) * (y % 4294967296)) / 4294967296)) % 4294967296))] [] 34 (.int .u64 (Int.fdiv (((x / 4294967296) * (y % 4294967296)) + (((x % 4294967296) * (y % 4294967296)) / 4294967296)) (2 ^ 32))) (.int .u64 ((((x / 4294967296) * (y % 4294967296)) + (((x % 4294967296) * (y % 4294967296)) / 4294967296)) / 4294967296)) (congrArg (Value.int .u64) (shr_lit _ _ (by decide))) ?_
 refine J.h 8 [] [(35, .int .u64 ((((x / 4294967296) * (y % 4294967296)) + (((x % 4294967296) * (y % 4294967296)) / 4294967296)) % 4294967296)), (13, .int .u64 ((((x / 4294967296) * (y % 4294967296)) + (((x % 4294967296) * (y % 4294967296)) / 4294967296)) / 4294967296))] [] 38 (.int .u64 (IntKind.wrap .u64 ((x % 4294967296) * (y / 4294967296)))) (.int .u64 ((x % 4294967296) * (y / 4294967296))) (congrArg (Value.int .u64) (IntWalk.u64_in _ (by omega))) ?_
 refine J.h 1 [] [] [] 39 (.int .u64 (IntKind.wrap .u64 (((((x / 4294967296) * (y % 4294967296)) + (((x % 4294967296) * (y % 4294967296)) / 4294967296)) % 4294967296) + ((x % 4294967296) * (y / 4294967296))))) (.int .u64 (((((x / 4294967296) * (y % 4294967296)) + (((x % 4294967296) * (y % 4294967296)) / 4294967296)) % 4294967296) + ((x % 4294967296) * (y / 4294967296)))) (congrArg (Value.int .u64) (IntWalk.u64_in _ (by omega))) ?_
 refine J.h 7 [] [(12, .int .u64 (((((x / 4294967296) * (y % 4294967296)) + (((x % 4294967296) * (y % 4294967296)) / 4294967296)) % 4294967296) + ((x % 4294967296) * (y / 4294967296))))] [] 42 (.int .u64 (IntKind.wrap .u64 ((x / 4294967296) * (y / 4294967296)))) (.int .u64 ((x / 4294967296) * (y / 4294967296))) (congrArg (Value.int .u64) (IntWalk.u64_in _ (by omega))) ?_
 refine J.h 2 [] [] [] 44 (.int .u64 (IntKind.wrap .u64 (((x / 4294967296) * (y / 4294967296)) + ((((x / 4294967296) * (y % 4294967296)) + (((x % 4294967296) * (y % 4294967296)) / 4294967296)) / 4294967296)))) (.int .u64 (((x / 4294967296) * (y / 4294967296)) + ((((x / 4294967296) * (y % 4294967296)) + (((x % 4294967296) * (y % 4294967296)) / 4294967296)) / 4294967296))) (congrArg (Value.int .u64) (IntWalk.u64_in _ (by omega))) ?_
 refine J.h 2 [] [] [] 46 (.int .u64 (Int.fdiv (((((x / 4294967296) * (y % 4294967296)) + (((x % 4294967296) * (y % 4294967296)) / 4294967296)) % 4294967296) + ((x % 4294967296) * (y / 4294967296))) (2 ^ 32))) (.int .u64 ((((((x / 4294967296) * (y % 4294967296)) + (((x % 4294967296) * (y % 4294967296)) / 4294967296)) % 4294967296) + ((x % 4294967296) * (y / 4294967296))) / 4294967296)) (congrArg (Value.int .u64) (shr_lit _ _ (by decide))) ?_
 refine J.h 1 [] [] [] 47 (.int .u64 (IntKind.wrap .u64 ((((x / 4294967296) * (y / 4294967296)) + ((((x / 4294967296) * (y % 4294967296)) + (((x % 4294967296) * (y % 4294967296)) / 4294967296)) / 4294967296)) + ((((((x / 4294967296) * (y % 4294967296)) + (((x % 4294967296) * (y % 4294967296)) / 4294967296)) % 4294967296) + ((x % 4294967296) * (y / 4294967296))) / 4294967296)))) (.int .u64 ((((x / 4294967296) * (y / 4294967296)) + ((((x / 4294967296) * (y % 4294967296)) + (((x % 4294967296) * (y % 4294967296)) / 4294967296)) / 4294967296)) + ((((((x / 4294967296) * (y % 4294967296)) + (((x % 4294967296) * (y % 4294967296)) / 4294967296)) % 4294967296) + ((x % 4294967296) * (y / 4294967296))) / 4294967296))) (congrArg (Value.int .u64) (IntWalk.u64_in _ (by omega))) ?_
 refine J.e 9 [.int .u64 ((((x / 4294967296) * (y / 4294967296)) + ((((x / 4294967296) * (y % 4294967296)) + (((x % 4294967296) * (y % 4294967296)) / 4294967296)) / 4294967296)) + ((((((x / 4294967296) * (y % 4294967296)) + (((x % 4294967296) * (y % 4294967296)) / 4294967296)) % 4294967296) + ((x % 4294967296) * (y / 4294967296))) / 4294967296)), .int .u64 (IntKind.wrap .u64 (x * y))] Tryz.func199 (hR _ _ ?_)
 have e1 : (((x / 4294967296) * (y / 4294967296)) + ((((x / 4294967296) * (y % 4294967296)) + (((x % 4294967296) * (y % 4294967296)) / 4294967296)) / 4294967296)) + ((((((x / 4294967296) * (y % 4294967296)) + (((x % 4294967296) * (y % 4294967296)) / 4294967296)) % 4294967296) + ((x % 4294967296) * (y / 4294967296))) / 4294967296) = x * y / 18446744073709551616 := by omega
 exact ⟨by rw [tup_two, wrap_u64, e1], S0.nil⟩

theorem lenF_32 {n : Int} (h : 4294967296 ≤ n) : lenF n = 32 + lenF (n / 4294967296) := by have := lenF_shift (n := n) 32 (by omega); simpa using this
theorem lenF_16 {n : Int} (h : 65536 ≤ n) : lenF n = 16 + lenF (n / 65536) := by have := lenF_shift (n := n) 16 (by omega); simpa using this
theorem lenF_8 {n : Int} (h : 256 ≤ n) : lenF n = 8 + lenF (n / 256) := by have := lenF_shift (n := n) 8 (by omega); simpa using this
theorem hb211 : HasBody Tryz.prog 211 := fun _ _ => by kernel_rfl

theorem len_any (n : Int) (w : World) (hn : 0 ≤ n ∧ n ≤ 18446744073709551615) : Ret Tryz.prog 211 #[.int .u64 n] w (fun v w' => v = .int .i64 (lenF n) ∧ Sep w [] w') := by
 refine Ret.st (N := 25) Tryz.func211 fun R hR S0 => ?_
 refine J.c 10 [] [(2, .int .i64 0)] [] 4 (n ≥ 4294967296) (fun fk1 => ?_) fun fk1 => ?_
 ·skip
  refine J.h 5 [true] [] [] 6 (.int .u64 (Int.fdiv n (2 ^ 32))) (.int .u64 (n / 4294967296)) (congrArg (Value.int .u64) (shr_lit _ _ (by decide))) ?_
  refine J.c 11 [] [(2, .int .i64 32), (0, .int .u64 (n / 4294967296))] [] 8 ((n / 4294967296) ≥ 65536) (fun fk2 => ?_) fun fk2 => ?_
  ·skip
   refine J.h 5 [true] [] [] 10 (.int .u64 (Int.fdiv (n / 4294967296) (2 ^ 16))) (.int .u64 ((n / 4294967296) / 65536)) (congrArg (Value.int .u64) (shr_lit _ _ (by decide))) ?_
   refine J.c 13 [] [(2, .int .i64 48), (0, .int .u64 ((n / 4294967296) / 65536))] [] 14 (((n / 4294967296) / 65536) ≥ 256) (fun fk3 => ?_) fun fk3 => ?_
   ·skip
    refine J.h 5 [true] [] [] 16 (.int .u64 (Int.fdiv ((n / 4294967296) / 65536) (2 ^ 8))) (.int .u64 (((n / 4294967296) / 65536) / 256)) (congrArg (Value.int .u64) (shr_lit _ _ (by decide))) ?_
    refine J.h 12 [] [(19, .int .i64 56)] [0, 2] 21 (.int .u8 (IntKind.wrap .u8 (((n / 4294967296) / 65536) / 256))) (.int .u8 (((n / 4294967296) / 65536) / 256)) (congrArg (Value.int .u8) (IntWalk.u8_in _ (by omega))) ?_
    refine J.ok (OK.byte 22 9 ⟨#[0, 1, 2, 2, 3, 3, 3, 3, 4, 4, 4, 4, 4, 4, 4, 4, 5, 5, 5, 5, 5, 5, 5, 5, 5, 5, 5, 5, 5, 5, 5, 5, 6, 6, 6, 6, 6, 6, 6, 6, 6, 6, 6, 6, 6, 6, 6, 6, 6, 6, 6, 6, 6, 6, 6, 6, 6, 6, 6, 6, 6, 6, 6, 6, 7, 7, 7, 7, 7, 7, 7, 7, 7, 7, 7, 7, 7, 7, 7, 7, 7, 7, 7, 7, 7, 7, 7, 7, 7, 7, 7, 7, 7, 7, 7, 7, 7, 7, 7, 7, 7, 7, 7, 7, 7, 7, 7, 7, 7, 7, 7, 7, 7, 7, 7, 7, 7, 7, 7, 7, 7, 7, 7, 7, 7, 7, 7, 7, 8, 8, 8, 8, 8, 8, 8, 8, 8, 8, 8, 8, 8, 8, 8, 8, 8, 8, 8, 8, 8, 8, 8, 8, 8, 8, 8, 8, 8, 8, 8, 8, 8, 8, 8, 8, 8, 8, 8, 8, 8, 8, 8, 8, 8, 8, 8, 8, 8, 8, 8, 8, 8, 8, 8, 8, 8, 8, 8, 8, 8, 8, 8, 8, 8, 8, 8, 8, 8, 8, 8, 8, 8, 8, 8, 8, 8, 8, 8, 8, 8, 8, 8, 8, 8, 8, 8, 8, 8, 8, 8, 8, 8, 8, 8, 8, 8, 8, 8, 8, 8, 8, 8, 8, 8, 8, 8, 8, 8, 8, 8, 8, 8, 8, 8, 8, 8, 8, 8, 8, 8, 8, 8, 8, 8, 8, 8, 8]⟩ (((n / 4294967296) / 65536) / 256) (lenF (((n / 4294967296) / 65536) / 256)) (by kernel_rfl) (by kernel_rfl) (by omega) ((show (_ : Int) < (256 : Nat) by omega)) (len8' (by omega) (by omega))) ?_
    obtain ⟨t, ht⟩ : ∃ x : Int, x = lenF (((n / 4294967296) / 65536) / 256) := ⟨_, rfl⟩
    refine J.head (.int .u8 t) (congrArg (Value.int .u8) ht.symm) ?_
    have := lenF_small (i := (((n / 4294967296) / 65536) / 256)) (by omega) (by omega); rw [← ht] at this
    refine J.wi 1 [] [] [] 23 t ?_
    refine J.wi 1 [] [] [] 24 (56 + t) ?_
    refine J.e 2 [.int .i64 (56 + t)] Tryz.func211 (hR _ _ ?_)
    exact ⟨by rw [tup_one]; exact congrArg (Value.int .i64) (by rw [lenF_32 (by omega), lenF_16 (by omega), lenF_8 (by omega), ht] <;> omega), S0.nil⟩
   refine J.h 7 [false] [(19, .int .i64 48)] [] 21 (.int .u8 (IntKind.wrap .u8 ((n / 4294967296) / 65536))) (.int .u8 ((n / 4294967296) / 65536)) (congrArg (Value.int .u8) (IntWalk.u8_in _ (by omega))) ?_
   refine J.ok (OK.byte 22 9 ⟨#[0, 1, 2, 2, 3, 3, 3, 3, 4, 4, 4, 4, 4, 4, 4, 4, 5, 5, 5, 5, 5, 5, 5, 5, 5, 5, 5, 5, 5, 5, 5, 5, 6, 6, 6, 6, 6, 6, 6, 6, 6, 6, 6, 6, 6, 6, 6, 6, 6, 6, 6, 6, 6, 6, 6, 6, 6, 6, 6, 6, 6, 6, 6, 6, 7, 7, 7, 7, 7, 7, 7, 7, 7, 7, 7, 7, 7, 7, 7, 7, 7, 7, 7, 7, 7, 7, 7, 7, 7, 7, 7, 7, 7, 7, 7, 7, 7, 7, 7, 7, 7, 7, 7, 7, 7, 7, 7, 7, 7, 7, 7, 7, 7, 7, 7, 7, 7, 7, 7, 7, 7, 7, 7, 7, 7, 7, 7, 7, 8, 8, 8, 8, 8, 8, 8, 8, 8, 8, 8, 8, 8, 8, 8, 8, 8, 8, 8, 8, 8, 8, 8, 8, 8, 8, 8, 8, 8, 8, 8, 8, 8, 8, 8, 8, 8, 8, 8, 8, 8, 8, 8, 8, 8, 8, 8, 8, 8, 8, 8, 8, 8, 8, 8, 8, 8, 8, 8, 8, 8, 8, 8, 8, 8, 8, 8, 8, 8, 8, 8, 8, 8, 8, 8, 8, 8, 8, 8, 8, 8, 8, 8, 8, 8, 8, 8, 8, 8, 8, 8, 8, 8, 8, 8, 8, 8, 8, 8, 8, 8, 8, 8, 8, 8, 8, 8, 8, 8, 8, 8, 8, 8, 8, 8, 8, 8, 8, 8, 8, 8, 8, 8, 8, 8, 8, 8, 8]⟩ ((n / 4294967296) / 65536) (lenF ((n / 4294967296) / 65536)) (by kernel_rfl) (by kernel_rfl) (by omega) ((show (_ : Int) < (256 : Nat) by omega)) (len8' (by omega) (by omega))) ?_
   obtain ⟨t, ht⟩ : ∃ x : Int, x = lenF ((n / 4294967296) / 65536) := ⟨_, rfl⟩
   refine J.head (.int .u8 t) (congrArg (Value.int .u8) ht.symm) ?_
   have := lenF_small (i := ((n / 4294967296) / 65536)) (by omega) (by omega); rw [← ht] at this
   refine J.wi 1 [] [] [] 23 t ?_
   refine J.wi 1 [] [] [] 24 (48 + t) ?_
   refine J.e 2 [.int .i64 (48 + t)] Tryz.func211 (hR _ _ ?_)
   exact ⟨by rw [tup_one]; exact congrArg (Value.int .i64) (by rw [lenF_32 (by omega), lenF_16 (by omega), ht] <;> omega), S0.nil⟩
  refine J.c 8 [false] [] [] 14 ((n / 4294967296) ≥ 256) (fun fk4 => ?_) fun fk4 => ?_
  ·skip
   refine J.h 5 [true] [] [] 16 (.int .u64 (Int.fdiv (n / 4294967296) (2 ^ 8))) (.int .u64 ((n / 4294967296) / 256)) (congrArg (Value.int .u64) (shr_lit _ _ (by decide))) ?_
   refine J.h 12 [] [(19, .int .i64 40)] [0, 2] 21 (.int .u8 (IntKind.wrap .u8 ((n / 4294967296) / 256))) (.int .u8 ((n / 4294967296) / 256)) (congrArg (Value.int .u8) (IntWalk.u8_in _ (by omega))) ?_
   refine J.ok (OK.byte 22 9 ⟨#[0, 1, 2, 2, 3, 3, 3, 3, 4, 4, 4, 4, 4, 4, 4, 4, 5, 5, 5, 5, 5, 5, 5, 5, 5, 5, 5, 5, 5, 5, 5, 5, 6, 6, 6, 6, 6, 6, 6, 6, 6, 6, 6, 6, 6, 6, 6, 6, 6, 6, 6, 6, 6, 6, 6, 6, 6, 6, 6, 6, 6, 6, 6, 6, 7, 7, 7, 7, 7, 7, 7, 7, 7, 7, 7, 7, 7, 7, 7, 7, 7, 7, 7, 7, 7, 7, 7, 7, 7, 7, 7, 7, 7, 7, 7, 7, 7, 7, 7, 7, 7, 7, 7, 7, 7, 7, 7, 7, 7, 7, 7, 7, 7, 7, 7, 7, 7, 7, 7, 7, 7, 7, 7, 7, 7, 7, 7, 7, 8, 8, 8, 8, 8, 8, 8, 8, 8, 8, 8, 8, 8, 8, 8, 8, 8, 8, 8, 8, 8, 8, 8, 8, 8, 8, 8, 8, 8, 8, 8, 8, 8, 8, 8, 8, 8, 8, 8, 8, 8, 8, 8, 8, 8, 8, 8, 8, 8, 8, 8, 8, 8, 8, 8, 8, 8, 8, 8, 8, 8, 8, 8, 8, 8, 8, 8, 8, 8, 8, 8, 8, 8, 8, 8, 8, 8, 8, 8, 8, 8, 8, 8, 8, 8, 8, 8, 8, 8, 8, 8, 8, 8, 8, 8, 8, 8, 8, 8, 8, 8, 8, 8, 8, 8, 8, 8, 8, 8, 8, 8, 8, 8, 8, 8, 8, 8, 8, 8, 8, 8, 8, 8, 8, 8, 8, 8, 8]⟩ ((n / 4294967296) / 256) (lenF ((n / 4294967296) / 256)) (by kernel_rfl) (by kernel_rfl) (by omega) ((show (_ : Int) < (256 : Nat) by omega)) (len8' (by omega) (by omega))) ?_
   obtain ⟨t, ht⟩ : ∃ x : Int, x = lenF ((n / 4294967296) / 256) := ⟨_, rfl⟩
   refine J.head (.int .u8 t) (congrArg (Value.int .u8) ht.symm) ?_
   have := lenF_small (i := ((n / 4294967296) / 256)) (by omega) (by omega); rw [← ht] at this
   refine J.wi 1 [] [] [] 23 t ?_
   refine J.wi 1 [] [] [] 24 (40 + t) ?_
   refine J.e 2 [.int .i64 (40 + t)] Tryz.func211 (hR _ _ ?_)
   exact ⟨by rw [tup_one]; exact congrArg (Value.int .i64) (by rw [lenF_32 (by omega), lenF_8 (by omega), ht] <;> omega), S0.nil⟩
  refine J.h 7 [false] [(19, .int .i64 32)] [] 21 (.int .u8 (IntKind.wrap .u8 (n / 4294967296))) (.int .u8 (n / 4294967296)) (congrArg (Value.int .u8) (IntWalk.u8_in _ (by omega))) ?_
  refine J.ok (OK.byte 22 9 ⟨#[0, 1, 2, 2, 3, 3, 3, 3, 4, 4, 4, 4, 4, 4, 4, 4, 5, 5, 5, 5, 5, 5, 5, 5, 5, 5, 5, 5, 5, 5, 5, 5, 6, 6, 6, 6, 6, 6, 6, 6, 6, 6, 6, 6, 6, 6, 6, 6, 6, 6, 6, 6, 6, 6, 6, 6, 6, 6, 6, 6, 6, 6, 6, 6, 7, 7, 7, 7, 7, 7, 7, 7, 7, 7, 7, 7, 7, 7, 7, 7, 7, 7, 7, 7, 7, 7, 7, 7, 7, 7, 7, 7, 7, 7, 7, 7, 7, 7, 7, 7, 7, 7, 7, 7, 7, 7, 7, 7, 7, 7, 7, 7, 7, 7, 7, 7, 7, 7, 7, 7, 7, 7, 7, 7, 7, 7, 7, 7, 8, 8, 8, 8, 8, 8, 8, 8, 8, 8, 8, 8, 8, 8, 8, 8, 8, 8, 8, 8, 8, 8, 8, 8, 8, 8, 8, 8, 8, 8, 8, 8, 8, 8, 8, 8, 8, 8, 8, 8, 8, 8, 8, 8, 8, 8, 8, 8, 8, 8, 8, 8, 8, 8, 8, 8, 8, 8, 8, 8, 8, 8, 8, 8, 8, 8, 8, 8, 8, 8, 8, 8, 8, 8, 8, 8, 8, 8, 8, 8, 8, 8, 8, 8, 8, 8, 8, 8, 8, 8, 8, 8, 8, 8, 8, 8, 8, 8, 8, 8, 8, 8, 8, 8, 8, 8, 8, 8, 8, 8, 8, 8, 8, 8, 8, 8, 8, 8, 8, 8, 8, 8, 8, 8, 8, 8, 8, 8]⟩ (n / 4294967296) (lenF (n / 4294967296)) (by kernel_rfl) (by kernel_rfl) (by omega) ((show (_ : Int) < (256 : Nat) by omega)) (len8' (by omega) (by omega))) ?_
  obtain ⟨t, ht⟩ : ∃ x : Int, x = lenF (n / 4294967296) := ⟨_, rfl⟩
  refine J.head (.int .u8 t) (congrArg (Value.int .u8) ht.symm) ?_
  have := lenF_small (i := (n / 4294967296)) (by omega) (by omega); rw [← ht] at this
  refine J.wi 1 [] [] [] 23 t ?_
  refine J.wi 1 [] [] [] 24 (32 + t) ?_
  refine J.e 2 [.int .i64 (32 + t)] Tryz.func211 (hR _ _ ?_)
  exact ⟨by rw [tup_one]; exact congrArg (Value.int .i64) (by rw [lenF_32 (by omega), ht] <;> omega), S0.nil⟩
 refine J.c 8 [false] [] [] 8 (n ≥ 65536) (fun fk5 => ?_) fun fk5 => ?_
 ·skip
  refine J.h 5 [true] [] [] 10 (.int .u64 (Int.fdiv n (2 ^ 16))) (.int .u64 (n / 65536)) (congrArg (Value.int .u64) (shr_lit _ _ (by decide))) ?_
  refine J.c 13 [] [(2, .int .i64 16), (0, .int .u64 (n / 65536))] [] 14 ((n / 65536) ≥ 256) (fun fk6 => ?_) fun fk6 => ?_
  ·skip
   refine J.h 5 [true] [] [] 16 (.int .u64 (Int.fdiv (n / 65536) (2 ^ 8))) (.int .u64 ((n / 65536) / 256)) (congrArg (Value.int .u64) (shr_lit _ _ (by decide))) ?_
   refine J.h 12 [] [(19, .int .i64 24)] [0, 2] 21 (.int .u8 (IntKind.wrap .u8 ((n / 65536) / 256))) (.int .u8 ((n / 65536) / 256)) (congrArg (Value.int .u8) (IntWalk.u8_in _ (by omega))) ?_
   refine J.ok (OK.byte 22 9 ⟨#[0, 1, 2, 2, 3, 3, 3, 3, 4, 4, 4, 4, 4, 4, 4, 4, 5, 5, 5, 5, 5, 5, 5, 5, 5, 5, 5, 5, 5, 5, 5, 5, 6, 6, 6, 6, 6, 6, 6, 6, 6, 6, 6, 6, 6, 6, 6, 6, 6, 6, 6, 6, 6, 6, 6, 6, 6, 6, 6, 6, 6, 6, 6, 6, 7, 7, 7, 7, 7, 7, 7, 7, 7, 7, 7, 7, 7, 7, 7, 7, 7, 7, 7, 7, 7, 7, 7, 7, 7, 7, 7, 7, 7, 7, 7, 7, 7, 7, 7, 7, 7, 7, 7, 7, 7, 7, 7, 7, 7, 7, 7, 7, 7, 7, 7, 7, 7, 7, 7, 7, 7, 7, 7, 7, 7, 7, 7, 7, 8, 8, 8, 8, 8, 8, 8, 8, 8, 8, 8, 8, 8, 8, 8, 8, 8, 8, 8, 8, 8, 8, 8, 8, 8, 8, 8, 8, 8, 8, 8, 8, 8, 8, 8, 8, 8, 8, 8, 8, 8, 8, 8, 8, 8, 8, 8, 8, 8, 8, 8, 8, 8, 8, 8, 8, 8, 8, 8, 8, 8, 8, 8, 8, 8, 8, 8, 8, 8, 8, 8, 8, 8, 8, 8, 8, 8, 8, 8, 8, 8, 8, 8, 8, 8, 8, 8, 8, 8, 8, 8, 8, 8, 8, 8, 8, 8, 8, 8, 8, 8, 8, 8, 8, 8, 8, 8, 8, 8, 8, 8, 8, 8, 8, 8, 8, 8, 8, 8, 8, 8, 8, 8, 8, 8, 8, 8, 8]⟩ ((n / 65536) / 256) (lenF ((n / 65536) / 256)) (by kernel_rfl) (by kernel_rfl) (by omega) ((show (_ : Int) < (256 : Nat) by omega)) (len8' (by omega) (by omega))) ?_
   obtain ⟨t, ht⟩ : ∃ x : Int, x = lenF ((n / 65536) / 256) := ⟨_, rfl⟩
   refine J.head (.int .u8 t) (congrArg (Value.int .u8) ht.symm) ?_
   have := lenF_small (i := ((n / 65536) / 256)) (by omega) (by omega); rw [← ht] at this
   refine J.wi 1 [] [] [] 23 t ?_
   refine J.wi 1 [] [] [] 24 (24 + t) ?_
   refine J.e 2 [.int .i64 (24 + t)] Tryz.func211 (hR _ _ ?_)
   exact ⟨by rw [tup_one]; exact congrArg (Value.int .i64) (by rw [lenF_16 (by omega), lenF_8 (by omega), ht] <;> omega), S0.nil⟩
  refine J.h 7 [false] [(19, .int .i64 16)] [] 21 (.int .u8 (IntKind.wrap .u8 (n / 65536))) (.int .u8 (n / 65536)) (congrArg (Value.int .u8) (IntWalk.u8_in _ (by omega))) ?_
  refine J.ok (OK.byte 22 9 ⟨#[0, 1, 2, 2, 3, 3, 3, 3, 4, 4, 4, 4, 4, 4, 4, 4, 5, 5, 5, 5, 5, 5, 5, 5, 5, 5, 5, 5, 5, 5, 5, 5, 6, 6, 6, 6, 6, 6, 6, 6, 6, 6, 6, 6, 6, 6, 6, 6, 6, 6, 6, 6, 6, 6, 6, 6, 6, 6, 6, 6, 6, 6, 6, 6, 7, 7, 7, 7, 7, 7, 7, 7, 7, 7, 7, 7, 7, 7, 7, 7, 7, 7, 7, 7, 7, 7, 7, 7, 7, 7, 7, 7, 7, 7, 7, 7, 7, 7, 7, 7, 7, 7, 7, 7, 7, 7, 7, 7, 7, 7, 7, 7, 7, 7, 7, 7, 7, 7, 7, 7, 7, 7, 7, 7, 7, 7, 7, 7, 8, 8, 8, 8, 8, 8, 8, 8, 8, 8, 8, 8, 8, 8, 8, 8, 8, 8, 8, 8, 8, 8, 8, 8, 8, 8, 8, 8, 8, 8, 8, 8, 8, 8, 8, 8, 8, 8, 8, 8, 8, 8, 8, 8, 8, 8, 8, 8, 8, 8, 8, 8, 8, 8, 8, 8, 8, 8, 8, 8, 8, 8, 8, 8, 8, 8, 8, 8, 8, 8, 8, 8, 8, 8, 8, 8, 8, 8, 8, 8, 8, 8, 8, 8, 8, 8, 8, 8, 8, 8, 8, 8, 8, 8, 8, 8, 8, 8, 8, 8, 8, 8, 8, 8, 8, 8, 8, 8, 8, 8, 8, 8, 8, 8, 8, 8, 8, 8, 8, 8, 8, 8, 8, 8, 8, 8, 8, 8]⟩ (n / 65536) (lenF (n / 65536)) (by kernel_rfl) (by kernel_rfl) (by omega) ((show (_ : Int) < (256 : Nat) by omega)) (len8' (by omega) (by omega))) ?_
  obtain ⟨t, ht⟩ : ∃ x : Int, x = lenF (n / 65536) := ⟨_, rfl⟩
  refine J.head (.int .u8 t) (congrArg (Value.int .u8) ht.symm) ?_
  have := lenF_small (i := (n / 65536)) (by omega) (by omega); rw [← ht] at this
  refine J.wi 1 [] [] [] 23 t ?_
  refine J.wi 1 [] [] [] 24 (16 + t) ?_
  refine J.e 2 [.int .i64 (16 + t)] Tryz.func211 (hR _ _ ?_)
  exact ⟨by rw [tup_one]; exact congrArg (Value.int .i64) (by rw [lenF_16 (by omega), ht] <;> omega), S0.nil⟩
 refine J.c 8 [false] [] [] 14 (n ≥ 256) (fun fk7 => ?_) fun fk7 => ?_
 ·skip
  refine J.h 5 [true] [] [] 16 (.int .u64 (Int.fdiv n (2 ^ 8))) (.int .u64 (n / 256)) (congrArg (Value.int .u64) (shr_lit _ _ (by decide))) ?_
  refine J.h 12 [] [(19, .int .i64 8)] [0, 2] 21 (.int .u8 (IntKind.wrap .u8 (n / 256))) (.int .u8 (n / 256)) (congrArg (Value.int .u8) (IntWalk.u8_in _ (by omega))) ?_
  refine J.ok (OK.byte 22 9 ⟨#[0, 1, 2, 2, 3, 3, 3, 3, 4, 4, 4, 4, 4, 4, 4, 4, 5, 5, 5, 5, 5, 5, 5, 5, 5, 5, 5, 5, 5, 5, 5, 5, 6, 6, 6, 6, 6, 6, 6, 6, 6, 6, 6, 6, 6, 6, 6, 6, 6, 6, 6, 6, 6, 6, 6, 6, 6, 6, 6, 6, 6, 6, 6, 6, 7, 7, 7, 7, 7, 7, 7, 7, 7, 7, 7, 7, 7, 7, 7, 7, 7, 7, 7, 7, 7, 7, 7, 7, 7, 7, 7, 7, 7, 7, 7, 7, 7, 7, 7, 7, 7, 7, 7, 7, 7, 7, 7, 7, 7, 7, 7, 7, 7, 7, 7, 7, 7, 7, 7, 7, 7, 7, 7, 7, 7, 7, 7, 7, 8, 8, 8, 8, 8, 8, 8, 8, 8, 8, 8, 8, 8, 8, 8, 8, 8, 8, 8, 8, 8, 8, 8, 8, 8, 8, 8, 8, 8, 8, 8, 8, 8, 8, 8, 8, 8, 8, 8, 8, 8, 8, 8, 8, 8, 8, 8, 8, 8, 8, 8, 8, 8, 8, 8, 8, 8, 8, 8, 8, 8, 8, 8, 8, 8, 8, 8, 8, 8, 8, 8, 8, 8, 8, 8, 8, 8, 8, 8, 8, 8, 8, 8, 8, 8, 8, 8, 8, 8, 8, 8, 8, 8, 8, 8, 8, 8, 8, 8, 8, 8, 8, 8, 8, 8, 8, 8, 8, 8, 8, 8, 8, 8, 8, 8, 8, 8, 8, 8, 8, 8, 8, 8, 8, 8, 8, 8, 8]⟩ (n / 256) (lenF (n / 256)) (by kernel_rfl) (by kernel_rfl) (by omega) ((show (_ : Int) < (256 : Nat) by omega)) (len8' (by omega) (by omega))) ?_
  obtain ⟨t, ht⟩ : ∃ x : Int, x = lenF (n / 256) := ⟨_, rfl⟩
  refine J.head (.int .u8 t) (congrArg (Value.int .u8) ht.symm) ?_
  have := lenF_small (i := (n / 256)) (by omega) (by omega); rw [← ht] at this
  refine J.wi 1 [] [] [] 23 t ?_
  refine J.wi 1 [] [] [] 24 (8 + t) ?_
  refine J.e 2 [.int .i64 (8 + t)] Tryz.func211 (hR _ _ ?_)
  exact ⟨by rw [tup_one]; exact congrArg (Value.int .i64) (by rw [lenF_8 (by omega), ht] <;> omega), S0.nil⟩
 refine J.h 7 [false] [(19, .int .i64 0)] [] 21 (.int .u8 (IntKind.wrap .u8 n)) (.int .u8 n) (congrArg (Value.int .u8) (IntWalk.u8_in _ (by omega))) ?_
 refine J.ok (OK.byte 22 9 ⟨#[0, 1, 2, 2, 3, 3, 3, 3, 4, 4, 4, 4, 4, 4, 4, 4, 5, 5, 5, 5, 5, 5, 5, 5, 5, 5, 5, 5, 5, 5, 5, 5, 6, 6, 6, 6, 6, 6, 6, 6, 6, 6, 6, 6, 6, 6, 6, 6, 6, 6, 6, 6, 6, 6, 6, 6, 6, 6, 6, 6, 6, 6, 6, 6, 7, 7, 7, 7, 7, 7, 7, 7, 7, 7, 7, 7, 7, 7, 7, 7, 7, 7, 7, 7, 7, 7, 7, 7, 7, 7, 7, 7, 7, 7, 7, 7, 7, 7, 7, 7, 7, 7, 7, 7, 7, 7, 7, 7, 7, 7, 7, 7, 7, 7, 7, 7, 7, 7, 7, 7, 7, 7, 7, 7, 7, 7, 7, 7, 8, 8, 8, 8, 8, 8, 8, 8, 8, 8, 8, 8, 8, 8, 8, 8, 8, 8, 8, 8, 8, 8, 8, 8, 8, 8, 8, 8, 8, 8, 8, 8, 8, 8, 8, 8, 8, 8, 8, 8, 8, 8, 8, 8, 8, 8, 8, 8, 8, 8, 8, 8, 8, 8, 8, 8, 8, 8, 8, 8, 8, 8, 8, 8, 8, 8, 8, 8, 8, 8, 8, 8, 8, 8, 8, 8, 8, 8, 8, 8, 8, 8, 8, 8, 8, 8, 8, 8, 8, 8, 8, 8, 8, 8, 8, 8, 8, 8, 8, 8, 8, 8, 8, 8, 8, 8, 8, 8, 8, 8, 8, 8, 8, 8, 8, 8, 8, 8, 8, 8, 8, 8, 8, 8, 8, 8, 8, 8]⟩ n (lenF n) (by kernel_rfl) (by kernel_rfl) (by omega) ((show (_ : Int) < (256 : Nat) by omega)) (len8' (by omega) (by omega))) ?_
 obtain ⟨t, ht⟩ : ∃ x : Int, x = lenF n := ⟨_, rfl⟩
 refine J.head (.int .u8 t) (congrArg (Value.int .u8) ht.symm) ?_
 have := lenF_small (i := n) (by omega) (by omega); rw [← ht] at this
 refine J.wi 1 [] [] [] 23 t ?_
 refine J.wi 1 [] [] [] 24 (0 + t) ?_
 refine J.e 2 [.int .i64 (0 + t)] Tryz.func211 (hR _ _ ?_)
 exact ⟨by rw [tup_one]; exact congrArg (Value.int .i64) (by rw [ht] <;> omega), S0.nil⟩

theorem hb226 : HasBody Tryz.prog 226 := fun _ _ => by kernel_rfl

theorem zeros_any (n : Int) (w : World) (hn : 0 ≤ n ∧ n ≤ 18446744073709551615) : Ret Tryz.prog 226 #[.int .u64 n] w (fun v w' => v = .int .i64 (64 - lenF n) ∧ Sep w [] w') := by
 refine Ret.st (N := 6) Tryz.func226 fun R hR S0 => ?_
 have := lenF_bounds (i := n) (by omega) (by omega)
 refine J.c0 7 [] [] [] S0 4 hb211 (len_any n _ (by omega)) fun w1 S1 => ?_
 refine J.wi 1 [] [] [] 5 (64 - (lenF n)) ?_
 refine J.e 2 [.int .i64 (64 - (lenF n))] Tryz.func226 (hR _ _ ?_)
 exact ⟨rfl, S1.nil⟩

theorem pow_le63 {k : Nat} (h : k ≤ 63) : (1 : Int) ≤ 2 ^ k ∧ (2 : Int) ^ k ≤ 9223372036854775808 := by
  have h1 : (1 : Int) ≤ 2 ^ k := by exact_mod_cast Nat.one_le_two_pow
  have h2 : (2 : Int) ^ k ≤ 2 ^ 63 := by exact_mod_cast Nat.pow_le_pow_right (by omega) h
  omega
theorem norm_facts {n : Int} (h : 1 ≤ n) (h2 : n ≤ 18446744073709551615) : ∃ s : Nat, 64 - lenF n = s ∧ s ≤ 63 ∧ 9223372036854775808 ≤ n * 2 ^ s ∧ n * 2 ^ s ≤ 18446744073709551615 ∧ 1 ≤ (2 : Int) ^ s := by
  obtain ⟨k, e, h3, h4⟩ := lenF_spec (n := n) (by omega)
  have hb := lenF_bounds (i := n) (by omega) (by omega)
  have h63 : k ≤ 63 := by omega
  refine ⟨63 - k, by omega, by omega, ?_, ?_, (pow_le63 (by omega)).1⟩
  · have := Int.mul_le_mul_of_nonneg_right h3 (show (0 : Int) ≤ 2 ^ (63 - k) by have := (pow_le63 (k := 63 - k) (by omega)).1; omega)
    rw [← Int.pow_add, show k + (63 - k) = 63 by omega] at this
    omega
  · have := Int.mul_lt_mul_of_pos_right h4 (show (0 : Int) < 2 ^ (63 - k) by have := (pow_le63 (k := 63 - k) (by omega)).1; omega)
    rw [← Int.pow_add, show k + 1 + (63 - k) = 64 by omega] at this
    omega
theorem ediv_of {x d k : Int} (hd : 0 < d) (h1 : k * d ≤ x) (h2 : x < k * d + d) : x / d = k := by
  rw [show x = (x - k * d) + k * d by omega, Int.add_mul_ediv_right _ _ (by omega), Int.ediv_eq_zero_of_lt (by omega) (by omega), Int.zero_add]
theorem emod_of {x d k : Int} (hd : 0 < d) (h1 : k * d ≤ x) (h2 : x < k * d + d) : x % d = x - k * d := by
  rw [Int.emod_def, ediv_of hd h1 h2, Int.mul_comm]
theorem kn_exit {b Y yn1 yn0 u q rh d : Int} (hY : Y = yn1 * b + yn0) (hu : u = q * yn1 + rh) (h : q * yn0 ≤ b * rh + d) : q * Y ≤ u * b + d := by
  subst hY hu
  have : (q * yn1 + rh) * b + d - q * (yn1 * b + yn0) = b * rh + d - q * yn0 := by grind
  omega
theorem kn_dec {b Y yn1 yn0 u q rh d : Int} (hY : Y = yn1 * b + yn0) (hu : u = q * yn1 + rh) (h : b * rh + d < q * yn0) : u * b + d < q * Y := by
  subst hY hu
  have : (q * yn1 + rh) * b + d - q * (yn1 * b + yn0) = b * rh + d - q * yn0 := by grind
  omega
/-- the shifted number in two words: what the shifts and the or give -/
theorem kn_words {hi lo y : Int} {s : Nat} (hs : s ≤ 63) (hh : 0 ≤ hi) (hhy : hi < y) (hl : 0 ≤ lo ∧ lo ≤ 18446744073709551615) (hy : y * 2 ^ s ≤ 18446744073709551615) :
    (0 ≤ hi * 2 ^ s ∧ hi * 2 ^ s ≤ 18446744073709551615) ∧ (0 ≤ lo / 2 ^ (64 - s) ∧ lo / 2 ^ (64 - s) < 2 ^ s) ∧ hi * 2 ^ s + lo / 2 ^ (64 - s) < y * 2 ^ s ∧
    (hi * 18446744073709551616 + lo) * 2 ^ s = (hi * 2 ^ s + lo / 2 ^ (64 - s)) * 18446744073709551616 + (lo * 2 ^ s) % 18446744073709551616 := by
  have hp : (2 : Int) ^ s * 2 ^ (64 - s) = 18446744073709551616 := by rw [← Int.pow_add, show s + (64 - s) = 64 by omega]; rfl
  have h1 := (pow_le63 hs).1
  have h2 : (1 : Int) ≤ 2 ^ (64 - s) := by exact_mod_cast Nat.one_le_two_pow
  generalize (2 : Int) ^ s = p at *
  generalize (2 : Int) ^ (64 - s) = pp at *
  have h3 : 0 ≤ lo / pp := Int.ediv_nonneg hl.1 (by omega)
  have h4 : lo / pp < p := Int.ediv_lt_of_lt_mul (by omega) (by rw [hp]; omega)
  have h5 : (hi + 1) * p ≤ y * p := Int.mul_le_mul_of_nonneg_right (by omega) (by omega)
  have h6 : 0 ≤ hi * p := Int.mul_nonneg hh (by omega)
  have h7 : (hi + 1) * p = hi * p + p := by grind
  refine ⟨⟨h6, by omega⟩, ⟨h3, h4⟩, by omega, ?_⟩
  have h8 : lo * p = lo / pp * 18446744073709551616 + lo % pp * p := by
    rw [← hp]; have := Int.mul_ediv_add_emod lo pp; grind
  have h9 : 0 ≤ lo % pp * p := Int.mul_nonneg (Int.emod_nonneg _ (by omega)) (by omega)
  have h10 : lo % pp * p < 18446744073709551616 := by
    rw [← hp, Int.mul_comm p pp]; exact Int.mul_lt_mul_of_pos_right (Int.emod_lt_of_pos _ (by omega)) (by omega)
  have h11 : (lo * p) % 18446744073709551616 = lo % pp * p := by omega
  rw [h11]
  have : (hi * 18446744073709551616 + lo) * p = hi * p * 18446744073709551616 + lo * p := by grind
  omega
theorem or_add {m b : Int} {s : Nat} (hb : 0 ≤ b ∧ b < 2 ^ s) (hm : 0 ≤ m) (h : m * 2 ^ s + b ≤ 18446744073709551615) : IntKind.wrap .u64 ((BitVec.ofInt 64 (m * 2 ^ s) ||| BitVec.ofInt 64 b).toNat : Int) = m * 2 ^ s + b := by
  obtain ⟨m, rfl⟩ : ∃ k : Nat, m = k := ⟨m.toNat, by omega⟩
  obtain ⟨b, rfl⟩ : ∃ k : Nat, b = k := ⟨b.toNat, by omega⟩
  have h1 : b < 2 ^ s := by exact_mod_cast hb.2
  have h0 : ((m * 2 ^ s + b : Nat) : Int) ≤ 18446744073709551615 := by rw [Int.natCast_add, Int.natCast_mul, Int.natCast_pow]; exact h
  have h2 : m * 2 ^ s + b ≤ 18446744073709551615 := by omega
  have h3 : ((m : Int) * 2 ^ s) = ((m * 2 ^ s : Nat) : Int) := by rw [Int.natCast_mul, Int.natCast_pow]; rfl
  have h4 : (BitVec.ofInt 64 ((m * 2 ^ s : Nat) : Int) ||| BitVec.ofInt 64 (b : Int)).toNat = m * 2 ^ s + b := by
    rw [BitVec.toNat_or, BitVec.ofInt_natCast, BitVec.ofInt_natCast, BitVec.toNat_ofNat, BitVec.toNat_ofNat, Nat.mod_eq_of_lt (by omega), Nat.mod_eq_of_lt (by omega), Nat.mul_comm, Nat.two_pow_add_eq_or_of_lt h1]
  rw [h3, h4, Int.natCast_add]
  refine IntWalk.u64_in _ ⟨by omega, ?_⟩
  rw [← Int.natCast_add]
  exact h0
theorem shl_s {x sh : Int} {s : Nat} (h : sh.toNat = s) (hs : s ≤ 63) (hb : 0 ≤ x * 2 ^ s ∧ x * 2 ^ s ≤ 18446744073709551615) : IntKind.wrap .u64 (x * 2 ^ min sh.toNat (IntKind.bits .u64)) = x * 2 ^ s := by
  rw [h, show min s (IntKind.bits .u64) = s from Nat.min_eq_left (show s ≤ 64 by omega)]; exact IntWalk.u64_in _ hb
theorem shl_m {x sh : Int} {s : Nat} (h : sh.toNat = s) (hs : s ≤ 63) : IntKind.wrap .u64 (x * 2 ^ min sh.toNat (IntKind.bits .u64)) = x * 2 ^ s % 18446744073709551616 := by
  rw [h, show min s (IntKind.bits .u64) = s from Nat.min_eq_left (show s ≤ 64 by omega)]; exact wrap_u64 _
theorem shr_s {x sh : Int} {s : Nat} (h : sh.toNat = s) (hs : s ≤ 64) : x.fdiv (2 ^ min sh.toNat (IntKind.bits .u64)) = x / 2 ^ s := by
  rw [h, show min s (IntKind.bits .u64) = s from Nat.min_eq_left (show s ≤ 64 by omega), Int.fdiv_eq_ediv_of_nonneg _ (Int.le_of_lt (Int.pow_pos (by omega)))]
theorem quo_facts {q u y : Int} (h : q = u / y) (hu : 0 ≤ u) (hy : 1 ≤ y) : q * y ≤ u ∧ u < q * y + y ∧ (0 ≤ q ∧ 0 ≤ q * y) ∧ q ≤ u := by
  have h1 := Int.mul_ediv_add_emod u y
  have h2 := Int.emod_nonneg u (show y ≠ 0 by omega)
  have h3 := Int.emod_lt_of_pos u (show 0 < y by omega)
  rw [← h, Int.mul_comm] at h1
  have h4 : 0 ≤ q := by rw [h]; exact Int.ediv_nonneg hu (by omega)
  have h5 : q * 1 ≤ q * y := Int.mul_le_mul_of_nonneg_left hy h4
  have h6 := Int.mul_nonneg h4 (show 0 ≤ y by omega)
  omega
theorem sub1_mul (q y : Int) : (q - 1) * y = q * y - y := by rw [Int.sub_mul, Int.one_mul]
theorem kn_lt {Q q y n : Int} (hy : 0 < y) (h1 : Q * y ≤ n) (h2 : n < q * y) : Q < q := Int.lt_of_mul_lt_mul_right (Int.lt_of_le_of_lt h1 h2) (by omega)
theorem kn_le {Q q y n : Int} (hy : 0 < y) (h1 : n < Q * y + y) (h2 : q * y ≤ n) : q ≤ Q := by
  have : q * y < (Q + 1) * y := by have : (Q + 1) * y = Q * y + y := by grind
                                   omega
  have := Int.lt_of_mul_lt_mul_right this (by omega); omega
theorem kn_brk {Y yn1 yn0 u q rh d : Int} (hY : Y = yn1 * 4294967296 + yn0) (hu : u = q * yn1 + rh) (huY : u < Y) (h1 : 1 ≤ yn1) (h0 : 0 ≤ yn0 ∧ yn0 < 4294967296) (hr : 4294967296 ≤ rh) (hd : 0 ≤ d) (hq : 0 ≤ q) : q * Y ≤ u * 4294967296 + d := by
  refine kn_exit hY hu ?_
  have h2 : q < 4294967296 := by
    refine Int.lt_of_mul_lt_mul_right (a := yn1) ?_ (by omega)
    omega
  have := mul32 (a := q) (b := yn0) (by omega) (by omega)
  omega
theorem kn_end {X y p k r : Int} (hp : 1 ≤ p) (hy : 1 ≤ y) (h : X * p = k * (y * p) + r) (h0 : 0 ≤ r) (h1 : r < y * p) : X / y = k ∧ X % y = r / p := by
  have h2 : r = (X - k * y) * p := by grind
  have h3 : r / p = X - k * y := by rw [h2, Int.mul_ediv_cancel _ (by omega)]
  have h4 : 0 ≤ X - k * y := by rw [← h3]; exact Int.ediv_nonneg h0 (by omega)
  have h5 : X - k * y < y := by rw [← h3]; exact Int.ediv_lt_of_lt_mul (by omega) h1
  rw [h3]
  exact ⟨ediv_of (by omega) (by omega) (by omega), emod_of (by omega) (by omega) (by omega)⟩
theorem kn_start {Y yn1 yn0 u q0 d Q : Int} (hY : Y = yn1 * 4294967296 + yn0) (hq : q0 = u / yn1) (hu : 0 ≤ u ∧ u < Y) (h1 : 1 ≤ yn1) (h0 : 0 ≤ yn0 ∧ yn0 < 4294967296) (hd : 0 ≤ d ∧ d < 4294967296) (hQ : Q * Y ≤ u * 4294967296 + d) : Q ≤ q0 := by
  obtain ⟨a1, a2, a3, a4⟩ := quo_facts hq hu.1 h1
  refine Int.le_of_lt_add_one ?_
  refine kn_lt (y := Y) (n := u * 4294967296 + d) (by omega) hQ ?_
  have e : (q0 + 1) * Y = (q0 * yn1 + yn1) * 4294967296 + (q0 + 1) * yn0 := by rw [hY]; grind
  have e2 : 0 ≤ (q0 + 1) * yn0 := Int.mul_nonneg (by omega) h0.1
  omega
theorem hb224 : HasBody Tryz.prog 224 := fun _ _ => by kernel_rfl
def K224_0 := List.drop 1 (adv 104 [false, false, false] (bodyOf Tryz.f224))
def K224_1 := List.drop 1 (adv 29 [] K224_0)
def K224_2 := adv 31 [] K224_0
def K224_3 := adv 106 [false, false, false] (bodyOf Tryz.f224)
theorem div64_any (hi lo y : Int) (w : World) (hhi : 0 ≤ hi ∧ hi ≤ 18446744073709551615) (hlo : 0 ≤ lo ∧ lo ≤ 18446744073709551615) (hy : 0 ≤ y ∧ y ≤ 18446744073709551615) (hlt0 : hi < y) : Ret Tryz.prog 224 #[.int .u64 hi, .int .u64 lo, .int .u64 y] w (fun v w' => v = .tuple #[.int .u64 ((hi * 18446744073709551616 + lo) / y), .int .u64 ((hi * 18446744073709551616 + lo) % y)] ∧ Sep w [] w') := by
 refine Ret.st (N := 135) Tryz.func224 fun R hR S0 => ?_
 have fk2 : ¬ (y = 0) := by omega
 refine J.h 11 [] [] [] 20 (.bool (y == 0)) (.bool false) (congrArg Value.bool (beq_eq_false_iff_ne.2 fk2)) ?_
 have fk4 : ¬ (y ≤ hi) := by omega
 refine J.h 9 [false] [] [] 24 (.bool (decide (y ≤ hi))) (.bool false) (congrArg Value.bool (decide_eq_false fk4)) ?_
 refine J.c 8 [false] [] [] 27 (hi = 0) (fun fk5 => ?_) fun fk5 => ?_
 ·skip
  refine J.r 2 [true] [] [] ?_
  refine J.drawStill S0 8 Tryz.mixed (by kernel_rfl) (by kernel_rfl) (by kernel_rfl) ?_
  intro w1 S1
  refine SL.r 28 (.int .u64 lo) ?_
  refine SL.r 29 (.int .u64 y) ?_
  refine SL.ok (by decide) (OK.quo 30 .u64 lo y (by kernel_rfl) (by omega)) ?_
  refine SL.head (.int .u64 (lo / y)) (congrArg (Value.int .u64) (IntWalk.u64_quo _ _ (by omega))) ?_
  refine SL.r 31 (.int .u64 lo) ?_
  refine SL.r 32 (.int .u64 y) ?_
  refine SL.ok (by decide) (OK.rem 33 .u64 lo y (by kernel_rfl) (by omega)) ?_
  refine SL.head (.int .u64 (lo % y)) (congrArg (Value.int .u64) (IntWalk.rem_in _ _ (by omega))) ?_
  refine SL.r 6 (.int .u64 (lo / y)) ?_
  refine SL.r 7 (.int .u64 (lo % y)) ?_
  refine SL.done ?_
  refine TL.done (by kernel_rfl) ?_
  refine J.e 0 [.int .u64 (lo / y), .int .u64 (lo % y)] Tryz.func224 (hR _ _ ?_)
  exact ⟨by rw [tup_two, show (hi * 18446744073709551616 + lo) = lo by omega], S1.nil⟩
 obtain ⟨s, hs, hs0, hs1, hs2, hs3⟩ := norm_facts (n := y) (by omega) (by omega)
 refine J.c0 5 [false] [] [] S0 35 hb226 (zeros_any y _ (by omega)) fun w2 S2 => ?_
 refine J.h 1 [] [] [] 36 (.int .u64 (IntKind.wrap .u64 (64 - lenF y))) (.int .u64 (64 - lenF y)) (congrArg (Value.int .u64) (IntWalk.u64_in _ (by omega))) ?_
 obtain ⟨sh, hsh⟩ : ∃ x : Int, x = 64 - lenF y := ⟨_, rfl⟩
 refine J.head (.int .u64 sh) (congrArg (Value.int .u64) hsh.symm) ?_
 have hsh2 : sh.toNat = s := by omega
 refine J.r 6 [] [(38, .int .u64 sh), (37, .int .u64 y), (8, .int .u64 sh)] [] ?_
 refine J.ok (OK.shl 39 .u64 y sh (y * 2 ^ s) (by kernel_rfl) (by omega) ((shl_s hsh2 hs0 (by omega)))) ?_
 obtain ⟨Y, hY⟩ : ∃ x : Int, x = y * 2 ^ s := ⟨_, rfl⟩
 refine J.head (.int .u64 Y) (congrArg (Value.int .u64) hY.symm) ?_
 obtain ⟨hw1, hw2, hw3, hw4⟩ := kn_words (hi := hi) (lo := lo) (y := y) hs0 (by omega) (by omega) (by omega) hs2
 refine J.h 6 [] [(2, .int .u64 Y)] [] 41 (.int .u64 (Int.fdiv Y (2 ^ 32))) (.int .u64 (Y / 4294967296)) (congrArg (Value.int .u64) (shr_lit _ _ (by decide))) ?_
 obtain ⟨yn1, hyn1⟩ : ∃ x : Int, x = Y / 4294967296 := ⟨_, rfl⟩
 refine J.head (.int .u64 yn1) (congrArg (Value.int .u64) hyn1.symm) ?_
 refine J.h 6 [] [(9, .int .u64 yn1)] [] 43 (.int .u64 (IntKind.wrap .u64 ((BitVec.ofInt 64 Y &&& (BitVec.ofInt 64 (4294967295 : Int))).toNat : Int))) (.int .u64 (Y % 4294967296)) (congrArg (Value.int .u64) (and_mask_u64 32 _ _ (by rfl) (by decide))) ?_
 obtain ⟨yn0, hyn0⟩ : ∃ x : Int, x = Y % 4294967296 := ⟨_, rfl⟩
 refine J.head (.int .u64 yn0) (congrArg (Value.int .u64) hyn0.symm) ?_
 have hY2 : Y = yn1 * 4294967296 + yn0 := by omega
 have hYb : 9223372036854775808 ≤ Y ∧ Y ≤ 18446744073709551615 := by omega
 have hyb : 2147483648 ≤ yn1 ∧ yn1 ≤ 4294967295 ∧ 0 ≤ yn0 ∧ yn0 ≤ 4294967295 := by omega
 refine J.r 6 [] [(45, .int .u64 sh), (44, .int .u64 hi), (10, .int .u64 yn0)] [] ?_
 refine J.ok (OK.shl 46 .u64 hi sh (hi * 2 ^ s) (by kernel_rfl) (by omega) ((shl_s hsh2 hs0 (by omega)))) ?_
 refine J.h 3 [] [(47, .int .u64 lo)] [] 49 (.int .u64 (IntKind.wrap .u64 (64 - sh))) (.int .u64 (64 - sh)) (congrArg (Value.int .u64) (IntWalk.u64_in _ (by omega))) ?_
 refine J.ok (OK.shr 50 .u64 lo (64 - sh) (lo / 2 ^ (64 - s)) (by kernel_rfl) (by omega) ((shr_s (by omega) (by omega)))) ?_
 refine J.h 1 [] [] [] 51 (.int .u64 (IntKind.wrap .u64 ((BitVec.ofInt 64 (hi * 2 ^ s) ||| (BitVec.ofInt 64 (lo / 2 ^ (64 - s)))).toNat : Int))) (.int .u64 ((hi * 2 ^ s) + (lo / 2 ^ (64 - s)))) (congrArg (Value.int .u64) (or_add hw2 (by omega) (by omega))) ?_
 obtain ⟨u, hu⟩ : ∃ x : Int, x = (hi * 2 ^ s) + (lo / 2 ^ (64 - s)) := ⟨_, rfl⟩
 refine J.head (.int .u64 u) (congrArg (Value.int .u64) hu.symm) ?_
 have hu0 : 0 ≤ u ∧ u < Y := by omega
 refine J.r 6 [] [(53, .int .u64 sh), (52, .int .u64 lo), (11, .int .u64 u)] [] ?_
 refine J.ok (OK.shl 54 .u64 lo sh (lo * 2 ^ s % 18446744073709551616) (by kernel_rfl) (by omega) ((shl_m hsh2 hs0))) ?_
 obtain ⟨v, hv⟩ : ∃ x : Int, x = lo * 2 ^ s % 18446744073709551616 := ⟨_, rfl⟩
 refine J.head (.int .u64 v) (congrArg (Value.int .u64) hv.symm) ?_
 have hvb : 0 ≤ v ∧ v ≤ 18446744073709551615 := by omega
 refine J.h 6 [] [(12, .int .u64 v)] [] 56 (.int .u64 (Int.fdiv v (2 ^ 32))) (.int .u64 (v / 4294967296)) (congrArg (Value.int .u64) (shr_lit _ _ (by decide))) ?_
 obtain ⟨d1, hd1⟩ : ∃ x : Int, x = v / 4294967296 := ⟨_, rfl⟩
 refine J.head (.int .u64 d1) (congrArg (Value.int .u64) hd1.symm) ?_
 refine J.h 6 [] [(13, .int .u64 d1)] [] 58 (.int .u64 (IntKind.wrap .u64 ((BitVec.ofInt 64 v &&& (BitVec.ofInt 64 (4294967295 : Int))).toNat : Int))) (.int .u64 (v % 4294967296)) (congrArg (Value.int .u64) (and_mask_u64 32 _ _ (by rfl) (by decide))) ?_
 obtain ⟨d0, hd0⟩ : ∃ x : Int, x = v % 4294967296 := ⟨_, rfl⟩
 refine J.head (.int .u64 d0) (congrArg (Value.int .u64) hd0.symm) ?_
 have hdd : v = d1 * 4294967296 + d0 ∧ 0 ≤ d1 ∧ d1 < 4294967296 ∧ 0 ≤ d0 ∧ d0 < 4294967296 := by omega
 obtain ⟨Q, hQ⟩ : ∃ x : Int, x = (u * 4294967296 + d1) / Y := ⟨_, rfl⟩
 obtain ⟨hQ2, hQ3, hQ4, _⟩ := quo_facts hQ (by omega) (by omega)
 have hQ5 : Q < 4294967296 := by rw [hQ]; exact Int.ediv_lt_of_lt_mul (by omega) (by omega)
 refine J.r 6 [] [(60, .int .u64 yn1), (59, .int .u64 u), (14, .int .u64 d0)] [] ?_
 refine J.ok (OK.quo 61 .u64 u yn1 (by kernel_rfl) (by omega)) ?_
 refine J.head (.int .u64 (u / yn1)) (congrArg (Value.int .u64) (IntWalk.u64_quo _ _ (by omega))) ?_
 obtain ⟨q0, hq0⟩ : ∃ x : Int, x = u / yn1 := ⟨_, rfl⟩
 refine J.head (.int .u64 q0) (congrArg (Value.int .u64) hq0.symm) ?_
 obtain ⟨hq01, hq02, hq03, hq04⟩ := quo_facts hq0 (by omega) (by omega)
 refine J.h 8 [] [(62, .int .u64 u), (15, .int .u64 q0)] [] 65 (.int .u64 (IntKind.wrap .u64 (q0 * yn1))) (.int .u64 (q0 * yn1)) (congrArg (Value.int .u64) (IntWalk.u64_in _ (by omega))) ?_
 refine J.h 1 [] [] [] 66 (.int .u64 (IntKind.wrap .u64 (u - (q0 * yn1)))) (.int .u64 (u - (q0 * yn1))) (congrArg (Value.int .u64) (IntWalk.u64_in _ (by omega))) ?_
 obtain ⟨r0, hr0⟩ : ∃ x : Int, x = u - (q0 * yn1) := ⟨_, rfl⟩
 refine J.head (.int .u64 r0) (congrArg (Value.int .u64) hr0.symm) ?_
 have X1 : ∀ (q : Int) (w3 : World), (q = Q) → Sep w [] w3 → J Tryz.prog 224 135 R K224_0 [(14, .int .u64 d0), (13, .int .u64 d1), (11, .int .u64 u), (10, .int .u64 yn0), (9, .int .u64 yn1), (2, .int .u64 Y), (8, .int .u64 sh), (15, .int .u64 q)] w3 := by
  intro q w3 hq4 S3
  refine J.r 10 [] [(93, .int .u64 (IntKind.wrap .u64 ((IntKind.wrap .u64 ((IntKind.wrap .u64 (u * 4294967296)) + d1)) - (IntKind.wrap .u64 (q * Y)))))] [] ?_
  obtain ⟨u2, hu2⟩ : ∃ x : Int, x = IntKind.wrap .u64 ((IntKind.wrap .u64 ((IntKind.wrap .u64 (u * 4294967296)) + d1)) - (IntKind.wrap .u64 (q * Y))) := ⟨_, rfl⟩
  refine J.head (.int .u64 u2) (congrArg (Value.int .u64) hu2.symm) ?_
  have hu21 : u2 = u * 4294967296 + d1 - q * Y := by rw [hu2]; simp only [wrap_u64]; subst hq4; omega
  have hu02 : 0 ≤ u2 ∧ u2 < Y := by subst hq4; omega
  obtain ⟨Q2, hQ2⟩ : ∃ x : Int, x = (u2 * 4294967296 + d0) / Y := ⟨_, rfl⟩
  obtain ⟨hQ22, hQ23, hQ24, _⟩ := quo_facts hQ2 (by omega) (by omega)
  have hQ25 : Q2 < 4294967296 := by rw [hQ2]; exact Int.ediv_lt_of_lt_mul (by omega) (by omega)
  refine J.r 6 [] [(95, .int .u64 yn1), (94, .int .u64 u2), (17, .int .u64 u2)] [] ?_
  refine J.ok (OK.quo 96 .u64 u2 yn1 (by kernel_rfl) (by omega)) ?_
  refine J.head (.int .u64 (u2 / yn1)) (congrArg (Value.int .u64) (IntWalk.u64_quo _ _ (by omega))) ?_
  obtain ⟨q20, hq20⟩ : ∃ x : Int, x = u2 / yn1 := ⟨_, rfl⟩
  refine J.head (.int .u64 q20) (congrArg (Value.int .u64) hq20.symm) ?_
  obtain ⟨hq201, hq202, hq203, hq204⟩ := quo_facts hq20 (by omega) (by omega)
  refine J.h 8 [] [(97, .int .u64 u2), (18, .int .u64 q20)] [] 100 (.int .u64 (IntKind.wrap .u64 (q20 * yn1))) (.int .u64 (q20 * yn1)) (congrArg (Value.int .u64) (IntWalk.u64_in _ (by omega))) ?_
  refine J.h 1 [] [] [] 101 (.int .u64 (IntKind.wrap .u64 (u2 - (q20 * yn1)))) (.int .u64 (u2 - (q20 * yn1))) (congrArg (Value.int .u64) (IntWalk.u64_in _ (by omega))) ?_
  obtain ⟨r20, hr20⟩ : ∃ x : Int, x = u2 - (q20 * yn1) := ⟨_, rfl⟩
  refine J.head (.int .u64 r20) (congrArg (Value.int .u64) hr20.symm) ?_
  have X2 : ∀ (q2 : Int) (w4 : World), (q2 = Q2) → Sep w [] w4 → J Tryz.prog 224 135 R K224_1 [(17, .int .u64 u2), (14, .int .u64 d0), (2, .int .u64 Y), (8, .int .u64 sh), (15, .int .u64 q), (18, .int .u64 q2)] w4 := by
   intro q2 w4 hq24 S4
   refine J.h 4 [] [] [] 122 (.int .u64 (IntKind.wrap .u64 (q * 4294967296))) (.int .u64 (q * 4294967296)) (congrArg (Value.int .u64) (IntWalk.u64_in _ (by omega))) ?_
   refine J.h 2 [] [] [] 124 (.int .u64 (IntKind.wrap .u64 ((q * 4294967296) + q2))) (.int .u64 ((q * 4294967296) + q2)) (congrArg (Value.int .u64) (IntWalk.u64_in _ (by omega))) ?_
   refine J.r 8 [] [(132, .int .u64 (IntKind.wrap .u64 ((IntKind.wrap .u64 ((IntKind.wrap .u64 (u2 * 4294967296)) + d0)) - (IntKind.wrap .u64 (q2 * Y)))))] [] ?_
   obtain ⟨r2, hr2⟩ : ∃ x : Int, x = IntKind.wrap .u64 ((IntKind.wrap .u64 ((IntKind.wrap .u64 (u2 * 4294967296)) + d0)) - (IntKind.wrap .u64 (q2 * Y))) := ⟨_, rfl⟩
   refine J.head (.int .u64 r2) (congrArg (Value.int .u64) hr2.symm) ?_
   have hr21 : r2 = u2 * 4294967296 + d0 - q2 * Y := by rw [hr2]; simp only [wrap_u64]; subst hq24; omega
   have hr22 : 0 ≤ r2 ∧ r2 < Y := by subst hq24; omega
   refine J.r 1 [] [(133, .int .u64 sh)] [] ?_
   refine J.ok (OK.shr 134 .u64 r2 sh (r2 / 2 ^ s) (by kernel_rfl) (by omega) ((shr_s hsh2 (by omega)))) ?_
   refine J.e 3 [.int .u64 ((q * 4294967296) + q2), .int .u64 (r2 / 2 ^ s)] Tryz.func224 (hR _ _ ?_)
   have e0 : (q * 4294967296 + q2) * (y * 2 ^ s) = q * (y * 2 ^ s) * 4294967296 + q2 * (y * 2 ^ s) := by grind
   obtain ⟨e1, e2⟩ := kn_end (X := (hi * 18446744073709551616 + lo)) (y := y) (p := 2 ^ s) (k := q * 4294967296 + q2) (r := r2) hs3 (by omega) (by rw [hw4, e0, ← hY, ← hu, ← hv]; omega) (by omega) (by omega)
   exact ⟨by rw [tup_two, e1, e2], S4.nil⟩
  have L224_1 : ∀ (mm_ : Nat) (q2 : Int) (rq2 : Int) (w5 : World), (u2 = q2 * yn1 + rq2) → (Q2 ≤ q2 ∧ q2 ≤ u2) → (0 ≤ rq2 ∧ rq2 < 4294967296) → Sep w [] w5 → (q2).toNat = mm_ → J Tryz.prog 224 135 R K224_2 [(16, .int .u64 rq2), (18, .int .u64 q2), (17, .int .u64 u2), (14, .int .u64 d0), (10, .int .u64 yn0), (9, .int .u64 yn1), (2, .int .u64 Y), (8, .int .u64 sh), (15, .int .u64 q)] w5 := by
   intro mm1
   induction mm1 using Nat.strongRecOn with
   | _ mm1 ih1 =>
   intro q2 rq2 w5 hq21 hq22 hq23 S5 hm1
   have hrr : yn1 ≤ 4294967295 := by omega
   refine J.c 6 [] [] [] 104 (q2 ≥ 4294967296) (fun fk6 => ?_) fun fk6 => ?_
   ·skip
    have hlt : Q2 < q2 := by omega
    refine J.h 17 [true] [] [] 115 (.int .u64 (IntKind.wrap .u64 (q2 - 1))) (.int .u64 (q2 - 1)) (congrArg (Value.int .u64) (IntWalk.u64_in _ (by omega))) ?_
    refine J.h 7 [] [(18, .int .u64 (q2 - 1))] [] 118 (.int .u64 (IntKind.wrap .u64 (rq2 + yn1))) (.int .u64 (rq2 + yn1)) (congrArg (Value.int .u64) (IntWalk.u64_in _ (by omega))) ?_
    refine J.c 7 [] [(16, .int .u64 (rq2 + yn1))] [] 120 ((rq2 + yn1) ≥ 4294967296) (fun fk7 => ?_) fun fk7 => ?_
    ·skip
     exact J.t 2 (X2 (q2 - 1) w5 (by have e := kn_le (q := q2 - 1) (by omega) hQ23 (kn_brk (q := q2 - 1) (rh := rq2 + yn1) hY2 (by have e9 := sub1_mul q2 yn1; omega) (by omega) (by omega) (by omega) (by omega) (by omega) (by omega)); omega) S5)
    exact J.t 4 (ih1 _ (show ((q2 - 1)).toNat < mm1 from by omega) (q2 - 1) (rq2 + yn1) w5 (by have e9 := sub1_mul q2 yn1; omega) (by omega) (by omega) S5 rfl)
   have := mul32 (a := q2) (b := yn0) (by omega) (by omega)
   refine J.h 3 [] [] [] 107 (.int .u64 (IntKind.wrap .u64 (q2 * yn0))) (.int .u64 (q2 * yn0)) (congrArg (Value.int .u64) (IntWalk.u64_in _ (by omega))) ?_
   refine J.h 2 [] [] [] 109 (.int .u64 (IntKind.wrap .u64 (4294967296 * rq2))) (.int .u64 (4294967296 * rq2)) (congrArg (Value.int .u64) (IntWalk.u64_in _ (by omega))) ?_
   refine J.h 2 [] [] [] 111 (.int .u64 (IntKind.wrap .u64 ((4294967296 * rq2) + d0))) (.int .u64 ((4294967296 * rq2) + d0)) (congrArg (Value.int .u64) (IntWalk.u64_in _ (by omega))) ?_
   refine J.c 3 [] [] [] 113 ((q2 * yn0) > ((4294967296 * rq2) + d0)) (fun fk8 => ?_) fun fk8 => ?_
   ·skip
    have hlt : Q2 < q2 := kn_lt (by omega) hQ22 (kn_dec (b := 4294967296) hY2 hq21 (by omega))
    refine J.h 7 [true] [] [] 115 (.int .u64 (IntKind.wrap .u64 (q2 - 1))) (.int .u64 (q2 - 1)) (congrArg (Value.int .u64) (IntWalk.u64_in _ (by omega))) ?_
    refine J.h 7 [] [(18, .int .u64 (q2 - 1))] [] 118 (.int .u64 (IntKind.wrap .u64 (rq2 + yn1))) (.int .u64 (rq2 + yn1)) (congrArg (Value.int .u64) (IntWalk.u64_in _ (by omega))) ?_
    refine J.c 7 [] [(16, .int .u64 (rq2 + yn1))] [] 120 ((rq2 + yn1) ≥ 4294967296) (fun fk9 => ?_) fun fk9 => ?_
    ·skip
     exact J.t 2 (X2 (q2 - 1) w5 (by have e := kn_le (q := q2 - 1) (by omega) hQ23 (kn_brk (q := q2 - 1) (rh := rq2 + yn1) hY2 (by have e9 := sub1_mul q2 yn1; omega) (by omega) (by omega) (by omega) (by omega) (by omega) (by omega)); omega) S5)
    exact J.t 4 (ih1 _ (show ((q2 - 1)).toNat < mm1 from by omega) (q2 - 1) (rq2 + yn1) w5 (by have e9 := sub1_mul q2 yn1; omega) (by omega) (by omega) S5 rfl)
   exact J.t 2 (X2 q2 w5 (by have e := kn_le (q := q2) (by omega) hQ23 (kn_exit (b := 4294967296) hY2 hq21 (by omega)); omega) S5)
  exact J.t 5 (L224_1 _ q20 r20 w3 (by omega) (⟨kn_start (d := d0) hY2 hq20 hu02 (by omega) (by omega) (by omega) (by omega), by omega⟩) (by omega) S3 rfl)
 have L224_2 : ∀ (mm_ : Nat) (q : Int) (rq : Int) (w6 : World), (u = q * yn1 + rq) → (Q ≤ q ∧ q ≤ u) → (0 ≤ rq ∧ rq < 4294967296) → Sep w [] w6 → (q).toNat = mm_ → J Tryz.prog 224 135 R K224_3 [(16, .int .u64 rq), (15, .int .u64 q), (14, .int .u64 d0), (13, .int .u64 d1), (11, .int .u64 u), (10, .int .u64 yn0), (9, .int .u64 yn1), (2, .int .u64 Y), (8, .int .u64 sh)] w6 := by
  intro mm2
  induction mm2 using Nat.strongRecOn with
  | _ mm2 ih2 =>
  intro q rq w6 hq1 hq2 hq3 S6 hm2
  have hrr : yn1 ≤ 4294967295 := by omega
  refine J.c 6 [] [] [] 69 (q ≥ 4294967296) (fun fk10 => ?_) fun fk10 => ?_
  ·skip
   have hlt : Q < q := by omega
   refine J.h 17 [true] [] [] 80 (.int .u64 (IntKind.wrap .u64 (q - 1))) (.int .u64 (q - 1)) (congrArg (Value.int .u64) (IntWalk.u64_in _ (by omega))) ?_
   refine J.h 7 [] [(15, .int .u64 (q - 1))] [] 83 (.int .u64 (IntKind.wrap .u64 (rq + yn1))) (.int .u64 (rq + yn1)) (congrArg (Value.int .u64) (IntWalk.u64_in _ (by omega))) ?_
   refine J.c 7 [] [(16, .int .u64 (rq + yn1))] [] 85 ((rq + yn1) ≥ 4294967296) (fun fk11 => ?_) fun fk11 => ?_
   ·skip
    exact J.t 2 (X1 (q - 1) w6 (by have e := kn_le (q := q - 1) (by omega) hQ3 (kn_brk (q := q - 1) (rh := rq + yn1) hY2 (by have e9 := sub1_mul q yn1; omega) (by omega) (by omega) (by omega) (by omega) (by omega) (by omega)); omega) S6)
   exact J.t 4 (ih2 _ (show ((q - 1)).toNat < mm2 from by omega) (q - 1) (rq + yn1) w6 (by have e9 := sub1_mul q yn1; omega) (by omega) (by omega) S6 rfl)
  have := mul32 (a := q) (b := yn0) (by omega) (by omega)
  refine J.h 3 [] [] [] 72 (.int .u64 (IntKind.wrap .u64 (q * yn0))) (.int .u64 (q * yn0)) (congrArg (Value.int .u64) (IntWalk.u64_in _ (by omega))) ?_
  refine J.h 2 [] [] [] 74 (.int .u64 (IntKind.wrap .u64 (4294967296 * rq))) (.int .u64 (4294967296 * rq)) (congrArg (Value.int .u64) (IntWalk.u64_in _ (by omega))) ?_
  refine J.h 2 [] [] [] 76 (.int .u64 (IntKind.wrap .u64 ((4294967296 * rq) + d1))) (.int .u64 ((4294967296 * rq) + d1)) (congrArg (Value.int .u64) (IntWalk.u64_in _ (by omega))) ?_
  refine J.c 3 [] [] [] 78 ((q * yn0) > ((4294967296 * rq) + d1)) (fun fk12 => ?_) fun fk12 => ?_
  ·skip
   have hlt : Q < q := kn_lt (by omega) hQ2 (kn_dec (b := 4294967296) hY2 hq1 (by omega))
   refine J.h 7 [true] [] [] 80 (.int .u64 (IntKind.wrap .u64 (q - 1))) (.int .u64 (q - 1)) (congrArg (Value.int .u64) (IntWalk.u64_in _ (by omega))) ?_
   refine J.h 7 [] [(15, .int .u64 (q - 1))] [] 83 (.int .u64 (IntKind.wrap .u64 (rq + yn1))) (.int .u64 (rq + yn1)) (congrArg (Value.int .u64) (IntWalk.u64_in _ (by omega))) ?_
   refine J.c 7 [] [(16, .int .u64 (rq + yn1))] [] 85 ((rq + yn1) ≥ 4294967296) (fun fk13 => ?_) fun fk13 => ?_
   ·skip
    exact J.t 2 (X1 (q - 1) w6 (by have e := kn_le (q := q - 1) (by omega) hQ3 (kn_brk (q := q - 1) (rh := rq + yn1) hY2 (by have e9 := sub1_mul q yn1; omega) (by omega) (by omega) (by omega) (by omega) (by omega) (by omega)); omega) S6)
   exact J.t 4 (ih2 _ (show ((q - 1)).toNat < mm2 from by omega) (q - 1) (rq + yn1) w6 (by have e9 := sub1_mul q yn1; omega) (by omega) (by omega) S6 rfl)
  exact J.t 2 (X1 q w6 (by have e := kn_le (q := q) (by omega) hQ3 (kn_exit (b := 4294967296) hY2 hq1 (by omega)); omega) S6)
 exact J.t 5 (L224_2 _ q0 r0 w2 (by omega) (⟨kn_start (d := d1) hY2 hq0 hu0 (by omega) (by omega) (by omega) (by omega), by omega⟩) (by omega) S2 rfl)

end
end Go.Proofs.YtaoolgcddapegaaGreatDoor

