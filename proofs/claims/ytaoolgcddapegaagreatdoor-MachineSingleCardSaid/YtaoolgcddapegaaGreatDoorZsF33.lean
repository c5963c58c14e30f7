/- Walks of functions of this seat, printed by a program over the engine. Conditions: as each theorem says. -/
import Derived.Test.YtaoolgcddapegaaGreatDoorZsX27
import Derived.Test.YtaoolgcddapegaaGreatDoorZsEng19
namespace Go.Proofs.YtaoolgcddapegaaGreatDoor
open Go.Eng Go.RowKit
set_option linter.unusedSimpArgs false
set_option linter.unusedVariables false
set_option maxRecDepth 20000
set_option maxHeartbeats 20000000
/-! integers of 128 bits, in two words -/
def hiW (x : Int) : Int := x / 18446744073709551616 % 18446744073709551616
def loW (x : Int) : Int := x % 18446744073709551616
abbrev wvA (x : Int) : Array Value := #[Value.int .u64 (hiW x), Value.int .u64 (loW x)]
abbrev wvL (x : Int) : List Value := [Value.int .u64 (hiW x), Value.int .u64 (loW x)]
abbrev exA (n d : Int) : Array Value := #[Value.int .u64 (hiW n), Value.int .u64 (loW n), Value.int .u64 (hiW d), Value.int .u64 (loW d)]
abbrev exL (n d : Int) : List Value := [Value.int .u64 (hiW n), Value.int .u64 (loW n), Value.int .u64 (hiW d), Value.int .u64 (loW d)]
theorem W_bd (x : Int) : (0 ≤ hiW x ∧ hiW x ≤ 18446744073709551615) ∧ 0 ≤ loW x ∧ loW x ≤ 18446744073709551615 := by unfold hiW loW; omega
theorem W_def (x : Int) : hiW x = x / 18446744073709551616 % 18446744073709551616 ∧ loW x = x % 18446744073709551616 := ⟨rfl, rfl⟩
theorem wrapM (n : Int) : IntKind.wrap .u64 n = n % 18446744073709551616 := by simp [IntKind.wrap, IntKind.bits, IntKind.signed]
theorem wd_eq {a b x : Int} (h1 : a = hiW x) (h2 : b = loW x) : tup [.agg #[.int .u64 a, .int .u64 b]] = .agg (wvA x) := by subst h1; subst h2; rfl
theorem wd_q {a b x : Int} (h1 : a = hiW x) (h2 : b = loW x) : Value.agg #[.int .u64 a, .int .u64 b] = .agg (wvA x) := by subst h1; subst h2; rfl
theorem xor_max {v : Int} (h : 0 ≤ v ∧ v ≤ 18446744073709551615) : IntKind.wrap .u64 ((BitVec.ofInt 64 (18446744073709551615 : Int) ^^^ (BitVec.ofInt 64 v)).toNat : Int) = 18446744073709551615 - v := by
  have e : (BitVec.ofInt 64 (18446744073709551615 : Int)) = BitVec.allOnes 64 := by decide
  rw [e, BitVec.allOnes_xor, BitVec.toNat_not, BitVec.toNat_ofInt, IntWalk.u64_in _ (by omega)]
  omega
theorem nat_top {b : Nat} (h : b < 2 ^ 63) : b ^^^ 2 ^ 63 = 2 ^ 63 + b := by
  apply Nat.eq_of_testBit_eq
  intro j
  rw [Nat.testBit_xor, Nat.testBit_two_pow]
  rcases Nat.lt_trichotomy j 63 with hj | hj | hj
  · rw [Nat.testBit_two_pow_add_gt hj, decide_eq_false (by omega), Bool.xor_false]
  · subst hj; rw [Nat.testBit_two_pow_add_eq, decide_eq_true rfl, Bool.xor_true]
  · have h1 : (2 : Nat) ^ 64 ≤ 2 ^ j := Nat.pow_le_pow_right (by omega) hj
    rw [Nat.testBit_lt_two_pow (by omega), Nat.testBit_lt_two_pow (x := 2 ^ 63 + b) (by omega), decide_eq_false (by omega)]; rfl
theorem xor_top {v : Int} (h : 0 ≤ v ∧ v ≤ 18446744073709551615) : IntKind.wrap .u64 ((BitVec.ofInt 64 v ^^^ (BitVec.ofInt 64 (9223372036854775808 : Int))).toNat : Int) = (v + 9223372036854775808) % 18446744073709551616 := by
  have e : ((BitVec.ofInt 64 (9223372036854775808 : Int))).toNat = 2 ^ 63 := by decide
  rw [BitVec.toNat_xor, e, BitVec.toNat_ofInt]
  have e2 : (v % ((2 ^ 64 : Nat) : Int)).toNat = v.toNat := by omega
  rw [e2]
  by_cases hv : v.toNat < 2 ^ 63
  · rw [nat_top hv, IntWalk.u64_in _ (by omega)]; omega
  · obtain ⟨b, hb⟩ : ∃ b, v.toNat = 2 ^ 63 + b := ⟨v.toNat - 2 ^ 63, by omega⟩
    rw [hb, ← nat_top (b := b) (by omega), Nat.xor_assoc, Nat.xor_self, Nat.xor_zero, IntWalk.u64_in _ (by omega)]
    omega
theorem w_add (x y : Int) : (hiW x + hiW y + (loW x + loW y) / 18446744073709551616) % 18446744073709551616 = hiW (x + y) ∧ (loW x + loW y) % 18446744073709551616 = loW (x + y) := by unfold hiW loW; omega
theorem w_neg (x : Int) : (18446744073709551615 - hiW x + (18446744073709551615 - loW x + 1) / 18446744073709551616) % 18446744073709551616 = hiW (-x) ∧ (18446744073709551615 - loW x + 1) % 18446744073709551616 = loW (-x) := by unfold hiW loW; omega
abbrev okW (x : Int) : Prop := -170141183460469231731687303715884105728 ≤ x ∧ x < 170141183460469231731687303715884105728
theorem w_sign {x : Int} (h : okW x) : hiW x / 9223372036854775808 = (if x < 0 then 1 else 0) := by unfold hiW; split <;> omega
theorem w_le {x y : Int} (hx : okW x) (hy : okW y) : ((hiW x + 9223372036854775808) % 18446744073709551616 < (hiW y + 9223372036854775808) % 18446744073709551616 → x < y) ∧ ((hiW y + 9223372036854775808) % 18446744073709551616 < (hiW x + 9223372036854775808) % 18446744073709551616 → y < x) ∧ ((hiW x + 9223372036854775808) % 18446744073709551616 = (hiW y + 9223372036854775808) % 18446744073709551616 → (loW x ≤ loW y ↔ x ≤ y)) := by unfold hiW loW; omega
theorem w_mul (x m : Int) : (loW x * m / 18446744073709551616 + hiW x * m) % 18446744073709551616 = hiW (x * m) ∧ loW x * m % 18446744073709551616 = loW (x * m) := by
  have hx : x = (x / 18446744073709551616) * 18446744073709551616 + loW x := by unfold loW; omega
  obtain ⟨q, hq⟩ : ∃ q, q = x / 18446744073709551616 := ⟨_, rfl⟩
  obtain ⟨r, hr⟩ : ∃ r, r = loW x := ⟨_, rfl⟩
  have hh : hiW x = q % 18446744073709551616 := by rw [hq]; rfl
  rw [← hr, hh]
  rw [← hq, ← hr] at hx
  subst hx
  have e : (q * 18446744073709551616 + r) * m = r * m + q * m * 18446744073709551616 := by rw [Int.add_mul, Int.mul_right_comm, Int.add_comm]
  unfold hiW loW
  rw [e, Int.add_mul_ediv_right _ _ (by decide), Int.add_mul_emod_self_right]
  refine ⟨?_, rfl⟩
  rw [Int.add_emod, Int.mul_emod, Int.emod_emod, ← Int.mul_emod, ← Int.add_emod]
theorem w_negb {x : Int} (h : okW x) : (hiW x / 9223372036854775808 == 1) = decide (x < 0) := by
  rw [w_sign h]; by_cases e : x < 0
  · rw [if_pos e, decide_eq_true e]; rfl
  · rw [if_neg e, decide_eq_false e]; rfl
theorem loW_id {n : Int} (h : 0 ≤ n ∧ n < 18446744073709551616) : loW n = n := by unfold loW; omega
def cmpI (a b : Int) : Int := if a < b then -1 else if a > b then 1 else 0
theorem cmp_facts (a b : Int) : a < b ∧ cmpI a b = -1 ∨ a = b ∧ cmpI a b = 0 ∨ a > b ∧ cmpI a b = 1 := by unfold cmpI; split <;> (try split) <;> omega

abbrev vlA (x : Fxd) (r : Int) : Array Value := #[Value.int .i64 x.gBits, .bool x.gSigned, Value.int .i64 x.gNum, Value.int .i64 x.gOff, Value.int .i64 x.gDen, Value.int .i64 x.gUnit_M, Value.int .i64 x.gUnit_Kg, Value.int .i64 x.gUnit_S, Value.int .i64 x.gUnit_A, Value.int .i64 x.gUnit_K, Value.int .i64 r]
abbrev vlL (x : Fxd) (r : Int) : List Value := [Value.int .i64 x.gBits, .bool x.gSigned, Value.int .i64 x.gNum, Value.int .i64 x.gOff, Value.int .i64 x.gDen, Value.int .i64 x.gUnit_M, Value.int .i64 x.gUnit_Kg, Value.int .i64 x.gUnit_S, Value.int .i64 x.gUnit_A, Value.int .i64 x.gUnit_K, Value.int .i64 r]
theorem hb165 : HasBody Tryz.prog 165 := fun _ _ => by kernel_rfl

theorem of4_any (n : Int) (w : World) (hn : -9223372036854775808 ≤ n ∧ n ≤ 9223372036854775807) : Ret Tryz.prog 165 #[iv n] w (fun v w' => v = .agg (wvA (n)) ∧ Sep w [] w') := by
 refine Ret.st (N := 11) Tryz.func165 fun R hR S0 => ?_
 refine J.nw 2 [] [] [] S0 2 [.int .u64 0, .int .u64 0] 183 fun b1 w1 S1 => ?_
 refine J.c 7 [] [] [] 4 (n < 0) (fun fk1 => ?_) fun fk1 => ?_
 ·skip
  refine J.h 5 [true] [] [] 6 (.int .u64 (IntKind.wrap .u64 n)) (.int .u64 (loW n)) (congrArg (Value.int .u64) (wrapM _)) ?_
  refine J.sb 1 [] [] [] S1 0 rfl [.int .u64 18446744073709551615, .int .u64 (loW n)] rfl fun w2 S2 => ?_
  refine J.ez 1 [.agg #[.int .u64 18446744073709551615, .int .u64 (loW n)]] Tryz.func165 (bk (S2.nth 0 rfl) bn) (hR _ _ ?_)
  exact ⟨wd_eq (by unfold hiW; omega) (rfl), S2.nil⟩
 refine J.h 6 [false] [] [] 9 (.int .u64 (IntKind.wrap .u64 n)) (.int .u64 (loW n)) (congrArg (Value.int .u64) (wrapM _)) ?_
 refine J.sb 1 [] [] [] S1 0 rfl [.int .u64 0, .int .u64 (loW n)] rfl fun w3 S3 => ?_
 refine J.ez 1 [.agg #[.int .u64 0, .int .u64 (loW n)]] Tryz.func165 (bk (S3.nth 0 rfl) bn) (hR _ _ ?_)
 exact ⟨wd_eq (by unfold hiW; omega) (rfl), S3.nil⟩

theorem hb197 : HasBody Tryz.prog 197 := fun _ _ => by kernel_rfl

theorem wneg_any (x : Int) (w : World) (hx : okW x) : Ret Tryz.prog 197 #[.agg (wvA x)] w (fun v w' => v = .bool (decide (x < 0)) ∧ Sep w [] w') := by
 refine Ret.st (N := 7) Tryz.func197 fun R hR S0 => ?_
 refine J.nw 2 [] [] [] S0 1 (wvL x) 183 fun b1 w1 S1 => ?_
 refine J.lb 5 [] [] [] S1 0 rfl 4 (.int .u64 (hiW x)) ?_
 refine J.h 1 [] [] [] 5 (.int .u64 (Int.fdiv (hiW x) (2 ^ 63))) (.int .u64 ((hiW x) / 9223372036854775808)) (congrArg (Value.int .u64) (shr_lit _ _ (by decide))) ?_
 refine J.e 3 [.bool (((hiW x) / 9223372036854775808) == 1)] Tryz.func197 (hR _ _ ?_)
 exact ⟨congrArg Value.bool (w_negb hx), S1.nil⟩

theorem hb198 : HasBody Tryz.prog 198 := fun _ _ => by kernel_rfl

theorem wminus_any (x : Int) (w : World) : Ret Tryz.prog 198 #[.agg (wvA x)] w (fun v w' => v = .agg (wvA (-x)) ∧ Sep w [] w') := by
 refine Ret.st (N := 19) Tryz.func198 fun R hR S0 => ?_
 have hwbx := W_bd x
 refine J.nw 2 [] [] [] S0 1 (wvL x) 183 fun b1 w1 S1 => ?_
 refine J.nw 0 [] [] [] S1 2 [.int .u64 0, .int .u64 0] 183 fun b2 w2 S2 => ?_
 refine J.lb 4 [] [] [] S2 1 rfl 7 (.int .u64 (loW x)) ?_
 refine J.h 1 [] [] [] 8 (.int .u64 (IntKind.wrap .u64 ((BitVec.ofInt 64 (18446744073709551615 : Int) ^^^ (BitVec.ofInt 64 (loW x))).toNat : Int))) (.int .u64 (18446744073709551615 - (loW x))) (congrArg (Value.int .u64) (xor_max (by omega))) ?_
 refine J.ok (OK.add64 9 218 (18446744073709551615 - (loW x)) 1 0 Tryz.func218 (by kernel_rfl) (by kernel_rfl) (by kernel_rfl) (by kernel_rfl) (by kernel_rfl) ⟨by omega, by omega, by omega, by omega⟩) ?_
 refine J.lb 9 [] [(4, .int .u64 (((18446744073709551615 - (loW x)) + 1 + 0) / 18446744073709551616)), (3, .int .u64 (((18446744073709551615 - (loW x)) + 1 + 0) % 18446744073709551616))] [] S2 1 rfl 13 (.int .u64 (hiW x)) ?_
 refine J.h 1 [] [] [] 14 (.int .u64 (IntKind.wrap .u64 ((BitVec.ofInt 64 (18446744073709551615 : Int) ^^^ (BitVec.ofInt 64 (hiW x))).toNat : Int))) (.int .u64 (18446744073709551615 - (hiW x))) (congrArg (Value.int .u64) (xor_max (by omega))) ?_
 refine J.h 2 [] [] [] 16 (.int .u64 (IntKind.wrap .u64 ((18446744073709551615 - (hiW x)) + (((18446744073709551615 - (loW x)) + 1 + 0) / 18446744073709551616)))) (.int .u64 (((18446744073709551615 - (hiW x)) + (((18446744073709551615 - (loW x)) + 1 + 0) / 18446744073709551616)) % 18446744073709551616)) (congrArg (Value.int .u64) (wrapM _)) ?_
 refine J.sb 2 [] [] [] S2 0 rfl [.int .u64 (((18446744073709551615 - (hiW x)) + (((18446744073709551615 - (loW x)) + 1 + 0) / 18446744073709551616)) % 18446744073709551616), .int .u64 (((18446744073709551615 - (loW x)) + 1 + 0) % 18446744073709551616)] rfl fun w3 S3 => ?_
 refine J.ez 1 [.agg #[.int .u64 (((18446744073709551615 - (hiW x)) + (((18446744073709551615 - (loW x)) + 1 + 0) / 18446744073709551616)) % 18446744073709551616), .int .u64 (((18446744073709551615 - (loW x)) + 1 + 0) % 18446744073709551616)]] Tryz.func198 (bk (S3.nth 0 rfl) bn) (hR _ _ ?_)
 exact ⟨wd_eq (by have := w_neg x; omega) (by have := w_neg x; omega), S3.nil⟩

theorem hb217 : HasBody Tryz.prog 217 := fun _ _ => by kernel_rfl

theorem wadd_any (x y : Int) (w : World) : Ret Tryz.prog 217 #[.agg (wvA x), .agg (wvA y)] w (fun v w' => v = .agg (wvA (x + y)) ∧ Sep w [] w') := by
 refine Ret.st (N := 29) Tryz.func217 fun R hR S0 => ?_
 have hwbx := W_bd x
 have hwby := W_bd y
 refine J.nw 2 [] [] [] S0 2 (wvL x) 183 fun b1 w1 S1 => ?_
 refine J.nw 0 [] [] [] S1 3 (wvL y) 183 fun b2 w2 S2 => ?_
 refine J.nw 0 [] [] [] S2 4 [.int .u64 0, .int .u64 0] 183 fun b3 w3 S3 => ?_
 refine J.lb 4 [] [] [] S3 2 rfl 11 (.int .u64 (loW x)) ?_
 refine J.lb 1 [] [] [] S3 1 rfl 13 (.int .u64 (loW y)) ?_
 refine J.ok (OK.add64 14 218 (loW x) (loW y) 0 Tryz.func218 (by kernel_rfl) (by kernel_rfl) (by kernel_rfl) (by kernel_rfl) (by kernel_rfl) ⟨by omega, by omega, by omega, by omega⟩) ?_
 refine J.lb 9 [] [(6, .int .u64 (((loW x) + (loW y) + 0) / 18446744073709551616)), (5, .int .u64 (((loW x) + (loW y) + 0) % 18446744073709551616))] [] S3 2 rfl 19 (.int .u64 (hiW x)) ?_
 refine J.lb 1 [] [] [] S3 1 rfl 21 (.int .u64 (hiW y)) ?_
 refine J.r 1 [] [(22, .int .u64 (((loW x) + (loW y) + 0) / 18446744073709551616))] [] ?_
 refine J.ok (OK.add64 23 218 (hiW x) (hiW y) (((loW x) + (loW y) + 0) / 18446744073709551616) Tryz.func218 (by kernel_rfl) (by kernel_rfl) (by kernel_rfl) (by kernel_rfl) (by kernel_rfl) ⟨by omega, by omega, by omega, by omega⟩) ?_
 refine J.sb 11 [] [] [] S3 0 rfl [.int .u64 (((hiW x) + (hiW y) + (((loW x) + (loW y) + 0) / 18446744073709551616)) % 18446744073709551616), .int .u64 (((loW x) + (loW y) + 0) % 18446744073709551616)] rfl fun w4 S4 => ?_
 refine J.ez 1 [.agg #[.int .u64 (((hiW x) + (hiW y) + (((loW x) + (loW y) + 0) / 18446744073709551616)) % 18446744073709551616), .int .u64 (((loW x) + (loW y) + 0) % 18446744073709551616)]] Tryz.func217 (bk (S4.nth 0 rfl) bn) (hR _ _ ?_)
 exact ⟨wd_eq (by have := w_add x y; omega) (by have := w_add x y; omega), S4.nil⟩

theorem hb166 : HasBody Tryz.prog 166 := fun _ _ => by kernel_rfl

theorem wtimes_any (x n : Int) (w : World) (hx : okW x) (hn : -9223372036854775808 ≤ n ∧ n ≤ 9223372036854775807) : Ret Tryz.prog 166 #[.agg (wvA x), iv n] w (fun v w' => v = .agg (wvA (x * n)) ∧ Sep w [] w') := by
 refine Ret.st (N := 44) Tryz.func166 fun R hR S0 => ?_
 have hwbx := W_bd x
 have hwy := W_bd (-x)
 have hwn := W_bd n
 have hwd := W_def n
 refine J.nw 2 [] [] [] S0 2 (wvL x) 183 fun b1 w1 S1 => ?_
 refine J.nw 0 [] [] [] S1 4 [.int .u64 0, .int .u64 0] 183 fun b2 w2 S2 => ?_
 refine J.lb 3 [] [] [] S2 1 rfl 10 (.agg (wvA x)) ?_
 refine J.c0 0 [] [] [] S2 11 hb197 (wneg_any x _ (by constructor <;> omega)) fun w3 S3 => ?_
 refine J.lb 8 [] [(5, .bool (!((decide (x < 0)) == (decide (n < 0)))))] [] S3 1 rfl 15 (.agg (wvA x)) ?_
 refine J.c0 0 [] [] [] S3 16 hb197 (wneg_any x _ (by constructor <;> omega)) fun w4 S4 => ?_
 refine J.c 1 [] [] [] 16 (x < 0) (fun fk1 => ?_) fun fk1 => ?_
 ·skip
  refine J.lb 2 [true] [] [] S4 1 rfl 17 (.agg (wvA x)) ?_
  refine J.c0 0 [] [] [] S4 18 hb198 (wminus_any x _) fun w5 S5 => ?_
  refine J.sb 0 [] [] [] S5 1 rfl (wvL (-x)) rfl fun w6 S6 => ?_
  refine J.h 5 [] [] [] 20 (.int .u64 (IntKind.wrap .u64 n)) (.int .u64 (loW n)) (congrArg (Value.int .u64) (wrapM _)) ?_
  refine J.c 8 [] [(6, .int .u64 (loW n))] [] 22 (n < 0) (fun fk2 => ?_) fun fk2 => ?_
  ·skip
   refine J.h 4 [true] [] [] 24 (.int .u64 (IntKind.wrap .u64 (0 - (loW n)))) (.int .u64 (-n)) (congrArg (Value.int .u64) (by rw [wrapM]; unfold loW; omega)) ?_
   refine J.lb 5 [] [(6, .int .u64 (-n))] [] S6 1 rfl 27 (.int .u64 (loW (-x))) ?_
   refine J.c0 1 [] [] [] S6 29 hb199 (mul64_any (loW (-x)) (-n) _ (by omega) (by omega)) fun w7 S7 => ?_
   refine J.lb 10 [] [(32, .int .u64 ((loW (-x)) * (-n) / 18446744073709551616)), (8, .int .u64 ((loW (-x)) * (-n) % 18446744073709551616))] [] S7 1 rfl 34 (.int .u64 (hiW (-x))) ?_
   refine J.h 2 [] [] [] 36 (.int .u64 (IntKind.wrap .u64 ((hiW (-x)) * (-n)))) (.int .u64 ((hiW (-x)) * (-n) % 18446744073709551616)) (congrArg (Value.int .u64) (wrapM _)) ?_
   refine J.h 1 [] [] [] 37 (.int .u64 (IntKind.wrap .u64 (((loW (-x)) * (-n) / 18446744073709551616) + ((hiW (-x)) * (-n) % 18446744073709551616)))) (.int .u64 ((((loW (-x)) * (-n) / 18446744073709551616) + ((hiW (-x)) * (-n) % 18446744073709551616)) % 18446744073709551616)) (congrArg (Value.int .u64) (wrapM _)) ?_
   refine J.h 2 [] [] [] 39 (.agg #[.int .u64 ((((loW (-x)) * (-n) / 18446744073709551616) + ((hiW (-x)) * (-n) % 18446744073709551616)) % 18446744073709551616), .int .u64 ((loW (-x)) * (-n) % 18446744073709551616)]) (.agg (wvA ((-x) * (-n)))) (wd_q (by have := w_mul (-x) (-n); omega) (by have := w_mul (-x) (-n); omega)) ?_
   refine J.nw 0 [] [] [] S7 9 [.int .u64 0, .int .u64 0] 183 fun b3 w8 S8 => ?_
   refine J.sb 0 [] [] [] S8 0 rfl (wvL ((-x) * (-n))) rfl fun w9 S9 => ?_
   have fk4 : (!((decide (x < 0)) == (decide (n < 0)))) = false := by simp [fk1, fk2]
   refine J.h 6 [] [] [] 40 (.bool (!((decide (x < 0)) == (decide (n < 0))))) (.bool false) (congrArg Value.bool fk4) ?_
   refine J.lb 4 [false] [] [] S9 0 rfl 43 (.agg (wvA ((-x) * (-n)))) ?_
   refine J.sb 0 [] [] [] S9 1 rfl (wvL ((-x) * (-n))) rfl fun w10 S10 => ?_
   refine J.ez 1 [.agg (wvA ((-x) * (-n)))] Tryz.func166 (bk (S10.nth 1 rfl) bn) (hR _ _ ?_)
   have e : (-x) * (-n) = x * n := by (try rw [loW_id (n := n) (by omega)]) <;> (try simp [Int.neg_mul, Int.mul_neg])
   rw [e]
   exact ⟨rfl, S10.nil⟩
  refine J.lb 5 [false] [] [] S6 1 rfl 27 (.int .u64 (loW (-x))) ?_
  refine J.c0 1 [] [] [] S6 29 hb199 (mul64_any (loW (-x)) (loW n) _ (by omega) (by omega)) fun w11 S11 => ?_
  refine J.lb 10 [] [(32, .int .u64 ((loW (-x)) * (loW n) / 18446744073709551616)), (8, .int .u64 ((loW (-x)) * (loW n) % 18446744073709551616))] [] S11 1 rfl 34 (.int .u64 (hiW (-x))) ?_
  refine J.h 2 [] [] [] 36 (.int .u64 (IntKind.wrap .u64 ((hiW (-x)) * (loW n)))) (.int .u64 ((hiW (-x)) * (loW n) % 18446744073709551616)) (congrArg (Value.int .u64) (wrapM _)) ?_
  refine J.h 1 [] [] [] 37 (.int .u64 (IntKind.wrap .u64 (((loW (-x)) * (loW n) / 18446744073709551616) + ((hiW (-x)) * (loW n) % 18446744073709551616)))) (.int .u64 ((((loW (-x)) * (loW n) / 18446744073709551616) + ((hiW (-x)) * (loW n) % 18446744073709551616)) % 18446744073709551616)) (congrArg (Value.int .u64) (wrapM _)) ?_
  refine J.h 2 [] [] [] 39 (.agg #[.int .u64 ((((loW (-x)) * (loW n) / 18446744073709551616) + ((hiW (-x)) * (loW n) % 18446744073709551616)) % 18446744073709551616), .int .u64 ((loW (-x)) * (loW n) % 18446744073709551616)]) (.agg (wvA ((-x) * (loW n)))) (wd_q (by have := w_mul (-x) (loW n); omega) (by have := w_mul (-x) (loW n); omega)) ?_
  refine J.nw 0 [] [] [] S11 9 [.int .u64 0, .int .u64 0] 183 fun b4 w12 S12 => ?_
  refine J.sb 0 [] [] [] S12 0 rfl (wvL ((-x) * (loW n))) rfl fun w13 S13 => ?_
  have fk6 : (!((decide (x < 0)) == (decide (n < 0)))) = true := by simp [fk1, fk2]
  refine J.h 6 [] [] [] 40 (.bool (!((decide (x < 0)) == (decide (n < 0))))) (.bool true) (congrArg Value.bool fk6) ?_
  refine J.lb 3 [true] [] [] S13 0 rfl 41 (.agg (wvA ((-x) * (loW n)))) ?_
  refine J.c0 0 [] [] [] S13 42 hb198 (wminus_any ((-x) * (loW n)) _) fun w14 S14 => ?_
  refine J.sb 0 [] [] [] S14 1 rfl (wvL (-((-x) * (loW n)))) rfl fun w15 S15 => ?_
  refine J.ez 1 [.agg (wvA (-((-x) * (loW n))))] Tryz.func166 (bk (S15.nth 1 rfl) bn) (hR _ _ ?_)
  have e : -((-x) * (loW n)) = x * n := by (try rw [loW_id (n := n) (by omega)]) <;> (try simp [Int.neg_mul, Int.mul_neg])
  rw [e]
  exact ⟨rfl, S15.nil⟩
 refine J.h 6 [false] [] [] 20 (.int .u64 (IntKind.wrap .u64 n)) (.int .u64 (loW n)) (congrArg (Value.int .u64) (wrapM _)) ?_
 refine J.c 8 [] [(6, .int .u64 (loW n))] [] 22 (n < 0) (fun fk7 => ?_) fun fk7 => ?_
 ·skip
  refine J.h 4 [true] [] [] 24 (.int .u64 (IntKind.wrap .u64 (0 - (loW n)))) (.int .u64 (-n)) (congrArg (Value.int .u64) (by rw [wrapM]; unfold loW; omega)) ?_
  refine J.lb 5 [] [(6, .int .u64 (-n))] [] S4 1 rfl 27 (.int .u64 (loW x)) ?_
  refine J.c0 1 [] [] [] S4 29 hb199 (mul64_any (loW x) (-n) _ (by omega) (by omega)) fun w16 S16 => ?_
  refine J.lb 10 [] [(32, .int .u64 ((loW x) * (-n) / 18446744073709551616)), (8, .int .u64 ((loW x) * (-n) % 18446744073709551616))] [] S16 1 rfl 34 (.int .u64 (hiW x)) ?_
  refine J.h 2 [] [] [] 36 (.int .u64 (IntKind.wrap .u64 ((hiW x) * (-n)))) (.int .u64 ((hiW x) * (-n) % 18446744073709551616)) (congrArg (Value.int .u64) (wrapM _)) ?_
  refine J.h 1 [] [] [] 37 (.int .u64 (IntKind.wrap .u64 (((loW x) * (-n) / 18446744073709551616) + ((hiW x) * (-n) % 18446744073709551616)))) (.int .u64 ((((loW x) * (-n) / 18446744073709551616) + ((hiW x) * (-n) % 18446744073709551616)) % 18446744073709551616)) (congrArg (Value.int .u64) (wrapM _)) ?_
  refine J.h 2 [] [] [] 39 (.agg #[.int .u64 ((((loW x) * (-n) / 18446744073709551616) + ((hiW x) * (-n) % 18446744073709551616)) % 18446744073709551616), .int .u64 ((loW x) * (-n) % 18446744073709551616)]) (.agg (wvA (x * (-n)))) (wd_q (by have := w_mul x (-n); omega) (by have := w_mul x (-n); omega)) ?_
  refine J.nw 0 [] [] [] S16 9 [.int .u64 0, .int .u64 0] 183 fun b5 w17 S17 => ?_
  refine J.sb 0 [] [] [] S17 0 rfl (wvL (x * (-n))) rfl fun w18 S18 => ?_
  have fk9 : (!((decide (x < 0)) == (decide (n < 0)))) = true := by simp [fk1, fk7]
  refine J.h 6 [] [] [] 40 (.bool (!((decide (x < 0)) == (decide (n < 0))))) (.bool true) (congrArg Value.bool fk9) ?_
  refine J.lb 3 [true] [] [] S18 0 rfl 41 (.agg (wvA (x * (-n)))) ?_
  refine J.c0 0 [] [] [] S18 42 hb198 (wminus_any (x * (-n)) _) fun w19 S19 => ?_
  refine J.sb 0 [] [] [] S19 1 rfl (wvL (-(x * (-n)))) rfl fun w20 S20 => ?_
  refine J.ez 1 [.agg (wvA (-(x * (-n))))] Tryz.func166 (bk (S20.nth 1 rfl) bn) (hR _ _ ?_)
  have e : -(x * (-n)) = x * n := by (try rw [loW_id (n := n) (by omega)]) <;> (try simp [Int.neg_mul, Int.mul_neg])
  rw [e]
  exact ⟨rfl, S20.nil⟩
 refine J.lb 5 [false] [] [] S4 1 rfl 27 (.int .u64 (loW x)) ?_
 refine J.c0 1 [] [] [] S4 29 hb199 (mul64_any (loW x) (loW n) _ (by omega) (by omega)) fun w21 S21 => ?_
 refine J.lb 10 [] [(32, .int .u64 ((loW x) * (loW n) / 18446744073709551616)), (8, .int .u64 ((loW x) * (loW n) % 18446744073709551616))] [] S21 1 rfl 34 (.int .u64 (hiW x)) ?_
 refine J.h 2 [] [] [] 36 (.int .u64 (IntKind.wrap .u64 ((hiW x) * (loW n)))) (.int .u64 ((hiW x) * (loW n) % 18446744073709551616)) (congrArg (Value.int .u64) (wrapM _)) ?_
 refine J.h 1 [] [] [] 37 (.int .u64 (IntKind.wrap .u64 (((loW x) * (loW n) / 18446744073709551616) + ((hiW x) * (loW n) % 18446744073709551616)))) (.int .u64 ((((loW x) * (loW n) / 18446744073709551616) + ((hiW x) * (loW n) % 18446744073709551616)) % 18446744073709551616)) (congrArg (Value.int .u64) (wrapM _)) ?_
 refine J.h 2 [] [] [] 39 (.agg #[.int .u64 ((((loW x) * (loW n) / 18446744073709551616) + ((hiW x) * (loW n) % 18446744073709551616)) % 18446744073709551616), .int .u64 ((loW x) * (loW n) % 18446744073709551616)]) (.agg (wvA (x * (loW n)))) (wd_q (by have := w_mul x (loW n); omega) (by have := w_mul x (loW n); omega)) ?_
 refine J.nw 0 [] [] [] S21 9 [.int .u64 0, .int .u64 0] 183 fun b6 w22 S22 => ?_
 refine J.sb 0 [] [] [] S22 0 rfl (wvL (x * (loW n))) rfl fun w23 S23 => ?_
 have fk11 : (!((decide (x < 0)) == (decide (n < 0)))) = false := by simp [fk1, fk7]
 refine J.h 6 [] [] [] 40 (.bool (!((decide (x < 0)) == (decide (n < 0))))) (.bool false) (congrArg Value.bool fk11) ?_
 refine J.lb 4 [false] [] [] S23 0 rfl 43 (.agg (wvA (x * (loW n)))) ?_
 refine J.sb 0 [] [] [] S23 1 rfl (wvL (x * (loW n))) rfl fun w24 S24 => ?_
 refine J.ez 1 [.agg (wvA (x * (loW n)))] Tryz.func166 (bk (S24.nth 1 rfl) bn) (hR _ _ ?_)
 have e : x * (loW n) = x * n := by (try rw [loW_id (n := n) (by omega)]) <;> (try simp [Int.neg_mul, Int.mul_neg])
 rw [e]
 exact ⟨rfl, S24.nil⟩

theorem hb219 : HasBody Tryz.prog 219 := fun _ _ => by kernel_rfl

theorem isnan_any (a : Int) (w : World) : Ret Tryz.prog 219 #[.int .u64 a] w (fun v w' => v = .bool false ∧ Sep w [] w') := by
 refine Ret.st (N := 6) Tryz.func219 fun R hR S0 => ?_
 refine J.h 9 [] [] [] 5 (.bool (a != a)) (.bool false) (congrArg Value.bool (by simp)) ?_
 refine J.e 2 [.bool false] Tryz.func219 (hR _ _ ?_)
 exact ⟨rfl, S0.nil⟩

theorem hb200 : HasBody Tryz.prog 200 := fun _ _ => by kernel_rfl

theorem cmp_any (a b : Int) (w : World) : Ret Tryz.prog 200 #[.int .u64 a, .int .u64 b] w (fun v w' => v = iv (cmpI a b) ∧ Sep w [] w') := by
 refine Ret.st (N := 20) Tryz.func200 fun R hR S0 => ?_
 refine J.c0 7 [] [] [] S0 8 hb219 (isnan_any a _) fun w1 S1 => ?_
 refine J.c0 5 [] [(5, .bool false)] [] S1 10 hb219 (isnan_any b _) fun w2 S2 => ?_
 refine J.c 23 [false, false] [] [] 16 (a < b) (fun fk1 => ?_) fun fk1 => ?_
 ·skip
  refine J.e 5 [iv (-1)] Tryz.func200 (hR _ _ ?_)
  exact ⟨congrArg (Value.int .i64) (by have := cmp_facts a b; omega), S2.nil⟩
 refine J.c 9 [false] [] [] 19 (a > b) (fun fk2 => ?_) fun fk2 => ?_
 ·skip
  refine J.e 5 [iv 1] Tryz.func200 (hR _ _ ?_)
  exact ⟨congrArg (Value.int .i64) (by have := cmp_facts a b; omega), S2.nil⟩
 refine J.e 6 [iv 0] Tryz.func200 (hR _ _ ?_)
 exact ⟨congrArg (Value.int .i64) (by have := cmp_facts a b; omega), S2.nil⟩

theorem hb167 : HasBody Tryz.prog 167 := fun _ _ => by kernel_rfl

theorem watmost_any (x y : Int) (w : World) (hx : okW x) (hy : okW y) : Ret Tryz.prog 167 #[.agg (wvA x), .agg (wvA y)] w (fun v w' => v = .bool (decide (x ≤ y)) ∧ Sep w [] w') := by
 refine Ret.st (N := 22) Tryz.func167 fun R hR S0 => ?_
 have hwbx := W_bd x
 have hwby := W_bd y
 have hle := w_le hx hy
 refine J.nw 2 [] [] [] S0 2 (wvL x) 183 fun b1 w1 S1 => ?_
 refine J.nw 0 [] [] [] S1 3 (wvL y) 183 fun b2 w2 S2 => ?_
 refine J.lb 6 [] [] [] S2 1 rfl 7 (.int .u64 (hiW x)) ?_
 refine J.h 1 [] [] [] 8 (.int .u64 (IntKind.wrap .u64 ((BitVec.ofInt 64 (hiW x) ^^^ (BitVec.ofInt 64 (9223372036854775808 : Int))).toNat : Int))) (.int .u64 (((hiW x) + 9223372036854775808) % 18446744073709551616)) (congrArg (Value.int .u64) (xor_top (by omega))) ?_
 refine J.lb 1 [] [] [] S2 0 rfl 10 (.int .u64 (hiW y)) ?_
 refine J.h 1 [] [] [] 11 (.int .u64 (IntKind.wrap .u64 ((BitVec.ofInt 64 (hiW y) ^^^ (BitVec.ofInt 64 (9223372036854775808 : Int))).toNat : Int))) (.int .u64 (((hiW y) + 9223372036854775808) % 18446744073709551616)) (congrArg (Value.int .u64) (xor_top (by omega))) ?_
 refine J.c0 0 [] [] [] S2 12 hb200 (cmp_any (((hiW x) + 9223372036854775808) % 18446744073709551616) (((hiW y) + 9223372036854775808) % 18446744073709551616) _) fun w3 S3 => ?_
 have hcm := cmp_facts ((((hiW x) + 9223372036854775808) % 18446744073709551616)) ((((hiW y) + 9223372036854775808) % 18446744073709551616))
 refine J.cn 7 [] [(5, iv (cmpI (((hiW x) + 9223372036854775808) % 18446744073709551616) (((hiW y) + 9223372036854775808) % 18446744073709551616)))] [] 14 ((cmpI (((hiW x) + 9223372036854775808) % 18446744073709551616) (((hiW y) + 9223372036854775808) % 18446744073709551616)) = 0) (fun fk1 => ?_) fun fk1 => ?_
 ·skip
  refine J.lb 5 [false] [] [] S3 1 rfl 18 (.int .u64 (loW x)) ?_
  refine J.lb 1 [] [] [] S3 0 rfl 20 (.int .u64 (loW y)) ?_
  refine J.e 3 [.bool (decide ((loW x) ≤ (loW y)))] Tryz.func167 (hR _ _ ?_)
  exact ⟨congrArg Value.bool (decide_eq_decide.2 (by omega)), S3.nil⟩
 refine J.e 7 [.bool (decide ((cmpI (((hiW x) + 9223372036854775808) % 18446744073709551616) (((hiW y) + 9223372036854775808) % 18446744073709551616)) < 0))] Tryz.func167 (hR _ _ ?_)
 exact ⟨congrArg Value.bool (decide_eq_decide.2 (by omega)), S3.nil⟩

end Go.Proofs.YtaoolgcddapegaaGreatDoor

