/- Walks of functions of this seat, printed by a program over the engine. Conditions: as each theorem says. -/
import Derived.Test.YtadgnficogeheaaGreatDoorZsA1
namespace Go.Proofs.YtadgnficogeheaaGreatDoor
noncomputable section
open Go.Eng Go.RowKit
set_option linter.unusedSimpArgs false
set_option linter.unusedVariables false
/-- a quotient by a positive number, rounded down, up, or to the nearest -/
def rndQ (p d mode : Int) : Int := if mode = 1 then p / d else if mode = 2 then -((-p) / d) else (2 * p + d) / (2 * d)
def mulDivR (a b c mode : Int) : Int := if c < 0 then rndQ (-(a * b)) (-c) mode else rndQ (a * b) c mode
def fitsB (x : Int) : Bool := decide (-9223372036854775808 ≤ x) && decide (x ≤ 9223372036854775807)
def mdX (a b c mode : Int) : Int := if mode < 1 ∨ 3 < mode then 0 else if c = 0 then 0 else if fitsB (mulDivR a b c mode) then mulDivR a b c mode else 0
def mdE (a b c mode : Int) : Int := if mode < 1 ∨ 3 < mode then 1 else if c = 0 then 10 else if fitsB (mulDivR a b c mode) then 0 else 9
theorem mdX_bounds (a b c mode : Int) : -9223372036854775808 ≤ mdX a b c mode ∧ mdX a b c mode ≤ 9223372036854775807 := by
  unfold mdX
  split; · omega
  split; · omega
  split
  · rename_i h; simp [fitsB] at h; exact h
  · omega
def mdV (a b c mode : Int) : Value := .tuple #[.int .i64 (mdX a b c mode), .int .i64 (mdE a b c mode)]
theorem rndQ_pos {p d q r mode : Int} (h : p = q * d + r) (h0 : 0 ≤ r) (h1 : r < d) (hm : 1 ≤ mode ∧ mode ≤ 3) : rndQ p d mode = q + (if rndB r d false mode then 1 else 0) := by
  subst h
  have e1 : (q + 1) * d = q * d + d := by grind
  rcases (show mode = 1 ∨ mode = 2 ∨ mode = 3 by omega) with rfl | rfl | rfl
  · have := ediv_of (x := q * d + r) (d := d) (k := q) (by omega) (by omega) (by omega)
    simp [rndQ, rndB, this]
  · simp only [rndQ, rndB]
    by_cases hr : 0 < r
    · have e2 : (-q - 1) * d = -(q * d) - d := by grind
      have := ediv_of (x := -(q * d + r)) (d := d) (k := -q - 1) (by omega) (by omega) (by omega)
      simp [this, hr]; omega
    · have e2 : (-q) * d = -(q * d) := by grind
      have := ediv_of (x := -(q * d + r)) (d := d) (k := -q) (by omega) (by omega) (by omega)
      simp [this, hr]
  · simp only [rndQ, rndB]
    have e3 : q * (2 * d) = 2 * (q * d) := by grind
    have e4 : (q + 1) * (2 * d) = 2 * (q * d) + 2 * d := by grind
    by_cases hr : d - r ≤ r
    · have := ediv_of (x := 2 * (q * d + r) + d) (d := 2 * d) (k := q + 1) (by omega) (by omega) (by omega)
      simp [this, hr]
    · have := ediv_of (x := 2 * (q * d + r) + d) (d := 2 * d) (k := q) (by omega) (by omega) (by omega)
      simp [this, hr]
theorem rndQ_neg {p d q r mode : Int} (h : p = -(q * d + r)) (h0 : 0 ≤ r) (h1 : r < d) (hm : 1 ≤ mode ∧ mode ≤ 3) : rndQ p d mode = -(q + (if rndB r d true mode then 1 else 0)) := by
  subst h
  rcases (show mode = 1 ∨ mode = 2 ∨ mode = 3 by omega) with rfl | rfl | rfl
  · simp only [rndQ, rndB]
    by_cases hr : 0 < r
    · have e2 : (-q - 1) * d = -(q * d) - d := by grind
      have := ediv_of (x := -(q * d + r)) (d := d) (k := -q - 1) (by omega) (by omega) (by omega)
      simp [this, hr]; omega
    · have e2 : (-q) * d = -(q * d) := by grind
      have := ediv_of (x := -(q * d + r)) (d := d) (k := -q) (by omega) (by omega) (by omega)
      simp [this, hr]
  · have := ediv_of (x := q * d + r) (d := d) (k := q) (by omega) (by omega) (by omega)
    simp [rndQ, rndB, this]
  · simp only [rndQ, rndB]
    have e3 : (-q) * (2 * d) = -(2 * (q * d)) := by grind
    have e4 : (-q - 1) * (2 * d) = -(2 * (q * d)) - 2 * d := by grind
    by_cases hr : d - r < r
    · have := ediv_of (x := 2 * -(q * d + r) + d) (d := 2 * d) (k := -q - 1) (by omega) (by omega) (by omega)
      simp [this, hr]; omega
    · have := ediv_of (x := 2 * -(q * d + r) + d) (d := 2 * d) (k := -q) (by omega) (by omega) (by omega)
      simp [this, hr]
theorem qr_facts {q r x d : Int} (hq : q = x / d) (hr : r = x % d) (hd : 1 ≤ d) (hx : 0 ≤ x) : x = q * d + r ∧ 0 ≤ r ∧ r < d ∧ 0 ≤ q := by
  have h1 := Int.mul_ediv_add_emod x d
  have h2 := Int.emod_nonneg x (show d ≠ 0 by omega)
  have h3 := Int.emod_lt_of_pos x (show 0 < d by omega)
  have h4 := Int.ediv_nonneg hx (show 0 ≤ d by omega)
  rw [← hq, ← hr, Int.mul_comm] at h1
  omega
def negB (a b c : Int) : Bool := (decide (a < 0) != decide (b < 0)) != decide (c < 0)
theorem mag_cases (n : Int) : magF n = if n < 0 then -n else n := by unfold magF; split <;> omega
theorem sign_mul (a b c : Int) : (if c < 0 then -(a * b) else a * b) = if negB a b c then -(magF a * magF b) else magF a * magF b := by
  rw [mag_cases a, mag_cases b]
  unfold negB
  by_cases ha : a < 0 <;> by_cases hb : b < 0 <;> by_cases hc : c < 0 <;> simp [ha, hb, hc] <;> grind
/-- the quotient by the absolute values -/
theorem md_core {a b c mode q r : Int} (hc : c ≠ 0) (hm : 1 ≤ mode ∧ mode ≤ 3) (h : magF a * magF b = q * magF c + r) (h0 : 0 ≤ r) (h1 : r < magF c) :
    mulDivR a b c mode = if negB a b c then -(q + (if rndB r (magF c) (negB a b c) mode then 1 else 0)) else q + (if rndB r (magF c) (negB a b c) mode then 1 else 0) := by
  have hs := sign_mul a b c
  have e : mulDivR a b c mode = rndQ (if c < 0 then -(a * b) else a * b) (magF c) mode := by
    unfold mulDivR; rw [mag_cases c]; split <;> rfl
  rw [e, hs]
  cases hn : negB a b c with
  | true => simp only [if_true]; exact rndQ_neg (by rw [h]) h0 h1 hm
  | false => simp only [Bool.false_eq_true, if_false]; exact rndQ_pos h h0 h1 hm
theorem md_fit {a b c mode x : Int} (hm : 1 ≤ mode ∧ mode ≤ 3) (hc : c ≠ 0) (h : mulDivR a b c mode = x) (hx : -9223372036854775808 ≤ x ∧ x ≤ 9223372036854775807) : mdX a b c mode = x ∧ mdE a b c mode = 0 := by
  have hm2 : ¬ (mode < 1 ∨ 3 < mode) := by omega
  have hf : fitsB x = true := by simp [fitsB]; omega
  unfold mdX mdE
  simp [hm2, hc, h, hf]
theorem md_unfit {a b c mode x : Int} (hm : 1 ≤ mode ∧ mode ≤ 3) (hc : c ≠ 0) (h : mulDivR a b c mode = x) (hx : x < -9223372036854775808 ∨ 9223372036854775807 < x) : mdX a b c mode = 0 ∧ mdE a b c mode = 9 := by
  have hm2 : ¬ (mode < 1 ∨ 3 < mode) := by omega
  have hf : fitsB x = false := by simp [fitsB]; omega
  unfold mdX mdE
  simp [hm2, hc, h, hf]
theorem md_big {a b c mode : Int} (hm : 1 ≤ mode ∧ mode ≤ 3) (hc : c ≠ 0) (hP : 0 ≤ magF a * magF b) (h : magF c ≤ magF a * magF b / 18446744073709551616) : mdX a b c mode = 0 ∧ mdE a b c mode = 9 := by
  have hd : 1 ≤ magF c := by unfold magF; omega
  obtain ⟨h1, h2, h3, h4⟩ := quo_facts (q := magF a * magF b / magF c) rfl hP hd
  have hq : 18446744073709551616 ≤ magF a * magF b / magF c := (Int.le_ediv_iff_mul_le (by omega)).2 (by omega)
  refine md_unfit hm hc (md_core (q := magF a * magF b / magF c) (r := magF a * magF b - magF a * magF b / magF c * magF c) hc hm (by omega) (by omega) (by omega)) ?_
  split <;> split <;> omega
theorem neg_wrap {q : Int} (h : 0 ≤ q ∧ q ≤ 9223372036854775808) : IntKind.wrap .i64 (IntKind.wrap .i64 (0 - IntKind.wrap .i64 (IntKind.wrap .u64 (q - 1))) - 1) = -q := by
  rw [wrap_u64]
  by_cases h0 : q = 0
  · subst h0; decide
  · have a1 := IntWalk.i64_in (q - 1) (by omega)
    have a2 := IntWalk.i64_in (0 - (q - 1)) (by omega)
    have a3 := IntWalk.i64_in (0 - (q - 1) - 1) (by omega)
    rw [show (q - 1) % 18446744073709551616 = q - 1 by omega, a1, a2, a3]; omega
theorem hb96 : HasBody Tryz.prog 96 := fun _ _ => by kernel_rfl
def K96_0 := adv 12 [] (bodyOf Tryz.f96)
def K96_1 := adv 11 [true] K96_0
def K96_2 := adv 5 [] K96_0
def K96_3 := adv 6 [true] K96_2
def K96_4 := adv 7 [false] K96_2
def K96_5 := adv 6 [true] K96_4
def K96_6 := adv 13 [false] K96_4
def K96_7 := adv 5 [] K96_6
def K96_8 := adv 1 [] (popK K96_7)
def K96_9 := adv 2 [] (popK (popK K96_8))
def K96_10 := adv 1 [] K96_9
def K96_11 := adv 6 [] K96_10
def K96_12 := adv 9 [] (popK K96_11)
def K96_13 := adv 6 [true] K96_12
def K96_14 := adv 7 [false] K96_12
def K96_15 := adv 2 [] (popK K96_14)
def K96_16 := adv 1 [] K96_15
def K96_17 := adv 9 [] K96_16
def K96_18 := adv 6 [true] K96_17
def K96_19 := adv 9 [false] K96_17
def K96_20 := adv 1 [] (popK K96_19)
def K96_21 := adv 4 [true] K96_20
def K96_22 := adv 8 [] K96_21
def K96_23 := adv 5 [] K96_22
def K96_24 := adv 8 [true] K96_23
def K96_25 := adv 3 [] K96_24
def K96_26 := adv 6 [false] K96_23
def K96_27 := adv 13 [false] K96_26
def K96_28 := adv 11 [false] K96_22
def K96_29 := adv 5 [] K96_28
def K96_30 := adv 5 [true] K96_29
def K96_31 := adv 3 [] K96_30
def K96_32 := adv 8 [false] K96_29
def K96_33 := adv 8 [false] K96_20
def K96_34 := adv 5 [] K96_33
def K96_35 := adv 8 [true] K96_34
def K96_36 := adv 3 [] K96_35
def K96_37 := adv 6 [false] K96_34
def K96_38 := adv 13 [false] K96_37
def K96_39 := adv 11 [false] K96_33
def K96_40 := adv 5 [] K96_39
def K96_41 := adv 5 [true] K96_40
def K96_42 := adv 3 [] K96_41
def K96_43 := adv 8 [false] K96_40
set_option maxRecDepth 20000 in
set_option maxHeartbeats 20000000 in
theorem muldiv_any (a b c mode : Int) (w : World) (ha : (-9223372036854775808) ≤ a ∧ a ≤ 9223372036854775807) (hb : (-9223372036854775808) ≤ b ∧ b ≤ 9223372036854775807) (hc : (-9223372036854775808) ≤ c ∧ c ≤ 9223372036854775807) : Ret Tryz.prog 96 #[.int .i64 a, .int .i64 b, .int .i64 c, .int .i64 mode] w (fun v w' => v = mdV a b c mode ∧ Sep w [] w') := by
 have S0 := Sep.refl w
 refine Ret.named fun R hR => ?_
 refine Ret.of_J (N := 83) [(0, .int .i64 a), (1, .int .i64 b), (2, .int .i64 c), (3, .int .i64 mode)] Tryz.func96 rfl rfl (Nat.le_of_ble_eq_true (by kernel_rfl)) (by kernel_rfl) ?_
 refine J.run 12 K96_0 [(19, .bool (decide (mode < 1))), (0, .int .i64 a), (1, .int .i64 b), (2, .int .i64 c), (3, .int .i64 mode)] w (by kernel_rfl) ?_
 by_cases fk1 : mode < 1
 ·skip
  refine J.head (.bool true) (congrArg Value.bool (decide_eq_true fk1)) ?_
  refine J.run 11 K96_1 [(9, .int .i64 1), (8, .int .i64 0)] w (by kernel_rfl) ?_
  refine J.ret Tryz.f96 [.int .i64 0, .int .i64 1] Tryz.func96 ⟨by kernel_rfl, by kernel_rfl, trivial⟩ ?_
  refine hR _ _ ?_
  have e1 : mdX a b c mode = 0 ∧ mdE a b c mode = 1 := by unfold mdX mdE; rw [if_pos (by omega), if_pos (by omega)]; exact ⟨rfl, rfl⟩
  exact ⟨by rw [tup_two, mdV, e1.1, e1.2], S0.nil⟩
 refine J.head (.bool false) (congrArg Value.bool (decide_eq_false fk1)) ?_
 refine J.run 5 K96_2 [(16, .bool (decide (mode > 3))), (0, .int .i64 a), (1, .int .i64 b), (2, .int .i64 c), (3, .int .i64 mode)] w (by kernel_rfl) ?_
 by_cases fk2 : mode > 3
 ·skip
  refine J.head (.bool true) (congrArg Value.bool (decide_eq_true fk2)) ?_
  refine J.run 6 K96_3 [(9, .int .i64 1), (8, .int .i64 0)] w (by kernel_rfl) ?_
  refine J.ret Tryz.f96 [.int .i64 0, .int .i64 1] Tryz.func96 ⟨by kernel_rfl, by kernel_rfl, trivial⟩ ?_
  refine hR _ _ ?_
  have e1 : mdX a b c mode = 0 ∧ mdE a b c mode = 1 := by unfold mdX mdE; rw [if_pos (by omega), if_pos (by omega)]; exact ⟨rfl, rfl⟩
  exact ⟨by rw [tup_two, mdV, e1.1, e1.2], S0.nil⟩
 refine J.head (.bool false) (congrArg Value.bool (decide_eq_false fk2)) ?_
 refine J.run 7 K96_4 [(23, .bool (c == 0)), (0, .int .i64 a), (1, .int .i64 b), (2, .int .i64 c), (3, .int .i64 mode)] w (by kernel_rfl) ?_
 by_cases fk3 : c = 0
 ·skip
  refine J.head (.bool true) (congrArg Value.bool (beq_iff_eq.2 fk3)) ?_
  refine J.run 6 K96_5 [(9, .int .i64 10), (8, .int .i64 0)] w (by kernel_rfl) ?_
  refine J.ret Tryz.f96 [.int .i64 0, .int .i64 10] Tryz.func96 ⟨by kernel_rfl, by kernel_rfl, trivial⟩ ?_
  refine hR _ _ ?_
  have e1 : mdX a b c mode = 0 ∧ mdE a b c mode = 10 := by unfold mdX mdE; rw [if_neg (by omega), if_pos (by omega), if_neg (by omega), if_pos (by omega)]; exact ⟨rfl, rfl⟩
  exact ⟨by rw [tup_two, mdV, e1.1, e1.2], S0.nil⟩
 refine J.head (.bool false) (congrArg Value.bool (beq_eq_false_iff_ne.2 fk3)) ?_
 refine J.run 13 K96_6 [(33, .bool (!((!((decide (a < 0)) == (decide (b < 0)))) == (decide (c < 0))))), (0, .int .i64 a), (1, .int .i64 b), (2, .int .i64 c), (3, .int .i64 mode)] w (by kernel_rfl) ?_
 obtain ⟨neg, hneg⟩ : ∃ x : Bool, x = (!((!((decide (a < 0)) == (decide (b < 0)))) == (decide (c < 0)))) := ⟨_, rfl⟩
 refine J.head (.bool neg) (congrArg Value.bool hneg.symm) ?_
 have hneg2 : neg = negB a b c := hneg
 refine J.run 5 K96_7 [(35, .int .i64 a), (10, .bool neg), (1, .int .i64 b), (2, .int .i64 c), (3, .int .i64 mode)] w (by kernel_rfl) ?_
 have := mag_le a (by omega)
 refine J.callF 36 109 #[.int .i64 a] hb109 (by kernel_rfl) (mag_any a _ (by omega)) ?_
 rintro _ w1 ⟨rfl, T1⟩
 have S1 : Sep w [] w1 := S0.trans T1
 clear T1
 obtain ⟨ma, hma⟩ : ∃ x : Int, x = magF a := ⟨_, rfl⟩
 refine J.head (.int .u64 ma) (congrArg (Value.int .u64) hma.symm) ?_
 refine J.run 1 K96_8 [(37, .int .i64 b), (36, .int .u64 ma), (10, .bool neg), (2, .int .i64 c), (3, .int .i64 mode)] w1 (by kernel_rfl) ?_
 have := mag_le b (by omega)
 refine J.callF 38 109 #[.int .i64 b] hb109 (by kernel_rfl) (mag_any b _ (by omega)) ?_
 rintro _ w2 ⟨rfl, T2⟩
 have S2 : Sep w [] w2 := S1.trans T2
 clear T2 S1
 obtain ⟨mb, hmb⟩ : ∃ x : Int, x = magF b := ⟨_, rfl⟩
 refine J.head (.int .u64 mb) (congrArg (Value.int .u64) hmb.symm) ?_
 have hPb0 : 0 ≤ magF a * magF b := Int.mul_nonneg (by unfold magF; omega) (by unfold magF; omega)
 have hPb : 0 ≤ magF a * magF b ∧ magF a * magF b = ma * mb := ⟨hPb0, by rw [hma, hmb]⟩
 refine J.callF 39 108 #[.int .u64 ma, .int .u64 mb] hb108 (by kernel_rfl) (mul64_any ma mb _ (by omega) (by omega)) ?_
 rintro _ w3 ⟨rfl, T3⟩
 have S3 : Sep w [] w3 := S2.trans T3
 clear T3 S2
 refine J.run 2 K96_9 [(40, .int .u64 (ma * mb / 18446744073709551616)), (34, .tuple #[.int .u64 (ma * mb / 18446744073709551616), .int .u64 (ma * mb % 18446744073709551616)]), (10, .bool neg), (2, .int .i64 c), (3, .int .i64 mode)] w3 (by kernel_rfl) ?_
 obtain ⟨hi, hhi⟩ : ∃ x : Int, x = ma * mb / 18446744073709551616 := ⟨_, rfl⟩
 refine J.head (.int .u64 hi) (congrArg (Value.int .u64) hhi.symm) ?_
 refine J.run 1 K96_10 [(41, .int .u64 (ma * mb % 18446744073709551616)), (40, .int .u64 hi), (10, .bool neg), (2, .int .i64 c), (3, .int .i64 mode)] w3 (by kernel_rfl) ?_
 obtain ⟨lo, hlo⟩ : ∃ x : Int, x = ma * mb % 18446744073709551616 := ⟨_, rfl⟩
 refine J.head (.int .u64 lo) (congrArg (Value.int .u64) hlo.symm) ?_
 refine J.run 6 K96_11 [(42, .int .i64 c), (12, .int .u64 lo), (11, .int .u64 hi), (10, .bool neg), (3, .int .i64 mode)] w3 (by kernel_rfl) ?_
 have := mag_le c (by omega)
 refine J.callF 43 109 #[.int .i64 c] hb109 (by kernel_rfl) (mag_any c _ (by omega)) ?_
 rintro _ w4 ⟨rfl, T4⟩
 have S4 : Sep w [] w4 := S3.trans T4
 clear T4 S3
 obtain ⟨d, hd⟩ : ∃ x : Int, x = magF c := ⟨_, rfl⟩
 refine J.head (.int .u64 d) (congrArg (Value.int .u64) hd.symm) ?_
 refine J.run 9 K96_12 [(46, .bool (decide (hi ≥ d))), (13, .int .u64 d), (12, .int .u64 lo), (11, .int .u64 hi), (10, .bool neg), (3, .int .i64 mode)] w4 (by kernel_rfl) ?_
 by_cases fk4 : hi ≥ d
 ·skip
  refine J.head (.bool true) (congrArg Value.bool (decide_eq_true fk4)) ?_
  refine J.run 6 K96_13 [(9, .int .i64 9), (8, .int .i64 0)] w4 (by kernel_rfl) ?_
  refine J.ret Tryz.f96 [.int .i64 0, .int .i64 9] Tryz.func96 ⟨by kernel_rfl, by kernel_rfl, trivial⟩ ?_
  refine hR _ _ ?_
  have hc0 : c ≠ 0 := by omega
  have e1 := md_big (a := a) (b := b) (mode := mode) (by omega) hc0 hPb0 (by omega)
  exact ⟨by rw [tup_two, mdV, e1.1, e1.2], S4.nil⟩
 refine J.head (.bool false) (congrArg Value.bool (decide_eq_false fk4)) ?_
 refine J.run 7 K96_14 [(50, .int .u64 d), (49, .int .u64 lo), (48, .int .u64 hi), (13, .int .u64 d), (10, .bool neg), (3, .int .i64 mode)] w4 (by kernel_rfl) ?_
 refine J.callF 51 110 #[.int .u64 hi, .int .u64 lo, .int .u64 d] hb110 (by kernel_rfl) (div64_any hi lo d _ (by omega) (by omega) (by omega) (by omega)) ?_
 rintro _ w5 ⟨rfl, T5⟩
 have S5 : Sep w [] w5 := S4.trans T5
 clear T5 S4
 refine J.run 2 K96_15 [(52, .int .u64 ((hi * 18446744073709551616 + lo) / d)), (47, .tuple #[.int .u64 ((hi * 18446744073709551616 + lo) / d), .int .u64 ((hi * 18446744073709551616 + lo) % d)]), (13, .int .u64 d), (10, .bool neg), (3, .int .i64 mode)] w5 (by kernel_rfl) ?_
 obtain ⟨q, hq⟩ : ∃ x : Int, x = (hi * 18446744073709551616 + lo) / d := ⟨_, rfl⟩
 refine J.head (.int .u64 q) (congrArg (Value.int .u64) hq.symm) ?_
 refine J.run 1 K96_16 [(53, .int .u64 ((hi * 18446744073709551616 + lo) % d)), (52, .int .u64 q), (13, .int .u64 d), (10, .bool neg), (3, .int .i64 mode)] w5 (by kernel_rfl) ?_
 obtain ⟨r, hr⟩ : ∃ x : Int, x = (hi * 18446744073709551616 + lo) % d := ⟨_, rfl⟩
 refine J.head (.int .u64 r) (congrArg (Value.int .u64) hr.symm) ?_
 obtain ⟨hq1, hq2, hq3, hq4⟩ := qr_facts hq hr (by omega) (by omega)
 refine J.run 9 K96_17 [(55, .bool (decide (q > 9223372036854775808))), (15, .int .u64 r), (14, .int .u64 q), (13, .int .u64 d), (10, .bool neg), (3, .int .i64 mode)] w5 (by kernel_rfl) ?_
 by_cases fk5 : q > 9223372036854775808
 ·skip
  refine J.head (.bool true) (congrArg Value.bool (decide_eq_true fk5)) ?_
  refine J.run 6 K96_18 [(9, .int .i64 9), (8, .int .i64 0)] w5 (by kernel_rfl) ?_
  refine J.ret Tryz.f96 [.int .i64 0, .int .i64 9] Tryz.func96 ⟨by kernel_rfl, by kernel_rfl, trivial⟩ ?_
  refine hR _ _ ?_
  have hc0 : c ≠ 0 := by omega
  subst hd
  have e0 := md_core (a := a) (b := b) (c := c) (mode := mode) (q := q) (r := r) hc0 (by omega) (by omega) (by omega) (by omega)
  rw [← hneg2] at e0
  have e1 := md_unfit (by omega) hc0 e0 (by (repeat' split) <;> omega)
  exact ⟨by rw [tup_two, mdV, e1.1, e1.2], S5.nil⟩
 refine J.head (.bool false) (congrArg Value.bool (decide_eq_false fk5)) ?_
 refine J.run 9 K96_19 [(59, .int .i64 mode), (58, .bool neg), (57, .int .u64 d), (56, .int .u64 r), (14, .int .u64 q), (10, .bool neg)] w5 (by kernel_rfl) ?_
 refine J.callF 60 111 #[.int .u64 r, .int .u64 d, .bool neg, .int .i64 mode] hb111 (by kernel_rfl) (rounded_any r d neg mode _ (by omega)) ?_
 rintro _ w6 ⟨rfl, T6⟩
 have S6 : Sep w [] w6 := S5.trans T6
 clear T6 S5
 refine J.run 1 K96_20 [(60, .bool (rndB r d neg mode)), (14, .int .u64 q), (10, .bool neg)] w6 (by kernel_rfl) ?_
 rcases Bool.eq_false_or_eq_true (rndB r d neg mode) with fk6 | fk6
 rotate_left
 ·skip
  refine J.head (.bool false) (congrArg Value.bool fk6) ?_
  refine J.run 8 K96_33 [(65, .bool neg), (14, .int .u64 q), (10, .bool neg)] w6 (by kernel_rfl) ?_
  rcases Bool.eq_false_or_eq_true neg with fk12 | fk12
  rotate_left
  ·skip
   refine J.head (.bool false) (congrArg Value.bool fk12) ?_
   refine J.run 11 K96_39 [(77, .bool (!neg)), (14, .int .u64 q)] w6 (by kernel_rfl) ?_
   refine J.head (.bool true) (congrArg Value.bool (by rw [fk12]; rfl)) ?_
   refine J.run 5 K96_40 [(74, .bool (decide (q < 9223372036854775808))), (14, .int .u64 q)] w6 (by kernel_rfl) ?_
   by_cases fk16 : q < 9223372036854775808
   rotate_left
   ·skip
    refine J.head (.bool false) (congrArg Value.bool (decide_eq_false fk16)) ?_
    refine J.run 8 K96_43 [(9, .int .i64 9), (8, .int .i64 0)] w6 (by kernel_rfl) ?_
    refine J.ret Tryz.f96 [.int .i64 0, .int .i64 9] Tryz.func96 ⟨by kernel_rfl, by kernel_rfl, trivial⟩ ?_
    refine hR _ _ ?_
    have hc0 : c ≠ 0 := by omega
    subst hd
    have e0 := md_core (a := a) (b := b) (c := c) (mode := mode) (q := q) (r := r) hc0 (by omega) (by omega) (by omega) (by omega)
    rw [← hneg2] at e0
    simp only [fk6, if_true, if_false, Bool.false_eq_true] at e0
    simp only [fk12, if_true, if_false, Bool.false_eq_true] at e0
    have e1 := md_unfit (by omega) hc0 e0 (by (repeat' split) <;> omega)
    exact ⟨by rw [tup_two, mdV, e1.1, e1.2], S6.nil⟩
   refine J.head (.bool true) (congrArg Value.bool (decide_eq_true fk16)) ?_
   refine J.run 5 K96_41 [(82, .int .i64 (IntKind.wrap .i64 q))] w6 (by kernel_rfl) ?_
   refine J.head (.int .i64 q) (congrArg (Value.int .i64) (IntWalk.i64_in _ (by omega))) ?_
   refine J.run 3 K96_42 [(9, .int .i64 0), (8, .int .i64 q)] w6 (by kernel_rfl) ?_
   refine J.ret Tryz.f96 [.int .i64 q, .int .i64 0] Tryz.func96 ⟨by kernel_rfl, by kernel_rfl, trivial⟩ ?_
   refine hR _ _ ?_
   have hc0 : c ≠ 0 := by omega
   subst hd
   have e0 := md_core (a := a) (b := b) (c := c) (mode := mode) (q := q) (r := r) hc0 (by omega) (by omega) (by omega) (by omega)
   rw [← hneg2] at e0
   simp only [fk6, if_true, if_false, Bool.false_eq_true] at e0
   simp only [fk12, if_true, if_false, Bool.false_eq_true] at e0
   have e1 := md_fit (by omega) hc0 e0 (by omega)
   have e2 : mdX a b c mode = q := e1.1.trans (by omega)
   exact ⟨by rw [tup_two, mdV, e2, e1.2], S6.nil⟩
  refine J.head (.bool true) (congrArg Value.bool fk12) ?_
  refine J.run 5 K96_34 [(63, .bool (decide (q ≤ 9223372036854775808))), (14, .int .u64 q), (10, .bool neg)] w6 (by kernel_rfl) ?_
  by_cases fk13 : q ≤ 9223372036854775808
  rotate_left
  ·skip
   refine J.head (.bool false) (congrArg Value.bool (decide_eq_false fk13)) ?_
   refine J.run 6 K96_37 [(77, .bool (!neg)), (14, .int .u64 q)] w6 (by kernel_rfl) ?_
   refine J.head (.bool false) (congrArg Value.bool (by rw [fk12]; rfl)) ?_
   refine J.run 13 K96_38 [(9, .int .i64 9), (8, .int .i64 0)] w6 (by kernel_rfl) ?_
   refine J.ret Tryz.f96 [.int .i64 0, .int .i64 9] Tryz.func96 ⟨by kernel_rfl, by kernel_rfl, trivial⟩ ?_
   refine hR _ _ ?_
   have hc0 : c ≠ 0 := by omega
   subst hd
   have e0 := md_core (a := a) (b := b) (c := c) (mode := mode) (q := q) (r := r) hc0 (by omega) (by omega) (by omega) (by omega)
   rw [← hneg2] at e0
   simp only [fk6, if_true, if_false, Bool.false_eq_true] at e0
   simp only [fk12, if_true, if_false, Bool.false_eq_true] at e0
   have e1 := md_unfit (by omega) hc0 e0 (by (repeat' split) <;> omega)
   exact ⟨by rw [tup_two, mdV, e1.1, e1.2], S6.nil⟩
  refine J.head (.bool true) (congrArg Value.bool (decide_eq_true fk13)) ?_
  refine J.run 8 K96_35 [(73, .int .i64 (IntKind.wrap .i64 ((IntKind.wrap .i64 (0 - (IntKind.wrap .i64 (IntKind.wrap .u64 (q - 1))))) - 1)))] w6 (by kernel_rfl) ?_
  refine J.head (.int .i64 (-q)) (congrArg (Value.int .i64) (neg_wrap (by omega))) ?_
  refine J.run 3 K96_36 [(9, .int .i64 0), (8, .int .i64 (-q))] w6 (by kernel_rfl) ?_
  refine J.ret Tryz.f96 [.int .i64 (-q), .int .i64 0] Tryz.func96 ⟨by kernel_rfl, by kernel_rfl, trivial⟩ ?_
  refine hR _ _ ?_
  have hc0 : c ≠ 0 := by omega
  subst hd
  have e0 := md_core (a := a) (b := b) (c := c) (mode := mode) (q := q) (r := r) hc0 (by omega) (by omega) (by omega) (by omega)
  rw [← hneg2] at e0
  simp only [fk6, if_true, if_false, Bool.false_eq_true] at e0
  simp only [fk12, if_true, if_false, Bool.false_eq_true] at e0
  have e1 := md_fit (by omega) hc0 e0 (by omega)
  have e2 : mdX a b c mode = -q := e1.1.trans (by omega)
  exact ⟨by rw [tup_two, mdV, e2, e1.2], S6.nil⟩
 refine J.head (.bool true) (congrArg Value.bool fk6) ?_
 refine J.run 4 K96_21 [(62, .int .u64 (IntKind.wrap .u64 (q + 1))), (10, .bool neg)] w6 (by kernel_rfl) ?_
 refine J.head (.int .u64 (q + 1)) (congrArg (Value.int .u64) (IntWalk.u64_in _ (by omega))) ?_
 refine J.run 8 K96_22 [(65, .bool neg), (14, .int .u64 (q + 1)), (10, .bool neg)] w6 (by kernel_rfl) ?_
 rcases Bool.eq_false_or_eq_true neg with fk7 | fk7
 rotate_left
 ·skip
  refine J.head (.bool false) (congrArg Value.bool fk7) ?_
  refine J.run 11 K96_28 [(77, .bool (!neg)), (14, .int .u64 (q + 1))] w6 (by kernel_rfl) ?_
  refine J.head (.bool true) (congrArg Value.bool (by rw [fk7]; rfl)) ?_
  refine J.run 5 K96_29 [(74, .bool (decide ((q + 1) < 9223372036854775808))), (14, .int .u64 (q + 1))] w6 (by kernel_rfl) ?_
  by_cases fk11 : (q + 1) < 9223372036854775808
  rotate_left
  ·skip
   refine J.head (.bool false) (congrArg Value.bool (decide_eq_false fk11)) ?_
   refine J.run 8 K96_32 [(9, .int .i64 9), (8, .int .i64 0)] w6 (by kernel_rfl) ?_
   refine J.ret Tryz.f96 [.int .i64 0, .int .i64 9] Tryz.func96 ⟨by kernel_rfl, by kernel_rfl, trivial⟩ ?_
   refine hR _ _ ?_
   have hc0 : c ≠ 0 := by omega
   subst hd
   have e0 := md_core (a := a) (b := b) (c := c) (mode := mode) (q := q) (r := r) hc0 (by omega) (by omega) (by omega) (by omega)
   rw [← hneg2] at e0
   simp only [fk6, if_true, if_false, Bool.false_eq_true] at e0
   simp only [fk7, if_true, if_false, Bool.false_eq_true] at e0
   have e1 := md_unfit (by omega) hc0 e0 (by (repeat' split) <;> omega)
   exact ⟨by rw [tup_two, mdV, e1.1, e1.2], S6.nil⟩
  refine J.head (.bool true) (congrArg Value.bool (decide_eq_true fk11)) ?_
  refine J.run 5 K96_30 [(82, .int .i64 (IntKind.wrap .i64 (q + 1)))] w6 (by kernel_rfl) ?_
  refine J.head (.int .i64 (q + 1)) (congrArg (Value.int .i64) (IntWalk.i64_in _ (by omega))) ?_
  refine J.run 3 K96_31 [(9, .int .i64 0), (8, .int .i64 (q + 1))] w6 (by kernel_rfl) ?_
  refine J.ret Tryz.f96 [.int .i64 (q + 1), .int .i64 0] Tryz.func96 ⟨by kernel_rfl, by kernel_rfl, trivial⟩ ?_
  refine hR _ _ ?_
  have hc0 : c ≠ 0 := by omega
  subst hd
  have e0 := md_core (a := a) (b := b) (c := c) (mode := mode) (q := q) (r := r) hc0 (by omega) (by omega) (by omega) (by omega)
  rw [← hneg2] at e0
  simp only [fk6, if_true, if_false, Bool.false_eq_true] at e0
  simp only [fk7, if_true, if_false, Bool.false_eq_true] at e0
  have e1 := md_fit (by omega) hc0 e0 (by omega)
  have e2 : mdX a b c mode = q + 1 := e1.1.trans (by omega)
  exact ⟨by rw [tup_two, mdV, e2, e1.2], S6.nil⟩
 refine J.head (.bool true) (congrArg Value.bool fk7) ?_
 refine J.run 5 K96_23 [(63, .bool (decide ((q + 1) ≤ 9223372036854775808))), (14, .int .u64 (q + 1)), (10, .bool neg)] w6 (by kernel_rfl) ?_
 by_cases fk8 : (q + 1) ≤ 9223372036854775808
 rotate_left
 ·skip
  refine J.head (.bool false) (congrArg Value.bool (decide_eq_false fk8)) ?_
  refine J.run 6 K96_26 [(77, .bool (!neg)), (14, .int .u64 (q + 1))] w6 (by kernel_rfl) ?_
  refine J.head (.bool false) (congrArg Value.bool (by rw [fk7]; rfl)) ?_
  refine J.run 13 K96_27 [(9, .int .i64 9), (8, .int .i64 0)] w6 (by kernel_rfl) ?_
  refine J.ret Tryz.f96 [.int .i64 0, .int .i64 9] Tryz.func96 ⟨by kernel_rfl, by kernel_rfl, trivial⟩ ?_
  refine hR _ _ ?_
  have hc0 : c ≠ 0 := by omega
  subst hd
  have e0 := md_core (a := a) (b := b) (c := c) (mode := mode) (q := q) (r := r) hc0 (by omega) (by omega) (by omega) (by omega)
  rw [← hneg2] at e0
  simp only [fk6, if_true, if_false, Bool.false_eq_true] at e0
  simp only [fk7, if_true, if_false, Bool.false_eq_true] at e0
  have e1 := md_unfit (by omega) hc0 e0 (by (repeat' split) <;> omega)
  exact ⟨by rw [tup_two, mdV, e1.1, e1.2], S6.nil⟩
 refine J.head (.bool true) (congrArg Value.bool (decide_eq_true fk8)) ?_
 refine J.run 8 K96_24 [(73, .int .i64 (IntKind.wrap .i64 ((IntKind.wrap .i64 (0 - (IntKind.wrap .i64 (IntKind.wrap .u64 ((q + 1) - 1))))) - 1)))] w6 (by kernel_rfl) ?_
 refine J.head (.int .i64 (-(q + 1))) (congrArg (Value.int .i64) (neg_wrap (by omega))) ?_
 refine J.run 3 K96_25 [(9, .int .i64 0), (8, .int .i64 (-(q + 1)))] w6 (by kernel_rfl) ?_
 refine J.ret Tryz.f96 [.int .i64 (-(q + 1)), .int .i64 0] Tryz.func96 ⟨by kernel_rfl, by kernel_rfl, trivial⟩ ?_
 refine hR _ _ ?_
 have hc0 : c ≠ 0 := by omega
 subst hd
 have e0 := md_core (a := a) (b := b) (c := c) (mode := mode) (q := q) (r := r) hc0 (by omega) (by omega) (by omega) (by omega)
 rw [← hneg2] at e0
 simp only [fk6, if_true, if_false, Bool.false_eq_true] at e0
 simp only [fk7, if_true, if_false, Bool.false_eq_true] at e0
 have e1 := md_fit (by omega) hc0 e0 (by omega)
 have e2 : mdX a b c mode = -(q + 1) := e1.1.trans (by omega)
 exact ⟨by rw [tup_two, mdV, e2, e1.2], S6.nil⟩

end
end Go.Proofs.YtadgnficogeheaaGreatDoor

