/- Walks of functions of this seat, printed by a program over the engine. Conditions: as each theorem says. -/
import Derived.Test.YtaoolgcddapegaaGreatDoorZsA1
namespace Go.Proofs.YtaoolgcddapegaaGreatDoor
open Go.Eng Go.RowKit
set_option linter.unusedSimpArgs false
set_option linter.unusedVariables false
set_option maxRecDepth 20000
set_option maxHeartbeats 20000000
/-- a quotient by a positive number, rounded down, up, or to the nearest -/
def rndQ (p d mode : Int) : Int := if mode = 1 then p / d else if mode = 2 then -((-p) / d) else (2 * p + d) / (2 * d)
def mulDivR (a b c mode : Int) : Int := if c < 0 then rndQ (-(a * b)) (-c) mode else rndQ (a * b) c mode
def fitsB (x : Int) : Bool := decide (-9223372036854775808 ≤ x) && decide (x ≤ 9223372036854775807)
def mdX (a b c mode : Int) : Int := if mode < 1 ∨ 3 < mode then 0 else if c = 0 then 0 else if fitsB (mulDivR a b c mode) then mulDivR a b c mode else 0
def mdE (a b c mode : Int) : Int := if mode < 1 ∨ 3 < mode then 1 else if c = 0 then 10 else if fitsB (mulDivR a b c mode) then 0 else 9
theorem mdX_bounds (a b c mode : Int) : -9223372036854775808 ≤ mdX a b c mode ∧ mdX a b c mode ≤ 9223372036854775807 := by
  unfold mdX
  split; · omega
  split; · omega
  split
  · rename_i h; simp [fitsB] at h; exact h
  · omega
def mdV (a b c mode : Int) : Value := .tuple #[.int .i64 (mdX a b c mode), .int .i64 (mdE a b c mode)]
theorem rndQ_pos {p d q r mode : Int} (h : p = q * d + r) (h0 : 0 ≤ r) (h1 : r < d) (hm : 1 ≤ mode ∧ mode ≤ 3) : rndQ p d mode = q + (if rndB r d false mode then 1 else 0) := by
  subst h
  have e1 : (q + 1) * d = q * d + d := by grind
  rcases (show mode = 1 ∨ mode = 2 ∨ mode = 3 by omega) with rfl | rfl | rfl
  · have := ediv_of (x := q * d + r) (d := d) (k := q) (by omega) (by omega) (by omega)
    simp [rndQ, rndB, this]
  · simp only [rndQ, rndB]
    by_cases hr : 0 < r
    · have e2 : (-q - 1) * d = -(q * d) - d := by grind
      have := ediv_of (x := -(q * d + r)) (d := d) (k := -q - 1) (by omega) (by omega) (by omega)
      simp [this, hr]; omega
    · have e2 : (-q) * d = -(q * d) := by grind
      have := ediv_of (x := -(q * d + r)) (d := d) (k := -q) (by omega) (by omega) (by omega)
      simp [this, hr]
  · simp only [rndQ, rndB]
    have e3 : q * (2 * d) = 2 * (q * d) := by grind
    have e4 : (q + 1) * (2 * d) = 2 * (q * d) + 2 * d := by grind
    by_cases hr : d - r ≤ r
    · have := ediv_of (x := 2 * (q * d + r) + d) (d := 2 * d) (k := q + 1) (by omega) (by omega) (by omega)
      simp [this, hr]
    · have := ediv_of (x := 2 * (q * d + r) + d) (d := 2 * d) (k := q) (by omega) (by omega) (by omega)
      simp [this, hr]
theorem rndQ_neg {p d q r mode : Int} (h : p = -(q * d + r)) (h0 : 0 ≤ r) (h1 : r < d) (hm : 1 ≤ mode ∧ mode ≤ 3) : rndQ p d mode = -(q + (if rndB r d true mode then 1 else 0)) := by
  subst h
  rcases (show mode = 1 ∨ mode = 2 ∨ mode = 3 by omega) with rfl | rfl | rfl
  · simp only [rndQ, rndB]
    by_cases hr : 0 < r
    · have e2 : (-q - 1) * d = -(q * d) - d := by grind
      have := ediv_of (x := -(q * d + r)) (d := d) (k := -q - 1) (by omega) (by omega) (by omega)
      simp [this, hr]; omega
    · have e2 : (-q) * d = -(q * d) := by grind
      have := ediv_of (x := -(q * d + r)) (d := d) (k := -q) (by omega) (by omega) (by omega)
      simp [this, hr]
  · have := ediv_of (x := q * d + r) (d := d) (k := q) (by omega) (by omega) (by omega)
    simp [rndQ, rndB, this]
  · simp only [rndQ, rndB]
    have e3 : (-q) * (2 * d) = -(2 * (q * d)) := by grind
    have e4 : (-q - 1) * (2 * d) = -(2 * (q * d)) - 2 * d := by grind
    by_cases hr : d - r < r
    · have := ediv_of (x := 2 * -(q * d + r) + d) (d := 2 * d) (k := -q - 1) (by omega) (by omega) (by omega)
      simp [this, hr]; omega
    · have := ediv_of (x := 2 * -(q * d + r) + d) (d := 2 * d) (k := -q) (by omega) (by omega) (by omega)
      simp [this, hr]
theorem qr_facts {q r x d : Int} (hq : q = x / d) (hr : r = x % d) (hd : 1 ≤ d) (hx : 0 ≤ x) : x = q * d + r ∧ 0 ≤ r ∧ r < d ∧ 0 ≤ q := by
  have h1 := Int.mul_ediv_add_emod x d
  have h2 := Int.emod_nonneg x (show d ≠ 0 by omega)
  have h3 := Int.emod_lt_of_pos x (show 0 < d by omega)
  have h4 := Int.ediv_nonneg hx (show 0 ≤ d by omega)
  rw [← hq, ← hr, Int.mul_comm] at h1
  omega
def negB (a b c : Int) : Bool := (decide (a < 0) != decide (b < 0)) != decide (c < 0)
theorem mag_cases (n : Int) : magF n = if n < 0 then -n else n := by unfold magF; split <;> omega
theorem sign_mul (a b c : Int) : (if c < 0 then -(a * b) else a * b) = if negB a b c then -(magF a * magF b) else magF a * magF b := by
  rw [mag_cases a, mag_cases b]
  unfold negB
  by_cases ha : a < 0 <;> by_cases hb : b < 0 <;> by_cases hc : c < 0 <;> simp [ha, hb, hc] <;> grind
/-- the quotient by the absolute values -/
theorem md_core {a b c mode q r : Int} (hc : c ≠ 0) (hm : 1 ≤ mode ∧ mode ≤ 3) (h : magF a * magF b = q * magF c + r) (h0 : 0 ≤ r) (h1 : r < magF c) :
    mulDivR a b c mode = if negB a b c then -(q + (if rndB r (magF c) (negB a b c) mode then 1 else 0)) else q + (if rndB r (magF c) (negB a b c) mode then 1 else 0) := by
  have hs := sign_mul a b c
  have e : mulDivR a b c mode = rndQ (if c < 0 then -(a * b) else a * b) (magF c) mode := by
    unfold mulDivR; rw [mag_cases c]; split <;> rfl
  rw [e, hs]
  cases hn : negB a b c with
  | true => simp only [if_true]; exact rndQ_neg (by rw [h]) h0 h1 hm
  | false => simp only [Bool.false_eq_true, if_false]; exact rndQ_pos h h0 h1 hm
theorem md_fit {a b c mode x : Int} (hm : 1 ≤ mode ∧ mode ≤ 3) (hc : c ≠ 0) (h : mulDivR a b c mode = x) (hx : -9223372036854775808 ≤ x ∧ x ≤ 9223372036854775807) : mdX a b c mode = x ∧ mdE a b c mode = 0 := by
  have hm2 : ¬ (mode < 1 ∨ 3 < mode) := by omega
  have hf : fitsB x = true := by simp [fitsB]; omega
  unfold mdX mdE
  simp [hm2, hc, h, hf]
theorem md_unfit {a b c mode x : Int} (hm : 1 ≤ mode ∧ mode ≤ 3) (hc : c ≠ 0) (h : mulDivR a b c mode = x) (hx : x < -9223372036854775808 ∨ 9223372036854775807 < x) : mdX a b c mode = 0 ∧ mdE a b c mode = 9 := by
  have hm2 : ¬ (mode < 1 ∨ 3 < mode) := by omega
  have hf : fitsB x = false := by simp [fitsB]; omega
  unfold mdX mdE
  simp [hm2, hc, h, hf]
theorem md_big {a b c mode : Int} (hm : 1 ≤ mode ∧ mode ≤ 3) (hc : c ≠ 0) (hP : 0 ≤ magF a * magF b) (h : magF c ≤ magF a * magF b / 18446744073709551616) : mdX a b c mode = 0 ∧ mdE a b c mode = 9 := by
  have hd : 1 ≤ magF c := by unfold magF; omega
  obtain ⟨h1, h2, h3, h4⟩ := quo_facts (q := magF a * magF b / magF c) rfl hP hd
  have hq : 18446744073709551616 ≤ magF a * magF b / magF c := (Int.le_ediv_iff_mul_le (by omega)).2 (by omega)
  refine md_unfit hm hc (md_core (q := magF a * magF b / magF c) (r := magF a * magF b - magF a * magF b / magF c * magF c) hc hm (by omega) (by omega) (by omega)) ?_
  split <;> split <;> omega
theorem neg_wrap {q : Int} (h : 0 ≤ q ∧ q ≤ 9223372036854775808) : IntKind.wrap .i64 (IntKind.wrap .i64 (0 - IntKind.wrap .i64 (IntKind.wrap .u64 (q - 1))) - 1) = -q := by
  rw [wrap_u64]
  by_cases h0 : q = 0
  · subst h0; decide
  · have a1 := IntWalk.i64_in (q - 1) (by omega)
    have a2 := IntWalk.i64_in (0 - (q - 1)) (by omega)
    have a3 := IntWalk.i64_in (0 - (q - 1) - 1) (by omega)
    rw [show (q - 1) % 18446744073709551616 = q - 1 by omega, a1, a2, a3]; omega
theorem hb216 : HasBody Tryz.prog 216 := fun _ _ => by kernel_rfl

theorem muldiv_any (a b c mode : Int) (w : World) (ha : (-9223372036854775808) ≤ a ∧ a ≤ 9223372036854775807) (hb : (-9223372036854775808) ≤ b ∧ b ≤ 9223372036854775807) (hc : (-9223372036854775808) ≤ c ∧ c ≤ 9223372036854775807) : Ret Tryz.prog 216 #[.int .i64 a, .int .i64 b, .int .i64 c, .int .i64 mode] w (fun v w' => v = mdV a b c mode ∧ Sep w [] w') := by
 refine Ret.st (N := 83) Tryz.func216 fun R hR S0 => ?_
 refine J.c 12 [] [] [] 19 (mode < 1) (fun fk1 => ?_) fun fk1 => ?_
 ·skip
  refine J.e 11 [.int .i64 0, .int .i64 1] Tryz.func216 (hR _ _ ?_)
  have e1 : mdX a b c mode = 0 ∧ mdE a b c mode = 1 := by unfold mdX mdE; rw [if_pos (by omega), if_pos (by omega)]; exact ⟨rfl, rfl⟩
  exact ⟨by rw [tup_two, mdV, e1.1, e1.2], S0.nil⟩
 refine J.c 5 [] [] [] 16 (mode > 3) (fun fk2 => ?_) fun fk2 => ?_
 ·skip
  refine J.e 6 [.int .i64 0, .int .i64 1] Tryz.func216 (hR _ _ ?_)
  have e1 : mdX a b c mode = 0 ∧ mdE a b c mode = 1 := by unfold mdX mdE; rw [if_pos (by omega), if_pos (by omega)]; exact ⟨rfl, rfl⟩
  exact ⟨by rw [tup_two, mdV, e1.1, e1.2], S0.nil⟩
 refine J.c 7 [false] [] [] 23 (c = 0) (fun fk3 => ?_) fun fk3 => ?_
 ·skip
  refine J.e 6 [.int .i64 0, .int .i64 10] Tryz.func216 (hR _ _ ?_)
  have e1 : mdX a b c mode = 0 ∧ mdE a b c mode = 10 := by unfold mdX mdE; rw [if_neg (by omega), if_pos (by omega), if_neg (by omega), if_pos (by omega)]; exact ⟨rfl, rfl⟩
  exact ⟨by rw [tup_two, mdV, e1.1, e1.2], S0.nil⟩
 refine J.r 13 [false] [(33, .bool (!((!((decide (a < 0)) == (decide (b < 0)))) == (decide (c < 0)))))] [] ?_
 obtain ⟨neg, hneg⟩ : ∃ x : Bool, x = (!((!((decide (a < 0)) == (decide (b < 0)))) == (decide (c < 0)))) := ⟨_, rfl⟩
 refine J.head (.bool neg) (congrArg Value.bool hneg.symm) ?_
 have hneg2 : neg = negB a b c := hneg
 have := mag_le a (by omega)
 refine J.c0 5 [] [(10, .bool neg)] [] S0 36 hb223 (mag_any a _ (by omega)) fun w1 S1 => ?_
 obtain ⟨ma, hma⟩ : ∃ x : Int, x = magF a := ⟨_, rfl⟩
 refine J.head (.int .u64 ma) (congrArg (Value.int .u64) hma.symm) ?_
 have := mag_le b (by omega)
 refine J.c0 1 [] [] [] S1 38 hb223 (mag_any b _ (by omega)) fun w2 S2 => ?_
 obtain ⟨mb, hmb⟩ : ∃ x : Int, x = magF b := ⟨_, rfl⟩
 refine J.head (.int .u64 mb) (congrArg (Value.int .u64) hmb.symm) ?_
 have hPb0 : 0 ≤ magF a * magF b := Int.mul_nonneg (by unfold magF; omega) (by unfold magF; omega)
 have hPb : 0 ≤ magF a * magF b ∧ magF a * magF b = ma * mb := ⟨hPb0, by rw [hma, hmb]⟩
 refine J.c0 0 [] [] [] S2 39 hb199 (mul64_any ma mb _ (by omega) (by omega)) fun w3 S3 => ?_
 refine J.r 2 [] [(40, .int .u64 (ma * mb / 18446744073709551616)), (34, .tuple #[.int .u64 (ma * mb / 18446744073709551616), .int .u64 (ma * mb % 18446744073709551616)])] [] ?_
 obtain ⟨hi, hhi⟩ : ∃ x : Int, x = ma * mb / 18446744073709551616 := ⟨_, rfl⟩
 refine J.head (.int .u64 hi) (congrArg (Value.int .u64) hhi.symm) ?_
 refine J.r 1 [] [(41, .int .u64 (ma * mb % 18446744073709551616))] [] ?_
 obtain ⟨lo, hlo⟩ : ∃ x : Int, x = ma * mb % 18446744073709551616 := ⟨_, rfl⟩
 refine J.head (.int .u64 lo) (congrArg (Value.int .u64) hlo.symm) ?_
 have := mag_le c (by omega)
 refine J.c0 6 [] [(12, .int .u64 lo), (11, .int .u64 hi)] [] S3 43 hb223 (mag_any c _ (by omega)) fun w4 S4 => ?_
 obtain ⟨d, hd⟩ : ∃ x : Int, x = magF c := ⟨_, rfl⟩
 refine J.head (.int .u64 d) (congrArg (Value.int .u64) hd.symm) ?_
 refine J.c 9 [] [(13, .int .u64 d)] [] 46 (hi ≥ d) (fun fk4 => ?_) fun fk4 => ?_
 ·skip
  refine J.e 6 [.int .i64 0, .int .i64 9] Tryz.func216 (hR _ _ ?_)
  have hc0 : c ≠ 0 := by omega
  have e1 := md_big (a := a) (b := b) (mode := mode) (by omega) hc0 hPb0 (by omega)
  exact ⟨by rw [tup_two, mdV, e1.1, e1.2], S4.nil⟩
 refine J.c0 7 [false] [] [] S4 51 hb224 (div64_any hi lo d _ (by omega) (by omega) (by omega) (by omega)) fun w5 S5 => ?_
 refine J.r 2 [] [(52, .int .u64 ((hi * 18446744073709551616 + lo) / d)), (47, .tuple #[.int .u64 ((hi * 18446744073709551616 + lo) / d), .int .u64 ((hi * 18446744073709551616 + lo) % d)])] [] ?_
 obtain ⟨q, hq⟩ : ∃ x : Int, x = (hi * 18446744073709551616 + lo) / d := ⟨_, rfl⟩
 refine J.head (.int .u64 q) (congrArg (Value.int .u64) hq.symm) ?_
 refine J.r 1 [] [(53, .int .u64 ((hi * 18446744073709551616 + lo) % d))] [] ?_
 obtain ⟨r, hr⟩ : ∃ x : Int, x = (hi * 18446744073709551616 + lo) % d := ⟨_, rfl⟩
 refine J.head (.int .u64 r) (congrArg (Value.int .u64) hr.symm) ?_
 obtain ⟨hq1, hq2, hq3, hq4⟩ := qr_facts hq hr (by omega) (by omega)
 refine J.c 9 [] [(15, .int .u64 r), (14, .int .u64 q)] [] 55 (q > 9223372036854775808) (fun fk5 => ?_) fun fk5 => ?_
 ·skip
  refine J.e 6 [.int .i64 0, .int .i64 9] Tryz.func216 (hR _ _ ?_)
  have hc0 : c ≠ 0 := by omega
  subst hd
  have e0 := md_core (a := a) (b := b) (c := c) (mode := mode) (q := q) (r := r) hc0 (by omega) (by omega) (by omega) (by omega)
  rw [← hneg2] at e0
  have e1 := md_unfit (by omega) hc0 e0 (by (repeat' split) <;> omega)
  exact ⟨by rw [tup_two, mdV, e1.1, e1.2], S5.nil⟩
 refine J.c0 9 [false] [] [] S5 60 hb225 (rounded_any r d neg mode _ (by omega)) fun w6 S6 => ?_
 refine J.b 1 [] [] [] 60 (rndB r d neg mode) (fun fk6 => ?_) fun fk6 => ?_
 ·skip
  refine J.h 4 [true] [] [] 62 (.int .u64 (IntKind.wrap .u64 (q + 1))) (.int .u64 (q + 1)) (congrArg (Value.int .u64) (IntWalk.u64_in _ (by omega))) ?_
  refine J.b 8 [] [(14, .int .u64 (q + 1))] [] 65 neg (fun fk7 => ?_) fun fk7 => ?_
  ·skip
   refine J.c 5 [] [] [] 63 ((q + 1) ≤ 9223372036854775808) (fun fk8 => ?_) fun fk8 => ?_
   ·skip
    refine J.h 8 [true] [] [] 73 (.int .i64 (IntKind.wrap .i64 ((IntKind.wrap .i64 (0 - (IntKind.wrap .i64 (IntKind.wrap .u64 ((q + 1) - 1))))) - 1))) (.int .i64 (-(q + 1))) (congrArg (Value.int .i64) (neg_wrap (by omega))) ?_
    refine J.e 3 [.int .i64 (-(q + 1)), .int .i64 0] Tryz.func216 (hR _ _ ?_)
    have hc0 : c ≠ 0 := by omega
    subst hd
    have e0 := md_core (a := a) (b := b) (c := c) (mode := mode) (q := q) (r := r) hc0 (by omega) (by omega) (by omega) (by omega)
    rw [← hneg2] at e0
    simp only [fk6, if_true, if_false, Bool.false_eq_true] at e0
    simp only [fk7, if_true, if_false, Bool.false_eq_true] at e0
    have e1 := md_fit (by omega) hc0 e0 (by omega)
    have e2 : mdX a b c mode = -(q + 1) := e1.1.trans (by omega)
    exact ⟨by rw [tup_two, mdV, e2, e1.2], S6.nil⟩
   refine J.h 6 [false] [] [] 77 (.bool (!neg)) (.bool false) (congrArg Value.bool (by rw [fk7]; rfl)) ?_
   refine J.e 13 [.int .i64 0, .int .i64 9] Tryz.func216 (hR _ _ ?_)
   have hc0 : c ≠ 0 := by omega
   subst hd
   have e0 := md_core (a := a) (b := b) (c := c) (mode := mode) (q := q) (r := r) hc0 (by omega) (by omega) (by omega) (by omega)
   rw [← hneg2] at e0
   simp only [fk6, if_true, if_false, Bool.false_eq_true] at e0
   simp only [fk7, if_true, if_false, Bool.false_eq_true] at e0
   have e1 := md_unfit (by omega) hc0 e0 (by (repeat' split) <;> omega)
   exact ⟨by rw [tup_two, mdV, e1.1, e1.2], S6.nil⟩
  refine J.h 11 [false] [] [] 77 (.bool (!neg)) (.bool true) (congrArg Value.bool (by rw [fk7]; rfl)) ?_
  refine J.c 5 [] [] [] 74 ((q + 1) < 9223372036854775808) (fun fk11 => ?_) fun fk11 => ?_
  ·skip
   refine J.wi 5 [true] [] [] 82 (q + 1) ?_
   refine J.e 3 [.int .i64 (q + 1), .int .i64 0] Tryz.func216 (hR _ _ ?_)
   have hc0 : c ≠ 0 := by omega
   subst hd
   have e0 := md_core (a := a) (b := b) (c := c) (mode := mode) (q := q) (r := r) hc0 (by omega) (by omega) (by omega) (by omega)
   rw [← hneg2] at e0
   simp only [fk6, if_true, if_false, Bool.false_eq_true] at e0
   simp only [fk7, if_true, if_false, Bool.false_eq_true] at e0
   have e1 := md_fit (by omega) hc0 e0 (by omega)
   have e2 : mdX a b c mode = q + 1 := e1.1.trans (by omega)
   exact ⟨by rw [tup_two, mdV, e2, e1.2], S6.nil⟩
  refine J.e 8 [.int .i64 0, .int .i64 9] Tryz.func216 (hR _ _ ?_)
  have hc0 : c ≠ 0 := by omega
  subst hd
  have e0 := md_core (a := a) (b := b) (c := c) (mode := mode) (q := q) (r := r) hc0 (by omega) (by omega) (by omega) (by omega)
  rw [← hneg2] at e0
  simp only [fk6, if_true, if_false, Bool.false_eq_true] at e0
  simp only [fk7, if_true, if_false, Bool.false_eq_true] at e0
  have e1 := md_unfit (by omega) hc0 e0 (by (repeat' split) <;> omega)
  exact ⟨by rw [tup_two, mdV, e1.1, e1.2], S6.nil⟩
 refine J.b 8 [false] [] [] 65 neg (fun fk12 => ?_) fun fk12 => ?_
 ·skip
  refine J.c 5 [] [] [] 63 (q ≤ 9223372036854775808) (fun fk13 => ?_) fun fk13 => ?_
  ·skip
   refine J.h 8 [true] [] [] 73 (.int .i64 (IntKind.wrap .i64 ((IntKind.wrap .i64 (0 - (IntKind.wrap .i64 (IntKind.wrap .u64 (q - 1))))) - 1))) (.int .i64 (-q)) (congrArg (Value.int .i64) (neg_wrap (by omega))) ?_
   refine J.e 3 [.int .i64 (-q), .int .i64 0] Tryz.func216 (hR _ _ ?_)
   have hc0 : c ≠ 0 := by omega
   subst hd
   have e0 := md_core (a := a) (b := b) (c := c) (mode := mode) (q := q) (r := r) hc0 (by omega) (by omega) (by omega) (by omega)
   rw [← hneg2] at e0
   simp only [fk6, if_true, if_false, Bool.false_eq_true] at e0
   simp only [fk12, if_true, if_false, Bool.false_eq_true] at e0
   have e1 := md_fit (by omega) hc0 e0 (by omega)
   have e2 : mdX a b c mode = -q := e1.1.trans (by omega)
   exact ⟨by rw [tup_two, mdV, e2, e1.2], S6.nil⟩
  refine J.h 6 [false] [] [] 77 (.bool (!neg)) (.bool false) (congrArg Value.bool (by rw [fk12]; rfl)) ?_
  refine J.e 13 [.int .i64 0, .int .i64 9] Tryz.func216 (hR _ _ ?_)
  have hc0 : c ≠ 0 := by omega
  subst hd
  have e0 := md_core (a := a) (b := b) (c := c) (mode := mode) (q := q) (r := r) hc0 (by omega) (by omega) (by omega) (by omega)
  rw [← hneg2] at e0
  simp only [fk6, if_true, if_false, Bool.false_eq_true] at e0
  simp only [fk12, if_true, if_false, Bool.false_eq_true] at e0
  have e1 := md_unfit (by omega) hc0 e0 (by (repeat' split) <;> omega)
  exact ⟨by rw [tup_two, mdV, e1.1, e1.2], S6.nil⟩
 refine J.h 11 [false] [] [] 77 (.bool (!neg)) (.bool true) (congrArg Value.bool (by rw [fk12]; rfl)) ?_
 refine J.c 5 [] [] [] 74 (q < 9223372036854775808) (fun fk16 => ?_) fun fk16 => ?_
 ·skip
  refine J.wi 5 [true] [] [] 82 q ?_
  refine J.e 3 [.int .i64 q, .int .i64 0] Tryz.func216 (hR _ _ ?_)
  have hc0 : c ≠ 0 := by omega
  subst hd
  have e0 := md_core (a := a) (b := b) (c := c) (mode := mode) (q := q) (r := r) hc0 (by omega) (by omega) (by omega) (by omega)
  rw [← hneg2] at e0
  simp only [fk6, if_true, if_false, Bool.false_eq_true] at e0
  simp only [fk12, if_true, if_false, Bool.false_eq_true] at e0
  have e1 := md_fit (by omega) hc0 e0 (by omega)
  have e2 : mdX a b c mode = q := e1.1.trans (by omega)
  exact ⟨by rw [tup_two, mdV, e2, e1.2], S6.nil⟩
 refine J.e 8 [.int .i64 0, .int .i64 9] Tryz.func216 (hR _ _ ?_)
 have hc0 : c ≠ 0 := by omega
 subst hd
 have e0 := md_core (a := a) (b := b) (c := c) (mode := mode) (q := q) (r := r) hc0 (by omega) (by omega) (by omega) (by omega)
 rw [← hneg2] at e0
 simp only [fk6, if_true, if_false, Bool.false_eq_true] at e0
 simp only [fk12, if_true, if_false, Bool.false_eq_true] at e0
 have e1 := md_unfit (by omega) hc0 e0 (by (repeat' split) <;> omega)
 exact ⟨by rw [tup_two, mdV, e1.1, e1.2], S6.nil⟩

end Go.Proofs.YtaoolgcddapegaaGreatDoor

namespace Go.Proofs.YtaoolgcddapegaaGreatDoor
open Go.Eng Go.RowKit
set_option linter.unusedSimpArgs false
set_option linter.unusedVariables false
set_option maxRecDepth 20000
set_option maxHeartbeats 20000000
theorem ediv_bd {x d : Int} (hd : 1 ≤ d) (hx : -9223372036854775808 ≤ x ∧ x ≤ 9223372036854775808) (h : x ≤ 9223372036854775807 ∨ 2 ≤ d) : -9223372036854775808 ≤ x / d ∧ x / d ≤ 9223372036854775807 := by
  have h1 := Int.ediv_mul_le x (show d ≠ 0 by omega)
  have h2 : x < (x / d + 1) * d := Int.lt_ediv_add_one_mul_self x (by omega)
  constructor
  · rcases (show 0 ≤ x / d ∨ x / d ≤ -1 by omega) with h3 | h3
    · omega
    · have := Int.mul_le_mul_of_nonpos_left (a := x / d + 1) (b := d) (c := 1) (by omega) hd
      omega
  · rcases (show x / d ≤ 0 ∨ 1 ≤ x / d by omega) with h3 | h3
    · omega
    · rcases h with h | h
      · have := Int.mul_le_mul_of_nonneg_left hd (show 0 ≤ x / d by omega); omega
      · have := Int.mul_le_mul_of_nonneg_left h (show 0 ≤ x / d by omega); omega
theorem floor_val {a b : Int} (ha : -9223372036854775808 ≤ a ∧ a ≤ 9223372036854775807) (hb : b ≠ 0 ∧ b ≠ -1) : mdX a 1 b 1 = if b < 0 then (-a) / (-b) else a / b := by
  have e : mulDivR a 1 b 1 = if b < 0 then (-a) / (-b) else a / b := by
    unfold mulDivR rndQ; simp
  have hf : fitsB (mulDivR a 1 b 1) = true := by
    rw [e]; unfold fitsB
    split
    · have := ediv_bd (x := -a) (d := -b) (by omega) (by omega) (by omega); simp only [Bool.and_eq_true, decide_eq_true_eq]; exact this
    · have := ediv_bd (x := a) (d := b) (by omega) (by omega) (by omega); simp only [Bool.and_eq_true, decide_eq_true_eq]; exact this
  unfold mdX
  rw [if_neg (by omega), if_neg hb.1, if_pos hf, e]
theorem hb191 : HasBody Tryz.prog 191 := fun _ _ => by kernel_rfl

theorem clamp_any (x lo hi : Int) (w : World) : Ret Tryz.prog 191 #[.int .i64 x, .int .i64 lo, .int .i64 hi] w (fun v w' => v = .int .i64 (min (max x lo) hi) ∧ Sep w [] w') := by
 refine Ret.st (N := 12) Tryz.func191 fun R hR S0 => ?_
 refine J.h 9 [] [] [] 9 (.int .i64 (if lo > x then lo else x)) (.int .i64 (max x lo)) (congrArg (Value.int .i64) (by omega)) ?_
 refine J.h 2 [] [] [] 11 (.int .i64 (if hi < (max x lo) then hi else (max x lo))) (.int .i64 (min (max x lo) hi)) (congrArg (Value.int .i64) (by omega)) ?_
 refine J.e 2 [.int .i64 (min (max x lo) hi)] Tryz.func191 (hR _ _ ?_)
 exact ⟨rfl, S0.nil⟩

theorem hb190 : HasBody Tryz.prog 190 := fun _ _ => by kernel_rfl

theorem div_any (a b m : Int) (w : World) (ha : (-9223372036854775808) ≤ a ∧ a ≤ 9223372036854775807) (hb : (-9223372036854775808) ≤ b ∧ b ≤ 9223372036854775807) : Ret Tryz.prog 190 #[.int .i64 a, .int .i64 b, .int .i64 m] w (fun v w' => v = .tuple #[.int .i64 (mdX a 1 b m), .int .i64 (mdE a 1 b m)] ∧ Sep w [] w') := by
 refine Ret.st (N := 14) Tryz.func190 fun R hR S0 => ?_
 refine J.c0 10 [] [] [] S0 11 hb216 (muldiv_any a 1 b m _ (by omega) (by omega) (by omega)) fun w1 S1 => ?_
 have := mdX_bounds a 1 b m
 refine J.e 5 [.int .i64 (mdX a 1 b m), .int .i64 (mdE a 1 b m)] Tryz.func190 (hR _ _ ?_)
 exact ⟨rfl, S1.nil⟩

theorem hb155 : HasBody Tryz.prog 155 := fun _ _ => by kernel_rfl

theorem floor_any (a b : Int) (w : World) (ha : (-9223372036854775808) ≤ a ∧ a ≤ 9223372036854775807) (hb : (-9223372036854775808) ≤ b ∧ b ≤ 9223372036854775807) : Ret Tryz.prog 155 #[.int .i64 a, .int .i64 b] w (fun v w' => v = .int .i64 (mdX a 1 b 1) ∧ Sep w [] w') := by
 refine Ret.st (N := 14) Tryz.func155 fun R hR S0 => ?_
 refine J.c0 8 [] [] [] S0 10 hb190 (div_any a b 1 _ (by omega) (by omega)) fun w1 S1 => ?_
 have := mdX_bounds a 1 b 1
 refine J.e 11 [.int .i64 (mdX a 1 b 1)] Tryz.func155 (hR _ _ ?_)
 exact ⟨rfl, S1.nil⟩

end Go.Proofs.YtaoolgcddapegaaGreatDoor

