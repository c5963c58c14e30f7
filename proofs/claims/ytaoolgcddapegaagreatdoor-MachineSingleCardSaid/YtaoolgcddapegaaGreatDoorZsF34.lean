/- Walks of functions of this seat, printed by a program over the engine. Conditions: as each theorem says. -/
import Derived.Test.YtaoolgcddapegaaGreatDoorZsF33
namespace Go.Proofs.YtaoolgcddapegaaGreatDoor
noncomputable section
open Go.Eng Go.RowKit
set_option linter.unusedSimpArgs false
set_option linter.unusedVariables false
set_option maxRecDepth 20000
set_option maxHeartbeats 20000000
abbrev kvF34_1 : List Value := [iv 0, .bool false, iv 0, iv 0, iv 0, iv 0, iv 0, iv 0, iv 0, iv 0, iv 0]
abbrev kvF34_2 : List Value := [.int .u64 0, .int .u64 0, .int .u64 0, .int .u64 0]
/-! layers 3 and 4: limits, numbers, results -/
def limLo (t : Fxd) : Int := if fixB t then (if t.gSigned then -(2 ^ (t.gBits - 1).toNat) else 0) else 0
def limHi (t : Fxd) : Int := if fixB t then (if t.gSigned then 2 ^ (t.gBits - 1).toNat - 1 else 2 ^ t.gBits.toNat - 1) else 0
theorem lim_bd (t : Fxd) : (-2147483648 ≤ limLo t ∧ limLo t ≤ 0) ∧ 0 ≤ limHi t ∧ limHi t ≤ 4294967295 := by
  unfold limLo limHi
  cases h : fixB t with
  | false => simp
  | true =>
    rw [if_pos rfl, if_pos rfl]
    obtain ⟨h1, _⟩ := fixB_iff.1 h
    rcases h1 with e | e | e <;> rw [e] <;> cases t.gSigned <;> decide
theorem lim_shl {x y : Int} (hx : -1 ≤ x ∧ x ≤ 1) (hy : 0 ≤ y ∧ y ≤ 32) : IntKind.wrap .i64 (x * 2 ^ min y.toNat (IntKind.bits .i64)) = x * 2 ^ y.toNat := by
  have e : min y.toNat (IntKind.bits .i64) = y.toNat := Nat.min_eq_left (show y.toNat ≤ 64 by omega)
  rw [e]
  have h1 : (1 : Int) ≤ 2 ^ y.toNat := by exact_mod_cast Nat.one_le_two_pow
  have h2 : (2 : Int) ^ y.toNat ≤ 2 ^ 32 := by exact_mod_cast Nat.pow_le_pow_right (by omega) (by omega)
  have h3 : x = -1 ∨ x = 0 ∨ x = 1 := by omega
  rcases h3 with rfl | rfl | rfl <;> exact IntWalk.i64_in _ (by omega)
theorem pow_bd {k : Nat} (h : k ≤ 32) : (1 : Int) ≤ 2 ^ k ∧ (2 : Int) ^ k ≤ 4294967296 := by
  have h1 : (1 : Int) ≤ 2 ^ k := by exact_mod_cast Nat.one_le_two_pow
  have h2 : (2 : Int) ^ k ≤ 2 ^ 32 := by exact_mod_cast Nat.pow_le_pow_right (by omega) h
  exact ⟨h1, h2⟩
theorem lim_no {t : Fxd} (h : fixB t = false) : limLo t = 0 ∧ limHi t = 0 := by unfold limLo limHi; rw [h]; exact ⟨rfl, rfl⟩
theorem lim_s {t : Fxd} (h : fixB t = true) (hs : t.gSigned = true) : limLo t = (-1) * 2 ^ (t.gBits - 1).toNat ∧ limHi t = 1 * 2 ^ (t.gBits - 1).toNat - 1 := by unfold limLo limHi; rw [h, hs]; simp
theorem lim_u {t : Fxd} (h : fixB t = true) (hs : t.gSigned = false) : limLo t = 0 ∧ limHi t = 1 * 2 ^ t.gBits.toNat - 1 := by unfold limLo limHi; rw [h, hs]; simp
def clampT (t : Fxd) (x : Int) : Int := min (max x (limLo t)) (limHi t)
theorem clamp_bd (t : Fxd) (x : Int) : limLo t ≤ clampT t x ∧ clampT t x ≤ limHi t := by have := lim_bd t; unfold clampT; omega
def numF (t : Fxd) (r : Int) : Int := r * t.gNum + t.gOff
theorem mul_bd {x y : Int} {a b : Nat} (hx : x.natAbs ≤ a) (hy : y.natAbs ≤ b) : (x * y).natAbs ≤ a * b := by rw [Int.natAbs_mul]; exact Nat.mul_le_mul hx hy
theorem mul_bi {x y : Int} (a b : Nat) (hx : x.natAbs ≤ a) (hy : y.natAbs ≤ b) : -((a * b : Nat) : Int) ≤ x * y ∧ x * y ≤ ((a * b : Nat) : Int) := by have := mul_bd hx hy; omega
theorem num_bd {t : Fxd} {r : Int} (h : fixB t = true) (hr : limLo t ≤ r ∧ r ≤ limHi t) : (-4503599627370496 ≤ r * t.gNum ∧ r * t.gNum ≤ 4503599627370496) ∧ -4503600701112320 ≤ numF t r ∧ numF t r ≤ 4503600701112320 := by
  have := lim_bd t
  obtain ⟨_, h2, h3, h4, _⟩ := fixB_iff.1 h
  have := mul_bi (x := r) (y := t.gNum) 4294967296 1048576 (by omega) (by omega)
  unfold numF; omega
/-- the rounded raw value of n / d, within the limits -/
def qF (n d : Int) (t : Fxd) : Int := ((n * t.gDen + d * (0 - t.gOff)) * 2 + d * t.gNum) / (2 * (d * t.gNum))
def resT (n d : Int) (t : Fxd) : Int := clampT t (qF n d t)
theorem res_bd (n d : Int) (t : Fxd) : limLo t ≤ resT n d t ∧ resT n d t ≤ limHi t := clamp_bd t _
theorem search_step {u tw m : Int} (hu : 0 < u) : u * (2 * m - 1) ≤ tw ↔ m ≤ (tw + u) / (2 * u) := by
  rw [Int.le_ediv_iff_mul_le (by omega)]
  have e1 : u * (2 * m - 1) = u * m * 2 - u := by rw [Int.mul_sub, Int.mul_one, Int.mul_comm 2 m, Int.mul_assoc]
  have e2 : m * (2 * u) = u * m * 2 := by rw [Int.mul_comm 2 u, ← Int.mul_assoc, Int.mul_comm m u]
  rw [e1, e2]; omega
def cmN (op an ad bn bd : Int) : Int := if op = 1 then an * bd + bn * ad else if op = 2 then an * bd + bn * (0 - ad) else if op = 3 then an * bn else if bn * ad < 0 then -(an * bd) else an * bd
def cmD (op ad bn bd : Int) : Int := if op = 4 then (if bn * ad < 0 then -(bn * ad) else bn * ad) else ad * bd
def opV (op : Int) (ta : Fxd) (ra : Int) (tb : Fxd) (rb : Int) (t : Fxd) : Int := resT (cmN op (numF ta ra) ta.gDen (numF tb rb) tb.gDen) (cmD op ta.gDen (numF tb rb) tb.gDen) t
abbrev okA (n d : Int) : Prop := (-4503600701112320 ≤ n ∧ n ≤ 4503600701112320) ∧ 1 ≤ d ∧ d ≤ 1048576
abbrev okC (n d : Int) : Prop := (-40564819207303340847894502572032 ≤ n ∧ n ≤ 40564819207303340847894502572032) ∧ 1 ≤ d ∧ d ≤ 9444732965739290427392
theorem num_ok {t : Fxd} {r : Int} (h : fixB t = true) (hr : limLo t ≤ r ∧ r ≤ limHi t) : okA (numF t r) t.gDen := ⟨(num_bd h hr).2, (fixB_iff.1 h).2.2.1⟩
theorem prod_pos {x y : Int} (hx : 1 ≤ x) (hy : 1 ≤ y) : 1 ≤ x * y := by have := Int.mul_pos (a := x) (b := y) (by omega) (by omega); omega
theorem prod_ne {x y : Int} (hx : x ≠ 0) (hy : y ≠ 0) : x * y ≠ 0 := Int.mul_ne_zero hx hy
theorem cm_ok {op an ad bn bd : Int} (ha : okA an ad) (hb : okA bn bd) (ho : 1 ≤ op ∧ op ≤ 4) (hz : op = 4 → bn ≠ 0) : okC (cmN op an ad bn bd) (cmD op ad bn bd) := by
  have h1 := mul_bi (x := an) (y := bd) 4503600701112320 1048576 (by omega) (by omega)
  have h2 := mul_bi (x := bn) (y := ad) 4503600701112320 1048576 (by omega) (by omega)
  have h3 := mul_bi (x := an) (y := bn) 4503600701112320 4503600701112320 (by omega) (by omega)
  have h4 := mul_bi (x := ad) (y := bd) 1048576 1048576 (by omega) (by omega)
  have h5 := prod_pos ha.2.1 hb.2.1
  have h6 : bn * (0 - ad) = -(bn * ad) := by rw [Int.zero_sub, Int.mul_neg]
  have h7 : op = 4 → bn * ad ≠ 0 := fun e => prod_ne (hz e) (by omega)
  unfold cmN cmD
  rw [h6]
  refine ⟨?_, ?_⟩
  · split
    · omega
    · split
      · omega
      · split
        · omega
        · split <;> omega
  · split
    · rename_i e; have := h7 e; split <;> omega
    · omega
theorem unEq_iff {a b : Unt} : unEq a b = true ↔ a = b := by
  obtain ⟨a1, a2, a3, a4, a5⟩ := a; obtain ⟨b1, b2, b3, b4, b5⟩ := b
  unfold unEq; simp
def fitOK (op : Int) (a b t : Unt) : Bool := if op = 3 then (unE a b 1 == 0) && unEq (unX a b 1) t else if op = 4 then (unE a b (-1) == 0) && unEq (unX a b (-1)) t else unEq a t && unEq b t
theorem fit_of {op : Int} {a b t : Unt} (h : unitsB op a b t = true) (ho : 5 ≤ op ∧ op ≤ 8) : fitOK (op - 4) a b t = true := by
  unfold unitsB at h; unfold fitOK
  have : op = 5 ∨ op = 6 ∨ op = 7 ∨ op = 8 := by omega
  rcases this with rfl | rfl | rfl | rfl
  · simp only [Bool.and_eq_true, unEq_iff, if_true, true_or] at h
    obtain ⟨rfl, rfl⟩ := h; simp [unEq_iff]
  · simp [unEq_iff] at h
    obtain ⟨rfl, rfl⟩ := h; simp [unEq_iff]
  · simpa using h
  · simpa using h
def opE (op : Int) (tb : Fxd) (rb : Int) : Int := if op = 4 ∧ numF tb rb = 0 then 10 else 0
def opTy (op : Int) (tb : Fxd) (rb : Int) (t : Fxd) : Fxd := if opE op tb rb = 0 then t else fx0
def fopW (op : Int) (ta : Fxd) (ra : Int) (tb : Fxd) (rb : Int) (t : Fxd) : Int := if opE op tb rb = 0 then opV op ta ra tb rb t else 0
theorem op_zero {op : Int} {ta tb t : Fxd} {ra rb : Int} (h : op = 4 ∧ numF tb rb = 0) : opE op tb rb = 10 ∧ opTy op tb rb t = fx0 ∧ fopW op ta ra tb rb t = 0 := by
  have e : opE op tb rb = 10 := by unfold opE; rw [if_pos h]
  unfold opTy fopW; rw [e]; exact ⟨rfl, rfl, rfl⟩
theorem op_fine {op : Int} {ta tb t : Fxd} {ra rb : Int} (h : ¬ (op = 4 ∧ numF tb rb = 0)) : opE op tb rb = 0 ∧ opTy op tb rb t = t ∧ fopW op ta ra tb rb t = opV op ta ra tb rb t := by
  have e : opE op tb rb = 0 := by unfold opE; rw [if_neg h]
  unfold opTy fopW; rw [e]; exact ⟨rfl, rfl, rfl⟩
abbrev inT (t : Fxd) (r : Int) : Prop := limLo t ≤ r ∧ r ≤ limHi t

theorem hb160 : HasBody Tryz.prog 160 := fun _ _ => by kernel_rfl

theorem lim_any (t : Fxd) (w : World) (ht : fxdQ w t) : Ret Tryz.prog 160 #[.agg (fxdA t)] w (fun v w' => v = .tuple #[iv (limLo t), iv (limHi t)] ∧ Sep w [] w') := by
 refine Ret.st (N := 24) Tryz.func160 fun R hR S0 => ?_
 obtain ⟨q1, q2, q3, q4, q5, q6, q7, q8, q9, _⟩ := id ht
 refine J.nw 2 [] [] [] S0 1 (fxdC t) 75 fun b1 w1 S1 => ?_
 refine J.lb 7 [] [] [] S1 0 rfl 5 (.agg (fxdA t)) ?_
 refine J.c0 0 [] [] [] S1 6 hb95 (fxvalid_any t _ (fxdQ_sep ht S1)) fun w2 S2 => ?_
 refine J.bn 3 [] [] [] 4 (fixB t) (fun fk1 => ?_) fun fk1 => ?_
 ·skip
  have hfp := fixB_iff.1 fk1
  have hp1 := pow_bd (k := (t.gBits - 1).toNat) (by omega)
  have hp2 := pow_bd (k := (t.gBits).toNat) (by omega)
  refine J.lb 4 [false] [] [] S2 0 rfl 10 (.bool t.gSigned) ?_
  refine J.b 2 [] [] [] 8 t.gSigned (fun fk2 => ?_) fun fk2 => ?_
  ·skip
   refine J.r 2 [true] [] [] ?_
   refine J.drawStill S2 11 Tryz.mixed (by kernel_rfl) (by kernel_rfl) (by kernel_rfl) ?_
   intro w3 S3
   refine SL.r 11 (pv b1) ?_
   refine SL.lb S3 0 rfl 12 (iv t.gBits) ?_
   refine SL.r 13 (iv (IntKind.wrap .i64 (t.gBits - 1))) ?_
   refine SL.head (iv (t.gBits - 1)) (congrArg (Value.int .i64) (IntWalk.i64_in _ (by omega))) ?_
   refine SL.ok (by decide) (OK.shl 14 .i64 (-1) (t.gBits - 1) ((-1) * 2 ^ (t.gBits - 1).toNat) (by kernel_rfl) (by omega) ((lim_shl (by omega) (by omega)))) ?_
   refine SL.r 15 (pv b1) ?_
   refine SL.lb S3 0 rfl 16 (iv t.gBits) ?_
   refine SL.r 17 (iv (IntKind.wrap .i64 (t.gBits - 1))) ?_
   refine SL.head (iv (t.gBits - 1)) (congrArg (Value.int .i64) (IntWalk.i64_in _ (by omega))) ?_
   refine SL.ok (by decide) (OK.shl 18 .i64 1 (t.gBits - 1) (1 * 2 ^ (t.gBits - 1).toNat) (by kernel_rfl) (by omega) ((lim_shl (by omega) (by omega)))) ?_
   refine SL.r 19 (iv (IntKind.wrap .i64 ((1 * 2 ^ (t.gBits - 1).toNat) - 1))) ?_
   refine SL.head (iv ((1 * 2 ^ (t.gBits - 1).toNat) - 1)) (congrArg (Value.int .i64) (IntWalk.i64_in _ (by omega))) ?_
   refine SL.r 2 (iv ((-1) * 2 ^ (t.gBits - 1).toNat)) ?_
   refine SL.r 3 (iv ((1 * 2 ^ (t.gBits - 1).toNat) - 1)) ?_
   refine SL.done ?_
   refine TL.done (by kernel_rfl) ?_
   refine J.e 0 [iv ((-1) * 2 ^ (t.gBits - 1).toNat), iv ((1 * 2 ^ (t.gBits - 1).toNat) - 1)] Tryz.func160 (hR _ _ ?_)
   obtain ⟨e1, e2⟩ := lim_s fk1 fk2
   exact ⟨by rw [tup_two, e1, e2], S3.nil⟩
  refine J.r 4 [false] [] [] ?_
  refine J.drawStill S2 6 Tryz.mixed (by kernel_rfl) (by kernel_rfl) (by kernel_rfl) ?_
  intro w4 S4
  refine SL.r 20 (pv b1) ?_
  refine SL.lb S4 0 rfl 21 (iv t.gBits) ?_
  refine SL.ok (by decide) (OK.shl 22 .i64 1 t.gBits (1 * 2 ^ (t.gBits).toNat) (by kernel_rfl) (by omega) ((lim_shl (by omega) (by omega)))) ?_
  refine SL.r 23 (iv (IntKind.wrap .i64 ((1 * 2 ^ (t.gBits).toNat) - 1))) ?_
  refine SL.head (iv ((1 * 2 ^ (t.gBits).toNat) - 1)) (congrArg (Value.int .i64) (IntWalk.i64_in _ (by omega))) ?_
  refine SL.r 2 (iv 0) ?_
  refine SL.r 3 (iv ((1 * 2 ^ (t.gBits).toNat) - 1)) ?_
  refine SL.done ?_
  refine TL.done (by kernel_rfl) ?_
  refine J.e 0 [iv 0, iv ((1 * 2 ^ (t.gBits).toNat) - 1)] Tryz.func160 (hR _ _ ?_)
  obtain ⟨e1, e2⟩ := lim_u fk1 fk2
  exact ⟨by rw [tup_two, e1, e2], S4.nil⟩
 refine J.e 6 [iv 0, iv 0] Tryz.func160 (hR _ _ ?_)
 obtain ⟨e1, e2⟩ := lim_no fk1
 exact ⟨by rw [tup_two, e1, e2], S2.nil⟩

theorem hb164 : HasBody Tryz.prog 164 := fun _ _ => by kernel_rfl

theorem number_any (t : Fxd) (r : Int) (w : World) (ft : fixB t = true) (rt : inT t r) : Ret Tryz.prog 164 #[.agg (vlA t r)] w (fun v w' => v = .tuple #[iv (numF t r), iv (t.gDen)] ∧ Sep w [] w') := by
 refine Ret.st (N := 17) Tryz.func164 fun R hR S0 => ?_
 have hnb := num_bd ft rt
 have hnd : numF t r = r * t.gNum + t.gOff := rfl
 have hfp := fixB_iff.1 ft
 refine J.nw 2 [] [] [] S0 1 (vlL t r) 82 fun b1 w1 S1 => ?_
 refine J.r 4 [] [] [] ?_
 refine J.drawStill S1 15 Tryz.mixed (by kernel_rfl) (by kernel_rfl) (by kernel_rfl) ?_
 intro w2 S2
 refine SL.r 4 (.pointer (some ⟨b1, 10, none⟩)) ?_
 refine SL.lb S2 0 rfl 5 (iv r) ?_
 refine SL.r 6 (pv b1) ?_
 refine SL.r 7 (.pointer (some ⟨b1, 2, none⟩)) ?_
 refine SL.lb S2 0 rfl 8 (iv t.gNum) ?_
 refine SL.r 9 (iv (IntKind.wrap .i64 (r * t.gNum))) ?_
 refine SL.head (iv (r * t.gNum)) (congrArg (Value.int .i64) (IntWalk.i64_in _ (by omega))) ?_
 refine SL.r 10 (pv b1) ?_
 refine SL.r 11 (.pointer (some ⟨b1, 3, none⟩)) ?_
 refine SL.lb S2 0 rfl 12 (iv t.gOff) ?_
 refine SL.r 13 (iv (IntKind.wrap .i64 ((r * t.gNum) + t.gOff))) ?_
 refine SL.head (iv ((r * t.gNum) + t.gOff)) (congrArg (Value.int .i64) (IntWalk.i64_in _ (by omega))) ?_
 refine SL.r 14 (pv b1) ?_
 refine SL.r 15 (.pointer (some ⟨b1, 4, none⟩)) ?_
 refine SL.lb S2 0 rfl 16 (iv t.gDen) ?_
 refine SL.r 2 (iv ((r * t.gNum) + t.gOff)) ?_
 refine SL.r 3 (iv t.gDen) ?_
 refine SL.done ?_
 refine TL.done (by kernel_rfl) ?_
 refine J.e 0 [iv ((r * t.gNum) + t.gOff), iv t.gDen] Tryz.func164 (hR _ _ ?_)
 exact ⟨rfl, S2.nil⟩

theorem hb195 : HasBody Tryz.prog 195 := fun _ _ => by kernel_rfl
def K195_0 := adv 74 [false, false, false, true] (bodyOf Tryz.f195)
theorem combine_any (op : Int) (ta : Fxd) (ra : Int) (tb : Fxd) (rb : Int) (w : World) (fa : fixB ta = true) (ha : inT ta ra) (fb : fixB tb = true) (hb : inT tb rb) (ho : 1 ≤ op ∧ op ≤ 4) : Ret Tryz.prog 195 #[iv op, .agg (vlA ta ra), .agg (vlA tb rb)] w (fun v w' => v = .agg (exA (cmN op (numF ta ra) ta.gDen (numF tb rb) tb.gDen) (cmD op ta.gDen (numF tb rb) tb.gDen)) ∧ Sep w [] w') := by
 refine Ret.st (N := 87) Tryz.func195 fun R hR S0 => ?_
 have hoa := num_ok fa ha
 have hob := num_ok fb hb
 have hp0 := mul_bi (x := numF ta ra) (y := tb.gDen) 4503600701112320 1048576 (by omega) (by omega)
 have hp1 := mul_bi (x := numF tb rb) (y := ta.gDen) 4503600701112320 1048576 (by omega) (by omega)
 have hp2 := mul_bi (x := numF ta ra) (y := numF tb rb) 4503600701112320 4503600701112320 (by omega) (by omega)
 have hp3 := mul_bi (x := ta.gDen) (y := tb.gDen) 1048576 1048576 (by omega) (by omega)
 have hp4 : (numF tb rb) * (0 - ta.gDen) = -((numF tb rb) * ta.gDen) := by rw [Int.zero_sub, Int.mul_neg]
 refine J.nw 2 [] [] [] S0 4 (vlL ta ra) 82 fun b1 w1 S1 => ?_
 refine J.nw 0 [] [] [] S1 5 (vlL tb rb) 82 fun b2 w2 S2 => ?_
 refine J.nw 0 [] [] [] S2 6 kvF34_2 213 fun b3 w3 S3 => ?_
 refine J.lb 3 [] [] [] S3 2 rfl 13 (.agg (vlA ta ra)) ?_
 refine J.c0 0 [] [] [] S3 14 hb164 (number_any ta ra _ fa ha) fun w4 S4 => ?_
 refine J.lb 8 [] [(8, iv ((ta).gDen)), (7, iv (numF ta ra))] [] S4 1 rfl 18 (.agg (vlA tb rb)) ?_
 refine J.c0 0 [] [] [] S4 19 hb164 (number_any tb rb _ fb hb) fun w5 S5 => ?_
 refine J.c 17 [] [(22, iv op), (10, iv ((tb).gDen)), (9, iv (numF tb rb))] [] 23 (op = 1) (fun fk1 => ?_) fun fk1 => ?_
 ·skip
  refine J.c0 4 [true] [] [] S5 26 hb165 (of4_any (numF ta ra) _ (by omega)) fun w6 S6 => ?_
  refine J.c0 1 [] [] [] S6 28 hb166 (wtimes_any (numF ta ra) ((tb).gDen) _ (by constructor <;> omega) (by omega)) fun w7 S7 => ?_
  refine J.c0 1 [] [] [] S7 30 hb165 (of4_any (numF tb rb) _ (by omega)) fun w8 S8 => ?_
  refine J.c0 1 [] [] [] S8 32 hb166 (wtimes_any (numF tb rb) ((ta).gDen) _ (by constructor <;> omega) (by omega)) fun w9 S9 => ?_
  refine J.c0 0 [] [] [] S9 33 hb217 (wadd_any ((numF ta ra) * ((tb).gDen)) ((numF tb rb) * ((ta).gDen)) _) fun w10 S10 => ?_
  refine J.c0 1 [] [] [] S10 35 hb165 (of4_any ((ta).gDen) _ (by omega)) fun w11 S11 => ?_
  refine J.c0 1 [] [] [] S11 37 hb166 (wtimes_any ((ta).gDen) ((tb).gDen) _ (by constructor <;> omega) (by omega)) fun w12 S12 => ?_
  refine J.sb 1 [] [] [] S12 0 rfl (exL (((numF ta ra) * ((tb).gDen)) + ((numF tb rb) * ((ta).gDen))) (((ta).gDen) * ((tb).gDen))) rfl fun w13 S13 => ?_
  refine J.ez 1 [.agg (exA (((numF ta ra) * ((tb).gDen)) + ((numF tb rb) * ((ta).gDen))) (((ta).gDen) * ((tb).gDen)))] Tryz.func195 (bk (S13.nth 0 rfl) bn) (hR _ _ ?_)
  have e1 : cmN op (numF ta ra) ta.gDen (numF tb rb) tb.gDen = ((numF ta ra) * ((tb).gDen)) + ((numF tb rb) * ((ta).gDen)) := by unfold cmN; (repeat first | rw [if_pos (by omega)] | rw [if_neg (by omega)])
  have e2 : cmD op ta.gDen (numF tb rb) tb.gDen = ((ta).gDen) * ((tb).gDen) := by unfold cmD; (repeat first | rw [if_pos (by omega)] | rw [if_neg (by omega)])
  exact ⟨by rw [e1, e2]; rfl, S13.nil⟩
 refine J.c 6 [false] [] [] 39 (op = 2) (fun fk2 => ?_) fun fk2 => ?_
 ·skip
  refine J.c0 4 [true] [] [] S5 42 hb165 (of4_any (numF ta ra) _ (by omega)) fun w14 S14 => ?_
  refine J.c0 1 [] [] [] S14 44 hb166 (wtimes_any (numF ta ra) ((tb).gDen) _ (by constructor <;> omega) (by omega)) fun w15 S15 => ?_
  refine J.c0 1 [] [] [] S15 46 hb165 (of4_any (numF tb rb) _ (by omega)) fun w16 S16 => ?_
  refine J.wi 2 [] [] [] 48 (0 - ((ta).gDen)) ?_
  refine J.c0 0 [] [] [] S16 49 hb166 (wtimes_any (numF tb rb) (0 - ((ta).gDen)) _ (by constructor <;> omega) (by omega)) fun w17 S17 => ?_
  refine J.c0 0 [] [] [] S17 50 hb217 (wadd_any ((numF ta ra) * ((tb).gDen)) ((numF tb rb) * (0 - ((ta).gDen))) _) fun w18 S18 => ?_
  refine J.c0 1 [] [] [] S18 52 hb165 (of4_any ((ta).gDen) _ (by omega)) fun w19 S19 => ?_
  refine J.c0 1 [] [] [] S19 54 hb166 (wtimes_any ((ta).gDen) ((tb).gDen) _ (by constructor <;> omega) (by omega)) fun w20 S20 => ?_
  refine J.sb 1 [] [] [] S20 0 rfl (exL (((numF ta ra) * ((tb).gDen)) + ((numF tb rb) * (0 - ((ta).gDen)))) (((ta).gDen) * ((tb).gDen))) rfl fun w21 S21 => ?_
  refine J.ez 1 [.agg (exA (((numF ta ra) * ((tb).gDen)) + ((numF tb rb) * (0 - ((ta).gDen)))) (((ta).gDen) * ((tb).gDen)))] Tryz.func195 (bk (S21.nth 0 rfl) bn) (hR _ _ ?_)
  have e1 : cmN op (numF ta ra) ta.gDen (numF tb rb) tb.gDen = ((numF ta ra) * ((tb).gDen)) + ((numF tb rb) * (0 - ((ta).gDen))) := by unfold cmN; (repeat first | rw [if_pos (by omega)] | rw [if_neg (by omega)])
  have e2 : cmD op ta.gDen (numF tb rb) tb.gDen = ((ta).gDen) * ((tb).gDen) := by unfold cmD; (repeat first | rw [if_pos (by omega)] | rw [if_neg (by omega)])
  exact ⟨by rw [e1, e2]; rfl, S21.nil⟩
 refine J.c 6 [false] [] [] 56 (op = 3) (fun fk3 => ?_) fun fk3 => ?_
 ·skip
  refine J.c0 4 [true] [] [] S5 59 hb165 (of4_any (numF ta ra) _ (by omega)) fun w22 S22 => ?_
  refine J.c0 1 [] [] [] S22 61 hb166 (wtimes_any (numF ta ra) (numF tb rb) _ (by constructor <;> omega) (by omega)) fun w23 S23 => ?_
  refine J.c0 1 [] [] [] S23 63 hb165 (of4_any ((ta).gDen) _ (by omega)) fun w24 S24 => ?_
  refine J.c0 1 [] [] [] S24 65 hb166 (wtimes_any ((ta).gDen) ((tb).gDen) _ (by constructor <;> omega) (by omega)) fun w25 S25 => ?_
  refine J.sb 1 [] [] [] S25 0 rfl (exL ((numF ta ra) * (numF tb rb)) (((ta).gDen) * ((tb).gDen))) rfl fun w26 S26 => ?_
  refine J.ez 1 [.agg (exA ((numF ta ra) * (numF tb rb)) (((ta).gDen) * ((tb).gDen)))] Tryz.func195 (bk (S26.nth 0 rfl) bn) (hR _ _ ?_)
  have e1 : cmN op (numF ta ra) ta.gDen (numF tb rb) tb.gDen = (numF ta ra) * (numF tb rb) := by unfold cmN; (repeat first | rw [if_pos (by omega)] | rw [if_neg (by omega)])
  have e2 : cmD op ta.gDen (numF tb rb) tb.gDen = ((ta).gDen) * ((tb).gDen) := by unfold cmD; (repeat first | rw [if_pos (by omega)] | rw [if_neg (by omega)])
  exact ⟨by rw [e1, e2]; rfl, S26.nil⟩
 refine J.c0 6 [false] [] [] S5 68 hb165 (of4_any (numF ta ra) _ (by omega)) fun w27 S27 => ?_
 refine J.c0 1 [] [] [] S27 70 hb166 (wtimes_any (numF ta ra) ((tb).gDen) _ (by constructor <;> omega) (by omega)) fun w28 S28 => ?_
 refine J.c0 1 [] [] [] S28 72 hb165 (of4_any (numF tb rb) _ (by omega)) fun w29 S29 => ?_
 refine J.c0 1 [] [] [] S29 74 hb166 (wtimes_any (numF tb rb) ((ta).gDen) _ (by constructor <;> omega) (by omega)) fun w30 S30 => ?_
 refine J.nw 1 [] [(75, .agg (exA ((numF ta ra) * ((tb).gDen)) ((numF tb rb) * ((ta).gDen))))] [] S30 11 kvF34_2 213 fun b4 w31 S31 => ?_
 refine J.sb 0 [] [] [] S31 0 rfl (exL ((numF ta ra) * ((tb).gDen)) ((numF tb rb) * ((ta).gDen))) rfl fun w32 S32 => ?_
 refine J.lb 5 [] [] [] S32 0 rfl 77 (.agg (wvA ((numF tb rb) * ((ta).gDen)))) ?_
 refine J.c0 0 [] [] [] S32 78 hb197 (wneg_any ((numF tb rb) * ((ta).gDen)) _ (by constructor <;> omega)) fun w33 S33 => ?_
 refine J.c 1 [] [] [] 78 (((numF tb rb) * ((ta).gDen)) < 0) (fun fk4 => ?_) fun fk4 => ?_
 ·skip
  refine J.r 1 [true] [] [] ?_
  have W1 : ∀ (w34 : World), Sep w [box b4 (exL (-((numF ta ra) * ((tb).gDen))) (-((numF tb rb) * ((ta).gDen)))) 213, box b3 kvF34_2 213, box b2 (vlL tb rb) 82, box b1 (vlL ta ra) 82] w34 → WA Tryz.prog 195 87 R K195_0 (fun w_ => Sep w [box b3 kvF34_2 213, box b2 (vlL tb rb) 82, box b1 (vlL ta ra) 82] w_) 0 #[true, true, true, true, true, true, true, true] [(6, pv b3), (11, pv b4)] w34 := by
   intro w34 S34
   refine WA.done (by kernel_rfl) ?_
   refine J.lb 2 [] [] [] S34 0 rfl 86 (.agg (exA (-((numF ta ra) * ((tb).gDen))) (-((numF tb rb) * ((ta).gDen))))) ?_
   refine J.sb 0 [] [] [] S34 1 rfl (exL (-((numF ta ra) * ((tb).gDen))) (-((numF tb rb) * ((ta).gDen)))) rfl fun w35 S35 => ?_
   refine J.ez 1 [.agg (exA (-((numF ta ra) * ((tb).gDen))) (-((numF tb rb) * ((ta).gDen))))] Tryz.func195 (bk (S35.nth 1 rfl) bn) (hR _ _ ?_)
   have e1 : cmN op (numF ta ra) ta.gDen (numF tb rb) tb.gDen = -((numF ta ra) * ((tb).gDen)) := by unfold cmN; (repeat first | rw [if_pos (by omega)] | rw [if_neg (by omega)])
   have e2 : cmD op ta.gDen (numF tb rb) tb.gDen = -((numF tb rb) * ((ta).gDen)) := by unfold cmD; (repeat first | rw [if_pos (by omega)] | rw [if_neg (by omega)])
   exact ⟨by rw [e1, e2]; rfl, S35.nil⟩
  have W2 : ∀ (w36 : World), Sep w [box b4 (exL ((numF ta ra) * ((tb).gDen)) ((numF tb rb) * ((ta).gDen))) 213, box b3 kvF34_2 213, box b2 (vlL tb rb) 82, box b1 (vlL ta ra) 82] w36 → WA Tryz.prog 195 87 R K195_0 (fun w_ => Sep w [box b3 kvF34_2 213, box b2 (vlL tb rb) 82, box b1 (vlL ta ra) 82] w_) 1 #[true, true, true, true, true, true, true, false] [(6, pv b3), (11, pv b4), (85, .agg (exA (-((numF ta ra) * ((tb).gDen))) (-((numF tb rb) * ((ta).gDen)))))] w36 := by
   intro w36 S36
   refine WA.all [7] (by kernel_rfl) rfl ⟨?_, trivial⟩
   refine WO.set #[true, true, true, true, true, true, true, true] (by kernel_rfl) ?_
   refine WO.stBox S36 0 213 0 (.agg (exA (-((numF ta ra) * ((tb).gDen))) (-((numF tb rb) * ((ta).gDen))))) (exL (-((numF ta ra) * ((tb).gDen))) (-((numF tb rb) * ((ta).gDen)))) [box b4 (exL (-((numF ta ra) * ((tb).gDen))) (-((numF tb rb) * ((ta).gDen)))) 213, box b3 kvF34_2 213, box b2 (vlL tb rb) 82, box b1 (vlL ta ra) 82] (by kernel_rfl) rfl (by kernel_rfl) (by kernel_rfl) rfl ?_
   intro w37 S37
   refine WB.mk (S37.erase 0) ?_
   refine WA.weaken (env' := [(6, pv b3), (11, pv b4)]) (by kernel_rfl) ?_
   exact W1 w37 S37
  have W3 : ∀ (w38 : World), Sep w [box b4 (exL ((numF ta ra) * ((tb).gDen)) ((numF tb rb) * ((ta).gDen))) 213, box b3 kvF34_2 213, box b2 (vlL tb rb) 82, box b1 (vlL ta ra) 82] w38 → WA Tryz.prog 195 87 R K195_0 (fun w_ => Sep w [box b3 kvF34_2 213, box b2 (vlL tb rb) 82, box b1 (vlL ta ra) 82] w_) 3 #[true, true, true, true, true, false, false, false] [(6, pv b3), (11, pv b4), (81, .agg (wvA (-((numF ta ra) * ((tb).gDen))))), (83, .agg (wvA ((numF tb rb) * ((ta).gDen))))] w38 := by
   intro w38 S38
   refine WA.all [5] (by kernel_rfl) rfl ⟨?_, trivial⟩
   refine WO.set #[true, true, true, true, true, true, false, false] (by kernel_rfl) ?_
   refine WO.callF 84 198 #[.agg (wvA ((numF tb rb) * ((ta).gDen)))] hb198 (by kernel_rfl) (wminus_any ((numF tb rb) * ((ta).gDen)) _) ?_
   rintro _ w39 ⟨rfl, T1⟩
   have S39 : Sep w [box b4 (exL ((numF ta ra) * ((tb).gDen)) ((numF tb rb) * ((ta).gDen))) 213, box b3 kvF34_2 213, box b2 (vlL tb rb) 82, box b1 (vlL ta ra) 82] w39 := S38.trans T1
   refine WB.mk (S39.erase 0) ?_
   refine WA.take 6 85 (.agg (exA (-((numF ta ra) * ((tb).gDen))) (-((numF tb rb) * ((ta).gDen))))) #[true, true, true, true, true, true, true, false] (by kernel_rfl) (by kernel_rfl) (by kernel_rfl) (fun _ _ => by kernel_rfl) (by kernel_rfl) ?_
   refine WA.weaken (env' := [(6, pv b3), (11, pv b4), (85, .agg (exA (-((numF ta ra) * ((tb).gDen))) (-((numF tb rb) * ((ta).gDen)))))]) (by kernel_rfl) ?_
   exact W2 w39 S39
  have W4 : ∀ (w40 : World), Sep w [box b4 (exL ((numF ta ra) * ((tb).gDen)) ((numF tb rb) * ((ta).gDen))) 213, box b3 kvF34_2 213, box b2 (vlL tb rb) 82, box b1 (vlL ta ra) 82] w40 → WA Tryz.prog 195 87 R K195_0 (fun w_ => Sep w [box b3 kvF34_2 213, box b2 (vlL tb rb) 82, box b1 (vlL ta ra) 82] w_) 4 #[true, true, false, true, true, false, false, false] [(6, pv b3), (11, pv b4), (80, .agg (wvA ((numF ta ra) * ((tb).gDen)))), (83, .agg (wvA ((numF tb rb) * ((ta).gDen))))] w40 := by
   intro w40 S40
   refine WA.all [2] (by kernel_rfl) rfl ⟨?_, trivial⟩
   refine WO.set #[true, true, true, true, true, false, false, false] (by kernel_rfl) ?_
   refine WO.callF 81 198 #[.agg (wvA ((numF ta ra) * ((tb).gDen)))] hb198 (by kernel_rfl) (wminus_any ((numF ta ra) * ((tb).gDen)) _) ?_
   rintro _ w41 ⟨rfl, T2⟩
   have S41 : Sep w [box b4 (exL ((numF ta ra) * ((tb).gDen)) ((numF tb rb) * ((ta).gDen))) 213, box b3 kvF34_2 213, box b2 (vlL tb rb) 82, box b1 (vlL ta ra) 82] w41 := S40.trans T2
   refine WB.mk (S41.erase 0) ?_
   refine WA.weaken (env' := [(6, pv b3), (11, pv b4), (81, .agg (wvA (-((numF ta ra) * ((tb).gDen))))), (83, .agg (wvA ((numF tb rb) * ((ta).gDen))))]) (by kernel_rfl) ?_
   exact W3 w41 S41
  have W5 : ∀ (w42 : World), Sep w [box b4 (exL ((numF ta ra) * ((tb).gDen)) ((numF tb rb) * ((ta).gDen))) 213, box b3 kvF34_2 213, box b2 (vlL tb rb) 82, box b1 (vlL ta ra) 82] w42 → WA Tryz.prog 195 87 R K195_0 (fun w_ => Sep w [box b3 kvF34_2 213, box b2 (vlL tb rb) 82, box b1 (vlL ta ra) 82] w_) 4 #[true, true, true, true, false, false, false, false] [(6, pv b3), (11, pv b4), (81, .agg (wvA (-((numF ta ra) * ((tb).gDen))))), (82, .pointer (some ⟨b4, 2, none⟩))] w42 := by
   intro w42 S42
   refine WA.all [4] (by kernel_rfl) rfl ⟨?_, trivial⟩
   refine WO.set #[true, true, true, true, true, false, false, false] (by kernel_rfl) ?_
   refine WO.ok (OK.ldBox S42 0 83 183 2 (.agg (wvA ((numF tb rb) * ((ta).gDen)))) (by kernel_rfl) rfl (by kernel_rfl)) ?_
   refine WB.mk (S42.erase 0) ?_
   refine WA.weaken (env' := [(6, pv b3), (11, pv b4), (81, .agg (wvA (-((numF ta ra) * ((tb).gDen))))), (83, .agg (wvA ((numF tb rb) * ((ta).gDen))))]) (by kernel_rfl) ?_
   exact W3 w42 S42
  have W6 : ∀ (w43 : World), Sep w [box b4 (exL ((numF ta ra) * ((tb).gDen)) ((numF tb rb) * ((ta).gDen))) 213, box b3 kvF34_2 213, box b2 (vlL tb rb) 82, box b1 (vlL ta ra) 82] w43 → WA Tryz.prog 195 87 R K195_0 (fun w_ => Sep w [box b3 kvF34_2 213, box b2 (vlL tb rb) 82, box b1 (vlL ta ra) 82] w_) 5 #[true, true, false, true, false, false, false, false] [(6, pv b3), (11, pv b4), (80, .agg (wvA ((numF ta ra) * ((tb).gDen)))), (82, .pointer (some ⟨b4, 2, none⟩))] w43 := by
   intro w43 S43
   refine WA.all [2, 4] (by kernel_rfl) rfl ⟨?_, ?_, trivial⟩
   ·skip
    refine WO.set #[true, true, true, true, false, false, false, false] (by kernel_rfl) ?_
    refine WO.callF 81 198 #[.agg (wvA ((numF ta ra) * ((tb).gDen)))] hb198 (by kernel_rfl) (wminus_any ((numF ta ra) * ((tb).gDen)) _) ?_
    rintro _ w44 ⟨rfl, T3⟩
    have S44 : Sep w [box b4 (exL ((numF ta ra) * ((tb).gDen)) ((numF tb rb) * ((ta).gDen))) 213, box b3 kvF34_2 213, box b2 (vlL tb rb) 82, box b1 (vlL ta ra) 82] w44 := S43.trans T3
    refine WB.mk (S44.erase 0) ?_
    refine WA.weaken (env' := [(6, pv b3), (11, pv b4), (81, .agg (wvA (-((numF ta ra) * ((tb).gDen))))), (82, .pointer (some ⟨b4, 2, none⟩))]) (by kernel_rfl) ?_
    exact W5 w44 S44
   refine WO.set #[true, true, false, true, true, false, false, false] (by kernel_rfl) ?_
   refine WO.ok (OK.ldBox S43 0 83 183 2 (.agg (wvA ((numF tb rb) * ((ta).gDen)))) (by kernel_rfl) rfl (by kernel_rfl)) ?_
   refine WB.mk (S43.erase 0) ?_
   refine WA.weaken (env' := [(6, pv b3), (11, pv b4), (80, .agg (wvA ((numF ta ra) * ((tb).gDen)))), (83, .agg (wvA ((numF tb rb) * ((ta).gDen))))]) (by kernel_rfl) ?_
   exact W4 w43 S43
  have W7 : ∀ (w45 : World), Sep w [box b4 (exL ((numF ta ra) * ((tb).gDen)) ((numF tb rb) * ((ta).gDen))) 213, box b3 kvF34_2 213, box b2 (vlL tb rb) 82, box b1 (vlL ta ra) 82] w45 → WA Tryz.prog 195 87 R K195_0 (fun w_ => Sep w [box b3 kvF34_2 213, box b2 (vlL tb rb) 82, box b1 (vlL ta ra) 82] w_) 5 #[true, false, false, true, true, false, false, false] [(6, pv b3), (11, pv b4), (79, pv b4), (83, .agg (wvA ((numF tb rb) * ((ta).gDen))))] w45 := by
   intro w45 S45
   refine WA.all [1] (by kernel_rfl) rfl ⟨?_, trivial⟩
   refine WO.set #[true, true, false, true, true, false, false, false] (by kernel_rfl) ?_
   refine WO.ok (OK.ldBox S45 0 80 183 0 (.agg (wvA ((numF ta ra) * ((tb).gDen)))) (by kernel_rfl) rfl (by kernel_rfl)) ?_
   refine WB.mk (S45.erase 0) ?_
   refine WA.weaken (env' := [(6, pv b3), (11, pv b4), (80, .agg (wvA ((numF ta ra) * ((tb).gDen)))), (83, .agg (wvA ((numF tb rb) * ((ta).gDen))))]) (by kernel_rfl) ?_
   exact W4 w45 S45
  have W8 : ∀ (w46 : World), Sep w [box b4 (exL ((numF ta ra) * ((tb).gDen)) ((numF tb rb) * ((ta).gDen))) 213, box b3 kvF34_2 213, box b2 (vlL tb rb) 82, box b1 (vlL ta ra) 82] w46 → WA Tryz.prog 195 87 R K195_0 (fun w_ => Sep w [box b3 kvF34_2 213, box b2 (vlL tb rb) 82, box b1 (vlL ta ra) 82] w_) 6 #[true, false, false, true, false, false, false, false] [(6, pv b3), (11, pv b4), (79, pv b4), (82, .pointer (some ⟨b4, 2, none⟩))] w46 := by
   intro w46 S46
   refine WA.all [1, 4] (by kernel_rfl) rfl ⟨?_, ?_, trivial⟩
   ·skip
    refine WO.set #[true, true, false, true, false, false, false, false] (by kernel_rfl) ?_
    refine WO.ok (OK.ldBox S46 0 80 183 0 (.agg (wvA ((numF ta ra) * ((tb).gDen)))) (by kernel_rfl) rfl (by kernel_rfl)) ?_
    refine WB.mk (S46.erase 0) ?_
    refine WA.weaken (env' := [(6, pv b3), (11, pv b4), (80, .agg (wvA ((numF ta ra) * ((tb).gDen)))), (82, .pointer (some ⟨b4, 2, none⟩))]) (by kernel_rfl) ?_
    exact W6 w46 S46
   refine WO.set #[true, false, false, true, true, false, false, false] (by kernel_rfl) ?_
   refine WO.ok (OK.ldBox S46 0 83 183 2 (.agg (wvA ((numF tb rb) * ((ta).gDen)))) (by kernel_rfl) rfl (by kernel_rfl)) ?_
   refine WB.mk (S46.erase 0) ?_
   refine WA.weaken (env' := [(6, pv b3), (11, pv b4), (79, pv b4), (83, .agg (wvA ((numF tb rb) * ((ta).gDen))))]) (by kernel_rfl) ?_
   exact W7 w46 S46
  refine J.drawAny (fun w_ => Sep w [box b3 kvF34_2 213, box b2 (vlL tb rb) 82, box b1 (vlL ta ra) 82] w_) S33 8 #[false, false, false, false, false, false, false, false] Tryz.mixed (by kernel_rfl) (by kernel_rfl) (by kernel_rfl) ?_
  intro w47 S47
  refine WB.mk (S47.erase 0) ?_
  refine WA.take 0 79 (pv b4) #[true, false, false, false, false, false, false, false] (by kernel_rfl) (by kernel_rfl) (by kernel_rfl) (fun _ _ => by kernel_rfl) (by kernel_rfl) ?_
  refine WA.take 3 82 (.pointer (some ⟨b4, 2, none⟩)) #[true, false, false, true, false, false, false, false] (by kernel_rfl) (by kernel_rfl) (by kernel_rfl) (fun _ _ => by kernel_rfl) (by kernel_rfl) ?_
  refine WA.weaken (env' := [(6, pv b3), (11, pv b4), (79, pv b4), (82, .pointer (some ⟨b4, 2, none⟩))]) (by kernel_rfl) ?_
  exact W8 w47 S47
 refine J.lb 4 [false] [] [] S33 0 rfl 86 (.agg (exA ((numF ta ra) * ((tb).gDen)) ((numF tb rb) * ((ta).gDen)))) ?_
 refine J.sb 0 [] [] [] S33 1 rfl (exL ((numF ta ra) * ((tb).gDen)) ((numF tb rb) * ((ta).gDen))) rfl fun w48 S48 => ?_
 refine J.ez 1 [.agg (exA ((numF ta ra) * ((tb).gDen)) ((numF tb rb) * ((ta).gDen)))] Tryz.func195 (bk (S48.nth 1 rfl) bn) (hR _ _ ?_)
 have e1 : cmN op (numF ta ra) ta.gDen (numF tb rb) tb.gDen = (numF ta ra) * ((tb).gDen) := by unfold cmN; (repeat first | rw [if_pos (by omega)] | rw [if_neg (by omega)])
 have e2 : cmD op ta.gDen (numF tb rb) tb.gDen = (numF tb rb) * ((ta).gDen) := by unfold cmD; (repeat first | rw [if_pos (by omega)] | rw [if_neg (by omega)])
 exact ⟨by rw [e1, e2]; rfl, S48.nil⟩

theorem hb193 : HasBody Tryz.prog 193 := fun _ _ => by kernel_rfl
def K193_0 := adv 7 [] (bodyOf Tryz.f193)
def K193_1 := adv 23 [] (rRest (adv 7 [] (bodyOf Tryz.f193)))
theorem result_any (n d : Int) (t : Fxd) (w : World) (ht : fxdQ w t) (ft : fixB t = true) (hc : okC n d) : Ret Tryz.prog 193 #[.agg (exA n d), .agg (fxdA t)] w (fun v w' => v = .agg (vlA t (resT n d t)) ∧ Sep w [] w') := by
 refine Ret.st (N := 56) Tryz.func193 fun R hR S0 => ?_
 obtain ⟨q1, q2, q3, q4, q5, q6, q7, q8, q9, _⟩ := id ht
 have hfp := fixB_iff.1 ft
 have hlim := lim_bd t
 have hr1 := mul_bi (x := n) (y := t.gDen) 40564819207303340847894502572032 1048576 (by omega) (by omega)
 have hr2 := mul_bi (x := d) (y := 0 - t.gOff) 9444732965739290427392 1073741824 (by omega) (by omega)
 have hr3 := mul_bi (x := d) (y := t.gNum) 9444732965739290427392 1048576 (by omega) (by omega)
 have hr4 := prod_pos (x := d) (y := t.gNum) (by omega) (by omega)
 have hst := fun m : Int => search_step (u := d * t.gNum) (tw := (n * t.gDen + d * (0 - t.gOff)) * 2) (m := m) (by omega)
 have hqd : qF n d t = ((n * t.gDen + d * (0 - t.gOff)) * 2 + d * t.gNum) / (2 * (d * t.gNum)) := rfl
 refine J.nw 2 [] [] [] S0 2 (exL n d) 213 fun b1 w1 S1 => ?_
 refine J.nw 0 [] [] [] S1 3 (fxdC t) 75 fun b2 w2 S2 => ?_
 refine J.nw 0 [] [] [] S2 4 kvF34_1 82 fun b3 w3 S3 => ?_
 refine J.r 2 [] [] [] ?_
 have W1 : ∀ (bd13 : Nat) (w4 : World), Sep w [box bd13 (wvL (((n * t.gDen) + (d * (0 - t.gOff))) * 2)) 183, box b3 kvF34_1 82, box b2 (fxdC t) 75, box b1 (exL n d) 213] w4 → WA Tryz.prog 193 56 R K193_0 (fun w_ => Sep w [box b3 kvF34_1 82, box b2 (fxdC t) 75, box b1 (exL n d) 213] w_) 0 #[true, true, true, true, true, true, true, true, true, true, true, true, true, true, true] [(2, pv b1), (3, pv b2), (4, pv b3), (5, pv bd13)] w4 := by
  intro bd13 w4 S4
  refine WA.done (by kernel_rfl) ?_
  refine J.lb 3 [] [] [] S4 3 rfl 24 (.agg (wvA d)) ?_
  refine J.lb 1 [] [] [] S4 2 rfl 26 (iv t.gNum) ?_
  refine J.c0 0 [] [] [] S4 27 hb166 (wtimes_any d t.gNum _ (by constructor <;> omega) (by omega)) fun w5 S5 => ?_
  refine J.nw 0 [] [] [] S5 6 [.int .u64 0, .int .u64 0] 183 fun b4 w6 S6 => ?_
  refine J.sb 0 [] [] [] S6 0 rfl (wvL (d * t.gNum)) rfl fun w7 S7 => ?_
  refine J.lb 3 [] [] [] S7 3 rfl 29 (.agg (fxdA t)) ?_
  refine J.c0 0 [] [] [] S7 30 hb160 (lim_any t _ (fxdQ_sep ht S7)) fun w8 S8 => ?_
  have hlim := lim_bd (t)
  have L193_1 : ∀ (mm_ : Nat) (lo : Int) (hi : Int) (w9 : World), (limLo t ≤ lo ∧ lo ≤ hi ∧ hi ≤ limHi t) → (min (max (qF n d t) lo) hi = resT n d t) → Sep w [box b4 (wvL (d * t.gNum)) 183, box bd13 (wvL (((n * t.gDen) + (d * (0 - t.gOff))) * 2)) 183, box b3 kvF34_1 82, box b2 (fxdC t) 75, box b1 (exL n d) 213] w9 → (hi - lo).toNat = mm_ → J Tryz.prog 193 56 R K193_1 [(8, iv hi), (7, iv lo), (6, pv b4), (3, pv b2), (4, pv b3), (5, pv bd13)] w9 := by
   intro mm1
   induction mm1 using Nat.strongRecOn with
   | _ mm1 ih1 =>
   intro lo hi w9 h0 hq S9 hm1
   refine J.c 7 [] [] [] 35 (lo < hi) (fun fk1 => ?_) fun fk1 => ?_
   ·skip
    refine J.wi 9 [true] [(36, iv lo)] [] 39 (hi - lo) ?_
    refine J.wi 1 [] [] [] 40 ((hi - lo) + 1) ?_
    refine J.h 1 [] [] [] 41 (iv (IntKind.wrap .i64 (Int.tdiv ((hi - lo) + 1) 2))) (iv (((hi - lo) + 1) / 2)) (congrArg (Value.int .i64) (IntWalk.i64_quo _ _ (by omega))) ?_
    refine J.wi 1 [] [] [] 42 (lo + (((hi - lo) + 1) / 2)) ?_
    have hmb := mul_bi (x := d * t.gNum) (y := 2 * (lo + (((hi - lo) + 1) / 2)) - 1) 9903520314283042199192993792 8589934593 (by omega) (by omega)
    have hms := hst (lo + (((hi - lo) + 1) / 2))
    refine J.r 3 [] [(9, iv (lo + (((hi - lo) + 1) / 2)))] [] ?_
    refine J.drawPlan (fun w_ => Sep w [box b4 (wvL (d * t.gNum)) 183, box bd13 (wvL (((n * t.gDen) + (d * (0 - t.gOff))) * 2)) 183, box b3 kvF34_1 82, box b2 (fxdC t) 75, box b1 (exL n d) 213] w_) [(0, true), (1, true), (2, true), (3, true), (5, true), (4, false), (6, false)] S9 Tryz.mixed (by kernel_rfl) (planOK_of (T := [(0, some 43, 64), (0, some 44, 512), (2, some 45, 17592186044416), (4, some 46, 35184372088832), (9, some 47, 79164837199872), (0, some 48, 32), (48, some 49, 422212465065984)]) (by kernel_rfl) (by kernel_rfl)) ?_
    intro w10 S10
    refine PB.mk S10 ?_
    refine PL.takeOK 0 (fun w_ S_ => OK.ldBox S_ 0 43 183 0 (.agg (wvA (d * t.gNum))) (by kernel_rfl) rfl (by kernel_rfl)) rfl ?_
    refine PL.take 1 44 (iv (lo + (((hi - lo) + 1) / 2))) (fun _ _ => by kernel_rfl) ?_
    refine PL.take 2 45 (iv (IntKind.wrap .i64 (2 * (lo + (((hi - lo) + 1) / 2))))) (fun _ _ => by kernel_rfl) ?_
    refine PL.head (iv (2 * (lo + (((hi - lo) + 1) / 2)))) (congrArg (Value.int .i64) (IntWalk.i64_in _ (by omega))) ?_
    refine PL.take 3 46 (iv (IntKind.wrap .i64 ((2 * (lo + (((hi - lo) + 1) / 2))) - 1))) (fun _ _ => by kernel_rfl) ?_
    refine PL.head (iv ((2 * (lo + (((hi - lo) + 1) / 2))) - 1)) (congrArg (Value.int .i64) (IntWalk.i64_in _ (by omega))) ?_
    refine PL.takeOK 5 (fun w_ S_ => OK.ldBox S_ 1 48 183 0 (.agg (wvA (((n * t.gDen) + (d * (0 - t.gOff))) * 2))) (by kernel_rfl) rfl (by kernel_rfl)) rfl ?_
    refine PL.callF 47 166 #[.agg (wvA (d * t.gNum)), iv ((2 * (lo + (((hi - lo) + 1) / 2))) - 1)] hb166 (by kernel_rfl) (wtimes_any (d * t.gNum) ((2 * (lo + (((hi - lo) + 1) / 2))) - 1) _ (by constructor <;> omega) (by omega)) ?_
    rintro _ w11 ⟨rfl, T1⟩
    have S11 : Sep w [box b4 (wvL (d * t.gNum)) 183, box bd13 (wvL (((n * t.gDen) + (d * (0 - t.gOff))) * 2)) 183, box b3 kvF34_1 82, box b2 (fxdC t) 75, box b1 (exL n d) 213] w11 := S10.trans T1
    refine PB.mk S11 ?_
    refine PL.callF 49 167 #[.agg (wvA ((d * t.gNum) * ((2 * (lo + (((hi - lo) + 1) / 2))) - 1))), .agg (wvA (((n * t.gDen) + (d * (0 - t.gOff))) * 2))] hb167 (by kernel_rfl) (watmost_any ((d * t.gNum) * ((2 * (lo + (((hi - lo) + 1) / 2))) - 1)) (((n * t.gDen) + (d * (0 - t.gOff))) * 2) _ (by constructor <;> omega) (by constructor <;> omega)) ?_
    rintro _ w12 ⟨rfl, T2⟩
    have S12 : Sep w [box b4 (wvL (d * t.gNum)) 183, box bd13 (wvL (((n * t.gDen) + (d * (0 - t.gOff))) * 2)) 183, box b3 kvF34_1 82, box b2 (fxdC t) 75, box b1 (exL n d) 213] w12 := S11.trans T2
    refine PB.mk S12 ?_
    refine PL.done ?_
    refine J.c 0 [] [] [] 49 (((d * t.gNum) * ((2 * (lo + (((hi - lo) + 1) / 2))) - 1)) ≤ (((n * t.gDen) + (d * (0 - t.gOff))) * 2)) (fun fk2 => ?_) fun fk2 => ?_
    ·skip
     exact J.t 7 (ih1 _ (show (hi - (lo + (((hi - lo) + 1) / 2))).toNat < mm1 from by omega) (lo + (((hi - lo) + 1) / 2)) hi w12 (by omega) (by rw [← hq]; omega) S12 rfl)
    refine J.wi 4 [false] [] [] 52 ((lo + (((hi - lo) + 1) / 2)) - 1) ?_
    exact J.t 4 (ih1 _ (show (((lo + (((hi - lo) + 1) / 2)) - 1) - lo).toNat < mm1 from by omega) lo ((lo + (((hi - lo) + 1) / 2)) - 1) w12 (by omega) (by rw [← hq]; omega) S12 rfl)
   refine J.lb 4 [false] [] [] S9 3 rfl 53 (.agg (fxdA t)) ?_
   refine J.sb 2 [] [] [] S9 2 rfl (vlL t lo) rfl fun w13 S13 => ?_
   refine J.ez 1 [.agg (vlA t lo)] Tryz.func193 (bk (S13.nth 2 rfl) bn) (hR _ _ ?_)
   have e1 : lo = resT n d t := by rw [← hq]; omega
   exact ⟨by rw [← e1]; rfl, S13.nil⟩
  exact J.t 9 (L193_1 _ (limLo t) (limHi t) w8 (by omega) (rfl) S8 rfl)
 have W2 : ∀ (bd13 : Nat) (w14 : World), Sep w [box bd13 [.int .u64 0, .int .u64 0] 183, box b3 kvF34_1 82, box b2 (fxdC t) 75, box b1 (exL n d) 213] w14 → WA Tryz.prog 193 56 R K193_0 (fun w_ => Sep w [box b3 kvF34_1 82, box b2 (fxdC t) 75, box b1 (exL n d) 213] w_) 1 #[true, true, true, true, true, true, true, true, true, true, true, true, true, true, false] [(2, pv b1), (3, pv b2), (4, pv b3), (5, pv bd13), (22, .agg (wvA (((n * t.gDen) + (d * (0 - t.gOff))) * 2)))] w14 := by
  intro bd13 w14 S14
  refine WA.all [14] (by kernel_rfl) rfl ⟨?_, trivial⟩
  refine WO.set #[true, true, true, true, true, true, true, true, true, true, true, true, true, true, true] (by kernel_rfl) ?_
  refine WO.stBox S14 0 183 0 (.agg (wvA (((n * t.gDen) + (d * (0 - t.gOff))) * 2))) (wvL (((n * t.gDen) + (d * (0 - t.gOff))) * 2)) [box bd13 (wvL (((n * t.gDen) + (d * (0 - t.gOff))) * 2)) 183, box b3 kvF34_1 82, box b2 (fxdC t) 75, box b1 (exL n d) 213] (by kernel_rfl) rfl (by kernel_rfl) (by kernel_rfl) rfl ?_
  intro w15 S15
  refine WB.mk (S15.erase 0) ?_
  refine WA.weaken (env' := [(2, pv b1), (3, pv b2), (4, pv b3), (5, pv bd13)]) (by kernel_rfl) ?_
  exact W1 bd13 w15 S15
 have W3 : ∀ (bd13 : Nat) (w16 : World), Sep w [box bd13 [.int .u64 0, .int .u64 0] 183, box b3 kvF34_1 82, box b2 (fxdC t) 75, box b1 (exL n d) 213] w16 → WA Tryz.prog 193 56 R K193_0 (fun w_ => Sep w [box b3 kvF34_1 82, box b2 (fxdC t) 75, box b1 (exL n d) 213] w_) 2 #[true, true, true, true, true, true, true, true, true, true, true, true, false, true, false] [(2, pv b1), (3, pv b2), (4, pv b3), (5, pv bd13), (21, .agg (wvA ((n * t.gDen) + (d * (0 - t.gOff)))))] w16 := by
  intro bd13 w16 S16
  refine WA.all [12] (by kernel_rfl) rfl ⟨?_, trivial⟩
  refine WO.set #[true, true, true, true, true, true, true, true, true, true, true, true, true, true, false] (by kernel_rfl) ?_
  refine WO.callF 22 166 #[.agg (wvA ((n * t.gDen) + (d * (0 - t.gOff)))), iv 2] hb166 (by kernel_rfl) (wtimes_any ((n * t.gDen) + (d * (0 - t.gOff))) 2 _ (by constructor <;> omega) (by omega)) ?_
  rintro _ w17 ⟨rfl, T3⟩
  have S17 : Sep w [box bd13 [.int .u64 0, .int .u64 0] 183, box b3 kvF34_1 82, box b2 (fxdC t) 75, box b1 (exL n d) 213] w17 := S16.trans T3
  refine WB.mk (S17.erase 0) ?_
  refine WA.weaken (env' := [(2, pv b1), (3, pv b2), (4, pv b3), (5, pv bd13), (22, .agg (wvA (((n * t.gDen) + (d * (0 - t.gOff))) * 2)))]) (by kernel_rfl) ?_
  exact W2 bd13 w17 S17
 have W4 : ∀ (w18 : World), Sep w [box b3 kvF34_1 82, box b2 (fxdC t) 75, box b1 (exL n d) 213] w18 → WA Tryz.prog 193 56 R K193_0 (fun w_ => Sep w [box b3 kvF34_1 82, box b2 (fxdC t) 75, box b1 (exL n d) 213] w_) 2 #[true, true, true, true, true, true, true, true, true, true, true, true, true, false, false] [(2, pv b1), (3, pv b2), (4, pv b3), (22, .agg (wvA (((n * t.gDen) + (d * (0 - t.gOff))) * 2)))] w18 := by
  intro w18 S18
  refine WA.all [13] (by kernel_rfl) rfl ⟨?_, trivial⟩
  refine WO.set #[true, true, true, true, true, true, true, true, true, true, true, true, true, true, false] (by kernel_rfl) ?_
  refine WO.new S18 5 [.int .u64 0, .int .u64 0] 183 (by kernel_rfl) ?_
  intro bd13 w19 S19
  refine WB.mk (S19.erase 0) ?_
  refine WA.weaken (env' := [(2, pv b1), (3, pv b2), (4, pv b3), (5, pv bd13), (22, .agg (wvA (((n * t.gDen) + (d * (0 - t.gOff))) * 2)))]) (by kernel_rfl) ?_
  exact W2 bd13 w19 S19
 have W5 : ∀ (bd13 : Nat) (w20 : World), Sep w [box bd13 [.int .u64 0, .int .u64 0] 183, box b3 kvF34_1 82, box b2 (fxdC t) 75, box b1 (exL n d) 213] w20 → WA Tryz.prog 193 56 R K193_0 (fun w_ => Sep w [box b3 kvF34_1 82, box b2 (fxdC t) 75, box b1 (exL n d) 213] w_) 3 #[true, true, true, true, true, true, true, true, true, true, true, false, false, true, false] [(2, pv b1), (3, pv b2), (4, pv b3), (5, pv bd13), (14, .agg (wvA (n * t.gDen))), (20, .agg (wvA (d * (0 - t.gOff))))] w20 := by
  intro bd13 w20 S20
  refine WA.all [11] (by kernel_rfl) rfl ⟨?_, trivial⟩
  refine WO.set #[true, true, true, true, true, true, true, true, true, true, true, true, false, true, false] (by kernel_rfl) ?_
  refine WO.callF 21 217 #[.agg (wvA (n * t.gDen)), .agg (wvA (d * (0 - t.gOff)))] hb217 (by kernel_rfl) (wadd_any (n * t.gDen) (d * (0 - t.gOff)) _) ?_
  rintro _ w21 ⟨rfl, T4⟩
  have S21 : Sep w [box bd13 [.int .u64 0, .int .u64 0] 183, box b3 kvF34_1 82, box b2 (fxdC t) 75, box b1 (exL n d) 213] w21 := S20.trans T4
  refine WB.mk (S21.erase 0) ?_
  refine WA.weaken (env' := [(2, pv b1), (3, pv b2), (4, pv b3), (5, pv bd13), (21, .agg (wvA ((n * t.gDen) + (d * (0 - t.gOff)))))]) (by kernel_rfl) ?_
  exact W3 bd13 w21 S21
 have W6 : ∀ (w22 : World), Sep w [box b3 kvF34_1 82, box b2 (fxdC t) 75, box b1 (exL n d) 213] w22 → WA Tryz.prog 193 56 R K193_0 (fun w_ => Sep w [box b3 kvF34_1 82, box b2 (fxdC t) 75, box b1 (exL n d) 213] w_) 3 #[true, true, true, true, true, true, true, true, true, true, true, true, false, false, false] [(2, pv b1), (3, pv b2), (4, pv b3), (21, .agg (wvA ((n * t.gDen) + (d * (0 - t.gOff)))))] w22 := by
  intro w22 S22
  refine WA.all [12, 13] (by kernel_rfl) rfl ⟨?_, ?_, trivial⟩
  ·skip
   refine WO.set #[true, true, true, true, true, true, true, true, true, true, true, true, true, false, false] (by kernel_rfl) ?_
   refine WO.callF 22 166 #[.agg (wvA ((n * t.gDen) + (d * (0 - t.gOff)))), iv 2] hb166 (by kernel_rfl) (wtimes_any ((n * t.gDen) + (d * (0 - t.gOff))) 2 _ (by constructor <;> omega) (by omega)) ?_
   rintro _ w23 ⟨rfl, T5⟩
   have S23 : Sep w [box b3 kvF34_1 82, box b2 (fxdC t) 75, box b1 (exL n d) 213] w23 := S22.trans T5
   refine WB.mk S23 ?_
   refine WA.weaken (env' := [(2, pv b1), (3, pv b2), (4, pv b3), (22, .agg (wvA (((n * t.gDen) + (d * (0 - t.gOff))) * 2)))]) (by kernel_rfl) ?_
   exact W4 w23 S23
  refine WO.set #[true, true, true, true, true, true, true, true, true, true, true, true, false, true, false] (by kernel_rfl) ?_
  refine WO.new S22 5 [.int .u64 0, .int .u64 0] 183 (by kernel_rfl) ?_
  intro bd13 w24 S24
  refine WB.mk (S24.erase 0) ?_
  refine WA.weaken (env' := [(2, pv b1), (3, pv b2), (4, pv b3), (5, pv bd13), (21, .agg (wvA ((n * t.gDen) + (d * (0 - t.gOff)))))]) (by kernel_rfl) ?_
  exact W3 bd13 w24 S24
 have W7 : ∀ (bd13 : Nat) (w25 : World), Sep w [box bd13 [.int .u64 0, .int .u64 0] 183, box b3 kvF34_1 82, box b2 (fxdC t) 75, box b1 (exL n d) 213] w25 → WA Tryz.prog 193 56 R K193_0 (fun w_ => Sep w [box b3 kvF34_1 82, box b2 (fxdC t) 75, box b1 (exL n d) 213] w_) 4 #[true, true, true, true, true, true, true, true, true, true, false, false, false, true, false] [(2, pv b1), (3, pv b2), (4, pv b3), (5, pv bd13), (14, .agg (wvA (n * t.gDen))), (16, .agg (wvA d)), (19, iv (0 - t.gOff))] w25 := by
  intro bd13 w25 S25
  refine WA.all [10] (by kernel_rfl) rfl ⟨?_, trivial⟩
  refine WO.set #[true, true, true, true, true, true, true, true, true, true, true, false, false, true, false] (by kernel_rfl) ?_
  refine WO.callF 20 166 #[.agg (wvA d), iv (0 - t.gOff)] hb166 (by kernel_rfl) (wtimes_any d (0 - t.gOff) _ (by constructor <;> omega) (by omega)) ?_
  rintro _ w26 ⟨rfl, T6⟩
  have S26 : Sep w [box bd13 [.int .u64 0, .int .u64 0] 183, box b3 kvF34_1 82, box b2 (fxdC t) 75, box b1 (exL n d) 213] w26 := S25.trans T6
  refine WB.mk (S26.erase 0) ?_
  refine WA.weaken (env' := [(2, pv b1), (3, pv b2), (4, pv b3), (5, pv bd13), (14, .agg (wvA (n * t.gDen))), (20, .agg (wvA (d * (0 - t.gOff))))]) (by kernel_rfl) ?_
  exact W5 bd13 w26 S26
 have W8 : ∀ (w27 : World), Sep w [box b3 kvF34_1 82, box b2 (fxdC t) 75, box b1 (exL n d) 213] w27 → WA Tryz.prog 193 56 R K193_0 (fun w_ => Sep w [box b3 kvF34_1 82, box b2 (fxdC t) 75, box b1 (exL n d) 213] w_) 4 #[true, true, true, true, true, true, true, true, true, true, true, false, false, false, false] [(2, pv b1), (3, pv b2), (4, pv b3), (14, .agg (wvA (n * t.gDen))), (20, .agg (wvA (d * (0 - t.gOff))))] w27 := by
  intro w27 S27
  refine WA.all [11, 13] (by kernel_rfl) rfl ⟨?_, ?_, trivial⟩
  ·skip
   refine WO.set #[true, true, true, true, true, true, true, true, true, true, true, true, false, false, false] (by kernel_rfl) ?_
   refine WO.callF 21 217 #[.agg (wvA (n * t.gDen)), .agg (wvA (d * (0 - t.gOff)))] hb217 (by kernel_rfl) (wadd_any (n * t.gDen) (d * (0 - t.gOff)) _) ?_
   rintro _ w28 ⟨rfl, T7⟩
   have S28 : Sep w [box b3 kvF34_1 82, box b2 (fxdC t) 75, box b1 (exL n d) 213] w28 := S27.trans T7
   refine WB.mk S28 ?_
   refine WA.weaken (env' := [(2, pv b1), (3, pv b2), (4, pv b3), (21, .agg (wvA ((n * t.gDen) + (d * (0 - t.gOff)))))]) (by kernel_rfl) ?_
   exact W6 w28 S28
  refine WO.set #[true, true, true, true, true, true, true, true, true, true, true, false, false, true, false] (by kernel_rfl) ?_
  refine WO.new S27 5 [.int .u64 0, .int .u64 0] 183 (by kernel_rfl) ?_
  intro bd13 w29 S29
  refine WB.mk (S29.erase 0) ?_
  refine WA.weaken (env' := [(2, pv b1), (3, pv b2), (4, pv b3), (5, pv bd13), (14, .agg (wvA (n * t.gDen))), (20, .agg (wvA (d * (0 - t.gOff))))]) (by kernel_rfl) ?_
  exact W5 bd13 w29 S29
 have W9 : ∀ (w30 : World), Sep w [box b3 kvF34_1 82, box b2 (fxdC t) 75, box b1 (exL n d) 213] w30 → WA Tryz.prog 193 56 R K193_0 (fun w_ => Sep w [box b3 kvF34_1 82, box b2 (fxdC t) 75, box b1 (exL n d) 213] w_) 5 #[true, true, true, true, true, true, true, true, true, true, false, false, false, false, false] [(2, pv b1), (3, pv b2), (4, pv b3), (14, .agg (wvA (n * t.gDen))), (16, .agg (wvA d)), (19, iv (0 - t.gOff))] w30 := by
  intro w30 S30
  refine WA.all [10, 13] (by kernel_rfl) rfl ⟨?_, ?_, trivial⟩
  ·skip
   refine WO.set #[true, true, true, true, true, true, true, true, true, true, true, false, false, false, false] (by kernel_rfl) ?_
   refine WO.callF 20 166 #[.agg (wvA d), iv (0 - t.gOff)] hb166 (by kernel_rfl) (wtimes_any d (0 - t.gOff) _ (by constructor <;> omega) (by omega)) ?_
   rintro _ w31 ⟨rfl, T8⟩
   have S31 : Sep w [box b3 kvF34_1 82, box b2 (fxdC t) 75, box b1 (exL n d) 213] w31 := S30.trans T8
   refine WB.mk S31 ?_
   refine WA.weaken (env' := [(2, pv b1), (3, pv b2), (4, pv b3), (14, .agg (wvA (n * t.gDen))), (20, .agg (wvA (d * (0 - t.gOff))))]) (by kernel_rfl) ?_
   exact W8 w31 S31
  refine WO.set #[true, true, true, true, true, true, true, true, true, true, false, false, false, true, false] (by kernel_rfl) ?_
  refine WO.new S30 5 [.int .u64 0, .int .u64 0] 183 (by kernel_rfl) ?_
  intro bd13 w32 S32
  refine WB.mk (S32.erase 0) ?_
  refine WA.weaken (env' := [(2, pv b1), (3, pv b2), (4, pv b3), (5, pv bd13), (14, .agg (wvA (n * t.gDen))), (16, .agg (wvA d)), (19, iv (0 - t.gOff))]) (by kernel_rfl) ?_
  exact W7 bd13 w32 S32
 have W10 : ∀ (bd13 : Nat) (w33 : World), Sep w [box bd13 [.int .u64 0, .int .u64 0] 183, box b3 kvF34_1 82, box b2 (fxdC t) 75, box b1 (exL n d) 213] w33 → WA Tryz.prog 193 56 R K193_0 (fun w_ => Sep w [box b3 kvF34_1 82, box b2 (fxdC t) 75, box b1 (exL n d) 213] w_) 5 #[true, true, true, true, false, true, true, true, true, true, false, false, false, true, false] [(2, pv b1), (3, pv b2), (4, pv b3), (5, pv bd13), (11, .agg (wvA n)), (13, iv t.gDen), (16, .agg (wvA d)), (19, iv (0 - t.gOff))] w33 := by
  intro bd13 w33 S33
  refine WA.all [4] (by kernel_rfl) rfl ⟨?_, trivial⟩
  refine WO.set #[true, true, true, true, true, true, true, true, true, true, false, false, false, true, false] (by kernel_rfl) ?_
  refine WO.callF 14 166 #[.agg (wvA n), iv t.gDen] hb166 (by kernel_rfl) (wtimes_any n t.gDen _ (by constructor <;> omega) (by omega)) ?_
  rintro _ w34 ⟨rfl, T9⟩
  have S34 : Sep w [box bd13 [.int .u64 0, .int .u64 0] 183, box b3 kvF34_1 82, box b2 (fxdC t) 75, box b1 (exL n d) 213] w34 := S33.trans T9
  refine WB.mk (S34.erase 0) ?_
  refine WA.weaken (env' := [(2, pv b1), (3, pv b2), (4, pv b3), (5, pv bd13), (14, .agg (wvA (n * t.gDen))), (16, .agg (wvA d)), (19, iv (0 - t.gOff))]) (by kernel_rfl) ?_
  exact W7 bd13 w34 S34
 have W11 : ∀ (w35 : World), Sep w [box b3 kvF34_1 82, box b2 (fxdC t) 75, box b1 (exL n d) 213] w35 → WA Tryz.prog 193 56 R K193_0 (fun w_ => Sep w [box b3 kvF34_1 82, box b2 (fxdC t) 75, box b1 (exL n d) 213] w_) 6 #[true, true, true, true, false, true, true, true, true, true, false, false, false, false, false] [(2, pv b1), (3, pv b2), (4, pv b3), (11, .agg (wvA n)), (13, iv t.gDen), (16, .agg (wvA d)), (19, iv (0 - t.gOff))] w35 := by
  intro w35 S35
  refine WA.all [4, 13] (by kernel_rfl) rfl ⟨?_, ?_, trivial⟩
  ·skip
   refine WO.set #[true, true, true, true, true, true, true, true, true, true, false, false, false, false, false] (by kernel_rfl) ?_
   refine WO.callF 14 166 #[.agg (wvA n), iv t.gDen] hb166 (by kernel_rfl) (wtimes_any n t.gDen _ (by constructor <;> omega) (by omega)) ?_
   rintro _ w36 ⟨rfl, T10⟩
   have S36 : Sep w [box b3 kvF34_1 82, box b2 (fxdC t) 75, box b1 (exL n d) 213] w36 := S35.trans T10
   refine WB.mk S36 ?_
   refine WA.weaken (env' := [(2, pv b1), (3, pv b2), (4, pv b3), (14, .agg (wvA (n * t.gDen))), (16, .agg (wvA d)), (19, iv (0 - t.gOff))]) (by kernel_rfl) ?_
   exact W9 w36 S36
  refine WO.set #[true, true, true, true, false, true, true, true, true, true, false, false, false, true, false] (by kernel_rfl) ?_
  refine WO.new S35 5 [.int .u64 0, .int .u64 0] 183 (by kernel_rfl) ?_
  intro bd13 w37 S37
  refine WB.mk (S37.erase 0) ?_
  refine WA.weaken (env' := [(2, pv b1), (3, pv b2), (4, pv b3), (5, pv bd13), (11, .agg (wvA n)), (13, iv t.gDen), (16, .agg (wvA d)), (19, iv (0 - t.gOff))]) (by kernel_rfl) ?_
  exact W10 bd13 w37 S37
 refine J.drawAny (fun w_ => Sep w [box b3 kvF34_1 82, box b2 (fxdC t) 75, box b1 (exL n d) 213] w_) S3 15 #[false, false, false, false, false, false, false, false, false, false, false, false, false, false, false] Tryz.mixed (by kernel_rfl) (by kernel_rfl) (by kernel_rfl) ?_
 intro w38 S38
 refine WB.mk S38 ?_
 refine WA.take 0 10 (pv b1) #[true, false, false, false, false, false, false, false, false, false, false, false, false, false, false] (by kernel_rfl) (by kernel_rfl) (by kernel_rfl) (fun _ _ => by kernel_rfl) (by kernel_rfl) ?_
 refine WA.takeOK 1 #[true, true, false, false, false, false, false, false, false, false, false, false, false, false, false] (by kernel_rfl) (by kernel_rfl) (by kernel_rfl) (by kernel_rfl) (fun w_ S_ => OK.ldBox S_ 2 11 183 0 (.agg (wvA n)) (by kernel_rfl) rfl (by kernel_rfl)) rfl ?_
 refine WA.take 2 12 (.pointer (some ⟨b2, 4, none⟩)) #[true, true, true, false, false, false, false, false, false, false, false, false, false, false, false] (by kernel_rfl) (by kernel_rfl) (by kernel_rfl) (fun _ _ => by kernel_rfl) (by kernel_rfl) ?_
 refine WA.takeOK 3 #[true, true, true, true, false, false, false, false, false, false, false, false, false, false, false] (by kernel_rfl) (by kernel_rfl) (by kernel_rfl) (by kernel_rfl) (fun w_ S_ => OK.ldBox S_ 1 13 3 4 (iv t.gDen) (by kernel_rfl) rfl (by kernel_rfl)) rfl ?_
 refine WA.take 5 15 (.pointer (some ⟨b1, 2, none⟩)) #[true, true, true, true, false, true, false, false, false, false, false, false, false, false, false] (by kernel_rfl) (by kernel_rfl) (by kernel_rfl) (fun _ _ => by kernel_rfl) (by kernel_rfl) ?_
 refine WA.takeOK 6 #[true, true, true, true, false, true, true, false, false, false, false, false, false, false, false] (by kernel_rfl) (by kernel_rfl) (by kernel_rfl) (by kernel_rfl) (fun w_ S_ => OK.ldBox S_ 2 16 183 2 (.agg (wvA d)) (by kernel_rfl) rfl (by kernel_rfl)) rfl ?_
 refine WA.take 7 17 (.pointer (some ⟨b2, 3, none⟩)) #[true, true, true, true, false, true, true, true, false, false, false, false, false, false, false] (by kernel_rfl) (by kernel_rfl) (by kernel_rfl) (fun _ _ => by kernel_rfl) (by kernel_rfl) ?_
 refine WA.takeOK 8 #[true, true, true, true, false, true, true, true, true, false, false, false, false, false, false] (by kernel_rfl) (by kernel_rfl) (by kernel_rfl) (by kernel_rfl) (fun w_ S_ => OK.ldBox S_ 1 18 3 3 (iv t.gOff) (by kernel_rfl) rfl (by kernel_rfl)) rfl ?_
 refine WA.take 9 19 (iv (IntKind.wrap .i64 (0 - t.gOff))) #[true, true, true, true, false, true, true, true, true, true, false, false, false, false, false] (by kernel_rfl) (by kernel_rfl) (by kernel_rfl) (fun _ _ => by kernel_rfl) (by kernel_rfl) ?_
 refine WA.head (iv (0 - t.gOff)) (congrArg (Value.int .i64) (IntWalk.i64_in _ (by omega))) ?_
 refine WA.weaken (env' := [(2, pv b1), (3, pv b2), (4, pv b3), (11, .agg (wvA n)), (13, iv t.gDen), (16, .agg (wvA d)), (19, iv (0 - t.gOff))]) (by kernel_rfl) ?_
 exact W11 w38 S38

end
end Go.Proofs.YtaoolgcddapegaaGreatDoor

