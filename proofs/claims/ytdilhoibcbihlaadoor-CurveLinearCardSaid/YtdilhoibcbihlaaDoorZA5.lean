/- Walks of functions of this seat, printed by a program over the engine. Conditions: as each theorem says. -/
import Derived.Test.YtdilhoibcbihlaaDoorZA2
namespace Go.Proofs.YtdilhoibcbihlaaDoor
open Go.Eng Go.RowKit
set_option linter.unusedSimpArgs false
set_option linter.unusedVariables false
def gcdF (a b : Int) : Int := if 9223372036854775808 ≤ (Nat.gcd a.natAbs b.natAbs : Int) then 0 else (Nat.gcd a.natAbs b.natAbs : Int)
theorem gcd_start (a b : Int) : Nat.gcd (magF a).toNat (magF b).toNat = Nat.gcd a.natAbs b.natAbs := by unfold magF; rfl
theorem gcd_step {x y : Int} {G : Nat} (hx : 0 ≤ x) (hy : 0 < y) (h : Nat.gcd x.toNat y.toNat = G) : Nat.gcd y.toNat (x % y).toNat = G := by
  rw [Int.toNat_emod hx (by omega), Nat.gcd_comm, ← Nat.gcd_rec, Nat.gcd_comm]; exact h
theorem gcd_end {x y : Int} {G : Nat} (hx : 0 ≤ x) (hy : y = 0) (h : Nat.gcd x.toNat y.toNat = G) : x = (G : Int) := by
  subst hy; simp at h; omega
theorem mod_bd {x y : Int} (h : 0 < y) : 0 ≤ x % y ∧ x % y < y := ⟨Int.emod_nonneg _ (by omega), Int.emod_lt_of_pos _ h⟩
theorem ediv_bd {x d : Int} (hd : 1 ≤ d) (hx : -9223372036854775808 ≤ x ∧ x ≤ 9223372036854775808) (h : x ≤ 9223372036854775807 ∨ 2 ≤ d) : -9223372036854775808 ≤ x / d ∧ x / d ≤ 9223372036854775807 := by
  have h1 := Int.ediv_mul_le x (show d ≠ 0 by omega)
  have h2 : x < (x / d + 1) * d := Int.lt_ediv_add_one_mul_self x (by omega)
  constructor
  · rcases (show 0 ≤ x / d ∨ x / d ≤ -1 by omega) with h3 | h3
    · omega
    · have := Int.mul_le_mul_of_nonpos_left (a := x / d + 1) (b := d) (c := 1) (by omega) hd
      omega
  · rcases (show x / d ≤ 0 ∨ 1 ≤ x / d by omega) with h3 | h3
    · omega
    · rcases h with h | h
      · have := Int.mul_le_mul_of_nonneg_left hd (show 0 ≤ x / d by omega); omega
      · have := Int.mul_le_mul_of_nonneg_left h (show 0 ≤ x / d by omega); omega
theorem floor_val {a b : Int} (ha : -9223372036854775808 ≤ a ∧ a ≤ 9223372036854775807) (hb : b ≠ 0 ∧ b ≠ -1) : mdX a 1 b 1 = if b < 0 then (-a) / (-b) else a / b := by
  have e : mulDivR a 1 b 1 = if b < 0 then (-a) / (-b) else a / b := by
    unfold mulDivR rndQ; simp
  have hf : fitsB (mulDivR a 1 b 1) = true := by
    rw [e]; unfold fitsB
    split
    · have := ediv_bd (x := -a) (d := -b) (by omega) (by omega) (by omega); simp only [Bool.and_eq_true, decide_eq_true_eq]; exact this
    · have := ediv_bd (x := a) (d := b) (by omega) (by omega) (by omega); simp only [Bool.and_eq_true, decide_eq_true_eq]; exact this
  unfold mdX
  rw [if_neg (by omega), if_neg hb.1, if_pos hf, e]
theorem md_same {a b m : Int} (ha : -9223372036854775808 ≤ a ∧ a ≤ 9223372036854775807) (hb : b ≠ 0) (hm : 1 ≤ m ∧ m ≤ 3) : mdX a b b m = a ∧ mdE a b b m = 0 := by
  have key : ∀ d, 0 < d → rndQ (a * d) d m = a := fun d hd => by
    have h1 : a * d / d = a := Int.mul_ediv_cancel _ (by omega)
    have h2 : -(a * d) / d = -a := by rw [← Int.neg_mul]; exact Int.mul_ediv_cancel _ (by omega)
    have h3 : (2 * (a * d) + d) / (2 * d) = a := ediv_of (by omega) (by rw [show a * (2 * d) = 2 * (a * d) by grind]; omega) (by rw [show a * (2 * d) = 2 * (a * d) by grind]; omega)
    unfold rndQ; rw [h1, h2, h3]; split; · rfl
    split <;> omega
  have e : mulDivR a b b m = a := by
    unfold mulDivR
    split
    · rw [← Int.mul_neg]; exact key _ (by omega)
    · exact key _ (by omega)
  have hf : fitsB (mulDivR a b b m) = true := by rw [e]; simp only [fitsB, Bool.and_eq_true, decide_eq_true_eq]; exact ha
  unfold mdX mdE
  rw [if_neg (by omega), if_neg hb, if_pos hf, if_neg (by omega), if_neg hb, if_pos hf, e]
  exact ⟨rfl, rfl⟩
theorem hb30 : HasBody Tryd.prog 30 := fun _ _ => by kernel_rfl
noncomputable def K30_0 : List Item := adv 10 [] (bodyOf Tryd.f30)
noncomputable def K30_1 : List Item := adv 5 [] (popK K30_0)
set_option maxRecDepth 20000 in
set_option maxHeartbeats 20000000 in
theorem div_any (a b m : Int) (w : World) (ha : (-9223372036854775808) ≤ a ∧ a ≤ 9223372036854775807) (hb : (-9223372036854775808) ≤ b ∧ b ≤ 9223372036854775807) : Ret Tryd.prog 30 #[.int .i64 a, .int .i64 b, .int .i64 m] w (fun v w' => v = .tuple #[.int .i64 (mdX a 1 b m), .int .i64 (mdE a 1 b m)] ∧ Sep w [] w') := by
  have S0 := Sep.refl w
  refine Ret.named fun R hR => ?_
  refine Ret.of_J (N := 14) [(0, .int .i64 a), (1, .int .i64 b), (2, .int .i64 m)] Tryd.func30 rfl rfl (Nat.le_of_ble_eq_true (by kernel_rfl)) (by kernel_rfl) ?_
  refine J.run 10 K30_0 [(10, .int .i64 m), (9, .int .i64 b), (8, .int .i64 a)] w (by kernel_rfl) ?_
  refine J.callF 11 50 #[.int .i64 a, .int .i64 1, .int .i64 b, .int .i64 m] hb50 (by kernel_rfl) (muldiv_any a 1 b m _ (by omega) (by omega) (by omega)) ?_
  rintro _ w1 ⟨rfl, T1⟩
  have S1 : Sep w [] w1 := S0.trans T1
  clear T1
  have := mdX_bounds a 1 b m
  refine J.run 5 K30_1 [(7, .int .i64 (mdE a 1 b m)), (6, .int .i64 (mdX a 1 b m))] w1 (by kernel_rfl) ?_
  refine J.ret Tryd.f30 [.int .i64 (mdX a 1 b m), .int .i64 (mdE a 1 b m)] Tryd.func30 ⟨by kernel_rfl, by kernel_rfl, trivial⟩ ?_
  refine hR _ _ ?_
  exact ⟨rfl, S1.nil⟩

theorem hb55 : HasBody Tryd.prog 55 := fun _ _ => by kernel_rfl
noncomputable def K55_0 : List Item := adv 8 [] (bodyOf Tryd.f55)
noncomputable def K55_1 : List Item := adv 11 [] (popK K55_0)
set_option maxRecDepth 20000 in
set_option maxHeartbeats 20000000 in
theorem floor_any (a b : Int) (w : World) (ha : (-9223372036854775808) ≤ a ∧ a ≤ 9223372036854775807) (hb : (-9223372036854775808) ≤ b ∧ b ≤ 9223372036854775807) : Ret Tryd.prog 55 #[.int .i64 a, .int .i64 b] w (fun v w' => v = .int .i64 (mdX a 1 b 1) ∧ Sep w [] w') := by
  have S0 := Sep.refl w
  refine Ret.named fun R hR => ?_
  refine Ret.of_J (N := 14) [(0, .int .i64 a), (1, .int .i64 b)] Tryd.func55 rfl rfl (Nat.le_of_ble_eq_true (by kernel_rfl)) (by kernel_rfl) ?_
  refine J.run 8 K55_0 [(9, .int .i64 b), (8, .int .i64 a)] w (by kernel_rfl) ?_
  refine J.callF 10 30 #[.int .i64 a, .int .i64 b, .int .i64 1] hb30 (by kernel_rfl) (div_any a b 1 _ (by omega) (by omega)) ?_
  rintro _ w1 ⟨rfl, T1⟩
  have S1 : Sep w [] w1 := S0.trans T1
  clear T1
  have := mdX_bounds a 1 b 1
  refine J.run 11 K55_1 [(4, .int .i64 (mdX a 1 b 1))] w1 (by kernel_rfl) ?_
  refine J.ret Tryd.f55 [.int .i64 (mdX a 1 b 1)] Tryd.func55 ⟨by kernel_rfl, trivial⟩ ?_
  refine hR _ _ ?_
  exact ⟨rfl, S1.nil⟩

theorem hb60 : HasBody Tryd.prog 60 := fun _ _ => by kernel_rfl
noncomputable def K60_0 : List Item := adv 7 [] (bodyOf Tryd.f60)
noncomputable def K60_1 : List Item := adv 1 [] (popK K60_0)
noncomputable def K60_2 : List Item := adv 6 [] (popK K60_1)
noncomputable def K60_3 : List Item := adv 6 [] K60_2
noncomputable def K60_4 : List Item := adv 3 [true] K60_3
noncomputable def K60_5 : List Item := adv 8 [false] K60_3
noncomputable def K60_6 : List Item := adv 5 [true] K60_5
noncomputable def K60_7 : List Item := adv 6 [false] K60_5
noncomputable def K60_8 : List Item := adv 2 [] K60_7
set_option maxRecDepth 20000 in
set_option maxHeartbeats 20000000 in
theorem gcd_any (a b : Int) (w : World) (ha : (-9223372036854775808) ≤ a ∧ a ≤ 9223372036854775807) (hb : (-9223372036854775808) ≤ b ∧ b ≤ 9223372036854775807) : Ret Tryd.prog 60 #[.int .i64 a, .int .i64 b] w (fun v w' => v = .int .i64 (gcdF a b) ∧ Sep w [] w') := by
  have S0 := Sep.refl w
  refine Ret.named fun R hR => ?_
  refine Ret.of_J (N := 21) [(0, .int .i64 a), (1, .int .i64 b)] Tryd.func60 rfl rfl (Nat.le_of_ble_eq_true (by kernel_rfl)) (by kernel_rfl) ?_
  refine J.run 7 K60_0 [(7, .int .i64 a), (1, .int .i64 b)] w (by kernel_rfl) ?_
  have := mag_le a (by omega)
  refine J.callF 8 63 #[.int .i64 a] hb63 (by kernel_rfl) (mag_any a _ (by omega)) ?_
  rintro _ w1 ⟨rfl, T1⟩
  have S1 : Sep w [] w1 := S0.trans T1
  clear T1
  refine J.run 1 K60_1 [(9, .int .i64 b), (8, .int .u64 (magF a))] w1 (by kernel_rfl) ?_
  have := mag_le b (by omega)
  refine J.callF 10 63 #[.int .i64 b] hb63 (by kernel_rfl) (mag_any b _ (by omega)) ?_
  rintro _ w2 ⟨rfl, T2⟩
  have S2 : Sep w [] w2 := S1.trans T2
  clear T2 S1
  refine J.run 6 K60_2 [(6, .int .u64 (magF b)), (5, .int .u64 (magF a))] w2 (by kernel_rfl) ?_
  have L60_1 : ∀ (mm_ : Nat) (x : Int) (y : Int) (w3 : World), (Nat.gcd (x).toNat (y).toNat = Nat.gcd a.natAbs b.natAbs) → (0 ≤ x ∧ x ≤ 9223372036854775808) → (0 ≤ y ∧ y ≤ 9223372036854775808) → Sep w [] w3 → (y).toNat = mm_ → J Tryd.prog 60 21 R K60_2 [(6, .int .u64 y), (5, .int .u64 x)] w3 := by
    intro mm1
    induction mm1 using Nat.strongRecOn with
    | _ mm1 ih1 =>
    intro x y w3 hg hxb hyb S3 hm1
    have hmd : 0 < y → 0 ≤ x % y ∧ x % y < y := mod_bd
    refine J.run 6 K60_3 [(12, .bool (decide (y > 0))), (6, .int .u64 y), (5, .int .u64 x)] w3 (by kernel_rfl) ?_
    by_cases fk1 : y > 0
    · skip
      refine J.head (.bool true) (congrArg Value.bool (decide_eq_true fk1)) ?_
      refine J.run 3 K60_4 [(6, .int .u64 y), (5, .int .u64 x)] w3 (by kernel_rfl) ?_
      refine J.drawStill S3 6 Tryd.mixed (by kernel_rfl) (by kernel_rfl) (by kernel_rfl) ?_
      intro w4 S4
      refine SL.ok (by decide) (OK.run 13 (.int .u64 y) (by kernel_rfl)) ?_
      refine SL.ok (by decide) (OK.run 14 (.int .u64 x) (by kernel_rfl)) ?_
      refine SL.ok (by decide) (OK.run 15 (.int .u64 y) (by kernel_rfl)) ?_
      refine SL.ok (by decide) (OK.rem 16 .u64 x y (by kernel_rfl) (by omega)) ?_
      refine SL.head (.int .u64 (x % y)) (congrArg (Value.int .u64) (IntWalk.rem_in _ _ (by omega))) ?_
      refine SL.ok (by decide) (OK.run 5 (.int .u64 y) (by kernel_rfl)) ?_
      refine SL.ok (by decide) (OK.run 6 (.int .u64 (x % y)) (by kernel_rfl)) ?_
      refine SL.done ?_
      refine TL.done (by kernel_rfl) ?_
      refine J.run 0 (rRest K60_4) [(6, .int .u64 (x % y)), (5, .int .u64 y)] w4 (by kernel_rfl) ?_
      refine J.run 2 K60_2 [(6, .int .u64 (x % y)), (5, .int .u64 y)] w4 (by kernel_rfl) ?_
      refine J.run 0 K60_2 [(6, .int .u64 (x % y)), (5, .int .u64 y)] w4 (by kernel_rfl) ?_
      exact ih1 _ (show ((x % y)).toNat < mm1 from by omega) y (x % y) w4 (gcd_step (by omega) (by omega) hg) (by omega) (by omega) S4 rfl
    · skip
      refine J.head (.bool false) (congrArg Value.bool (decide_eq_false fk1)) ?_
      refine J.run 8 K60_5 [(18, .bool (x == 9223372036854775808)), (5, .int .u64 x)] w3 (by kernel_rfl) ?_
      by_cases fk2 : x = 9223372036854775808
      · skip
        refine J.head (.bool true) (congrArg Value.bool (beq_iff_eq.2 fk2)) ?_
        refine J.run 5 K60_6 [(4, .int .i64 0)] w3 (by kernel_rfl) ?_
        refine J.ret Tryd.f60 [.int .i64 0] Tryd.func60 ⟨by kernel_rfl, trivial⟩ ?_
        refine hR _ _ ?_
        have e := gcd_end (by omega) (by omega) hg
        exact ⟨congrArg (Value.int .i64) (by unfold gcdF; rw [← e]; first | rw [if_pos (by omega)] | rw [if_neg (by omega)]), S3.nil⟩
      · skip
        refine J.head (.bool false) (congrArg Value.bool (beq_eq_false_iff_ne.2 fk2)) ?_
        refine J.run 6 K60_7 [(20, .int .i64 (IntKind.wrap .i64 x))] w3 (by kernel_rfl) ?_
        refine J.head (.int .i64 x) (congrArg (Value.int .i64) (IntWalk.i64_in _ (by omega))) ?_
        refine J.run 2 K60_8 [(4, .int .i64 x)] w3 (by kernel_rfl) ?_
        refine J.ret Tryd.f60 [.int .i64 x] Tryd.func60 ⟨by kernel_rfl, trivial⟩ ?_
        refine hR _ _ ?_
        have e := gcd_end (by omega) (by omega) hg
        exact ⟨congrArg (Value.int .i64) (by unfold gcdF; rw [← e]; first | rw [if_pos (by omega)] | rw [if_neg (by omega)]), S3.nil⟩
  exact L60_1 _ (magF a) (magF b) w2 (gcd_start a b) (by omega) (by omega) S2 rfl

end Go.Proofs.YtdilhoibcbihlaaDoor

