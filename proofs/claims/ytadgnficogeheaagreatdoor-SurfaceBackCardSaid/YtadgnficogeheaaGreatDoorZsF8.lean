/- Walks of functions of this seat, printed by a program over the engine. Conditions: as each theorem says. -/
import Derived.Test.YtadgnficogeheaaGreatDoorZsF7
namespace Go.Proofs.YtadgnficogeheaaGreatDoor
noncomputable section
open Go.Eng Go.RowKit
set_option linter.unusedSimpArgs false
set_option linter.unusedVariables false
def btwF (x0 x1 y0 y1 x : Int) : Int := y0 + (x - x0) * (y1 - y0) / (x1 - x0)
theorem btw_div {d k t : Int} (hd : 0 < d) (h0 : 0 ≤ t) (h1 : t ≤ d) : (0 ≤ k → 0 ≤ t * k / d ∧ t * k / d ≤ k) ∧ (k ≤ 0 → k ≤ t * k / d ∧ t * k / d ≤ 0) := by
  constructor <;> intro hk
  · refine ⟨Int.ediv_nonneg (Int.mul_nonneg h0 hk) (by omega), ?_⟩
    have := Int.mul_le_mul_of_nonneg_right h1 hk
    exact Int.ediv_le_of_le_mul hd (by rw [Int.mul_comm k d]; exact this)
  · have h2 : d * k ≤ t * k := Int.mul_le_mul_of_nonpos_right h1 hk
    have h3 : t * k ≤ 0 := Int.mul_nonpos_of_nonneg_of_nonpos h0 hk
    exact ⟨(Int.le_ediv_iff_mul_le hd).2 (by rw [Int.mul_comm]; exact h2), by
      have := Int.ediv_le_ediv hd h3; simpa using this⟩
theorem btw_bounds {x0 x1 y0 y1 x : Int} (h : x0 < x1) (h0 : x0 ≤ x) (h1 : x ≤ x1) : (y0 ≤ y1 → y0 ≤ btwF x0 x1 y0 y1 x ∧ btwF x0 x1 y0 y1 x ≤ y1) ∧ (y1 ≤ y0 → y1 ≤ btwF x0 x1 y0 y1 x ∧ btwF x0 x1 y0 y1 x ≤ y0) := by
  obtain ⟨a1, a2⟩ := btw_div (d := x1 - x0) (k := y1 - y0) (t := x - x0) (by omega) (by omega) (by omega)
  unfold btwF
  exact ⟨fun hk => by have := a1 (by omega); omega, fun hk => by have := a2 (by omega); omega⟩
theorem btw_left (x0 x1 y0 y1 : Int) : btwF x0 x1 y0 y1 x0 = y0 := by unfold btwF; simp
theorem btw_right {x0 x1 : Int} (y0 y1 : Int) (h : x0 < x1) : btwF x0 x1 y0 y1 x1 = y1 := by
  unfold btwF; rw [Int.mul_comm, Int.mul_ediv_cancel _ (by omega)]; omega
/-- the segment of an axis -/
def segF (xs : List Int) (x : Int) : Nat := (indexF (fun a => decide (x < a)) xs).toNat - 1
def curveF (xs ys : List Int) (x : Int) : Int :=
  if x ≤ xs.getD 0 0 then ys.getD 0 0 else if xs.getD (xs.length - 1) 0 ≤ x then ys.getD (xs.length - 1) 0 else
  btwF (xs.getD (segF xs x) 0) (xs.getD (segF xs x + 1) 0) (ys.getD (segF xs x) 0) (ys.getD (segF xs x + 1) 0) x
theorem axis_le {l : List Int} (h : axisB l = true) {i j : Nat} (hij : i ≤ j) (hj : j < l.length) : l.getD i 0 ≤ l.getD j 0 := by
  rcases Nat.lt_or_eq_of_le hij with e | e
  · exact Int.le_of_lt (axis_mono h e hj)
  · subst e; exact Int.le_refl _
theorem seg_eq {xs : List Int} {x : Int} {i : Nat} (ax : axisB xs = true) (hi : i + 1 < xs.length) (h1 : xs.getD i 0 ≤ x) (h2 : x < xs.getD (i + 1) 0) : segF xs x = i := by
  unfold segF
  rw [indexF_some 0 (i + 1) hi (fun j hj => decide_eq_false (by have := axis_le ax (show j ≤ i by omega) (by omega); omega)) (decide_eq_true h2)]
  omega
theorem curve_seg {xs ys : List Int} {x x' : Int} {i : Nat} (ax : axisB xs = true) (hi : i + 1 < xs.length) (h1 : xs.getD i 0 ≤ x') (h2 : x' ≤ xs.getD (i + 1) 0) (h3 : x' < xs.getD (i + 1) 0 ∨ i + 2 = xs.length) (hx : x' = min (max x (xs.getD 0 0)) (xs.getD (xs.length - 1) 0)) :
    curveF xs ys x = btwF (xs.getD i 0) (xs.getD (i + 1) 0) (ys.getD i 0) (ys.getD (i + 1) 0) x' := by
  have hmono := axis_mono ax (show i < i + 1 by omega) hi
  have hends := axis_mono ax (show 0 < xs.length - 1 by omega) (by omega)
  have hlast := axis_le ax (show i + 1 ≤ xs.length - 1 by omega) (by omega)
  have hfirst := axis_le ax (show 0 ≤ i by omega) (by omega)
  unfold curveF
  split
  · rename_i ha
    have e : x' = xs.getD 0 0 := by omega
    have hi0 : i = 0 := by
      rcases Nat.eq_zero_or_pos i with h | h
      · exact h
      · have := axis_mono ax h (by omega); omega
    subst hi0
    rw [e, btw_left]
  · split
    · rename_i ha hb
      have e : x' = xs.getD (xs.length - 1) 0 := by omega
      have hi2 : i + 2 = xs.length := by
        rcases h3 with h | h
        · omega
        · exact h
      rw [show xs.length - 1 = i + 1 by omega] at e ⊢
      rw [e, btw_right _ _ hmono]
    · rename_i ha hb
      have e : x' = x := by omega
      subst e
      have h4 : x' < xs.getD (i + 1) 0 := by
        rcases h3 with h | h
        · exact h
        · rw [show xs.length - 1 = i + 1 by omega] at hb; omega
      rw [seg_eq ax hi h1 h4]
theorem floor_pos {a b : Int} (ha : -9223372036854775808 ≤ a ∧ a ≤ 9223372036854775807) (hb : 1 ≤ b) : mdX a 1 b 1 = a / b := by
  rw [floor_val ha (by omega), if_neg (by omega)]
theorem prod_bd {t k : Int} (ht : -2147483648 ≤ t ∧ t ≤ 2147483648) (hk : -2147483648 ≤ k ∧ k ≤ 2147483648) : -4611686018427387904 ≤ t * k ∧ t * k ≤ 4611686018427387904 := by
  have h1 : (t * k).natAbs ≤ 2147483648 * 2147483648 := by rw [Int.natAbs_mul]; exact Nat.mul_le_mul (by omega) (by omega)
  omega
theorem hb44 : HasBody Tryz.prog 44 := fun _ _ => by kernel_rfl
def K44_0 := adv 10 [] (bodyOf Tryz.f44)
def K44_1 := adv 3 [] K44_0
def K44_2 := adv 1 [] K44_1
def K44_3 := adv 3 [] K44_2
def K44_4 := adv 1 [] (popK K44_3)
def K44_5 := adv 2 [] K44_4
set_option maxRecDepth 20000 in
set_option maxHeartbeats 20000000 in
theorem between_any (x0 x1 y0 y1 x : Int) (w : World) (hx0 : -1073741824 ≤ x0 ∧ x0 ≤ 1073741824) (hx1 : -1073741824 ≤ x1 ∧ x1 ≤ 1073741824) (hy0 : -1073741824 ≤ y0 ∧ y0 ≤ 1073741824) (hy1 : -1073741824 ≤ y1 ∧ y1 ≤ 1073741824) (hx : x0 < x1 ∧ x0 ≤ x ∧ x ≤ x1) : Ret Tryz.prog 44 #[.int .i64 x0, .int .i64 x1, .int .i64 y0, .int .i64 y1, .int .i64 x] w (fun v w' => v = .int .i64 (btwF x0 x1 y0 y1 x) ∧ Sep w [] w') := by
 have S0 := Sep.refl w
 refine Ret.named fun R hR => ?_
 refine Ret.of_J (N := 24) [(0, .int .i64 x0), (1, .int .i64 x1), (2, .int .i64 y0), (3, .int .i64 y1), (4, .int .i64 x)] Tryz.func44 rfl rfl (Nat.le_of_ble_eq_true (by kernel_rfl)) (by kernel_rfl) ?_
 refine J.run 10 K44_0 [(14, .int .i64 (IntKind.wrap .i64 (x - x0))), (11, .int .i64 y0), (0, .int .i64 x0), (1, .int .i64 x1), (2, .int .i64 y0), (3, .int .i64 y1)] w (by kernel_rfl) ?_
 refine J.head (.int .i64 (x - x0)) (congrArg (Value.int .i64) (IntWalk.i64_in _ (by omega))) ?_
 refine J.run 3 K44_1 [(17, .int .i64 (IntKind.wrap .i64 (y1 - y0))), (14, .int .i64 (x - x0)), (11, .int .i64 y0), (0, .int .i64 x0), (1, .int .i64 x1)] w (by kernel_rfl) ?_
 refine J.head (.int .i64 (y1 - y0)) (congrArg (Value.int .i64) (IntWalk.i64_in _ (by omega))) ?_
 have hpb := prod_bd (t := x - x0) (k := y1 - y0) (by omega) (by omega)
 refine J.run 1 K44_2 [(18, .int .i64 (IntKind.wrap .i64 ((x - x0) * (y1 - y0)))), (11, .int .i64 y0), (0, .int .i64 x0), (1, .int .i64 x1)] w (by kernel_rfl) ?_
 refine J.head (.int .i64 ((x - x0) * (y1 - y0))) (congrArg (Value.int .i64) (IntWalk.i64_in _ (by omega))) ?_
 refine J.run 3 K44_3 [(21, .int .i64 (IntKind.wrap .i64 (x1 - x0))), (18, .int .i64 ((x - x0) * (y1 - y0))), (11, .int .i64 y0)] w (by kernel_rfl) ?_
 refine J.head (.int .i64 (x1 - x0)) (congrArg (Value.int .i64) (IntWalk.i64_in _ (by omega))) ?_
 refine J.callF 22 60 #[.int .i64 ((x - x0) * (y1 - y0)), .int .i64 (x1 - x0)] hb60 (by kernel_rfl) (floor_any ((x - x0) * (y1 - y0)) (x1 - x0) _ (by omega) (by omega)) ?_
 rintro _ w1 ⟨rfl, T1⟩
 have S1 : Sep w [] w1 := S0.trans T1
 clear T1
 refine J.head (.int .i64 (((x - x0) * (y1 - y0)) / (x1 - x0))) (congrArg (Value.int .i64) (floor_pos (by omega) (by omega))) ?_
 have hbw := btw_bounds (x0 := x0) (x1 := x1) (y0 := y0) (y1 := y1) (x := x) (by omega) (by omega) (by omega)
 unfold btwF at hbw
 refine J.run 1 K44_4 [(23, .int .i64 (IntKind.wrap .i64 (y0 + (((x - x0) * (y1 - y0)) / (x1 - x0)))))] w1 (by kernel_rfl) ?_
 refine J.head (.int .i64 (y0 + (((x - x0) * (y1 - y0)) / (x1 - x0)))) (congrArg (Value.int .i64) (IntWalk.i64_in _ (by omega))) ?_
 refine J.run 2 K44_5 [(10, .int .i64 (y0 + (((x - x0) * (y1 - y0)) / (x1 - x0))))] w1 (by kernel_rfl) ?_
 refine J.ret Tryz.f44 [.int .i64 (y0 + (((x - x0) * (y1 - y0)) / (x1 - x0)))] Tryz.func44 ⟨by kernel_rfl, trivial⟩ ?_
 refine hR _ _ ?_
 exact ⟨rfl, S1.nil⟩

theorem seg_search {l : List Int} {x x' r : Int} (ax : axisB l = true) (hx : x' = min (max x (l.getD 0 0)) (l.getD (l.length - 1) 0)) (h0 : 0 ≤ r ∧ r ≤ (l.length : Int)) (h1 : r = 0 ∨ decide (l.getD (r - 1).toNat 0 > x') = false) (h2 : r = (l.length : Int) ∨ decide (l.getD r.toNat 0 > x') = true) :
    (0 ≤ min (r - 1) ((l.length : Int) - 2) ∧ min (r - 1) ((l.length : Int) - 2) + 1 < (l.length : Int)) ∧ l.getD (min (r - 1) ((l.length : Int) - 2)).toNat 0 ≤ x' ∧ x' ≤ l.getD (min (r - 1) ((l.length : Int) - 2) + 1).toNat 0 ∧ (x' < l.getD (min (r - 1) ((l.length : Int) - 2) + 1).toNat 0 ∨ min (r - 1) ((l.length : Int) - 2) + 2 = (l.length : Int)) := by
  have hl := (axis_facts ax).1
  have hends := axis_mono ax (show 0 < l.length - 1 by omega) (by omega)
  by_cases hr : r = (l.length : Int)
  · subst hr
    have e : min ((l.length : Int) - 1) ((l.length : Int) - 2) = (l.length : Int) - 2 := by omega
    rw [e]
    have e2 : ((l.length : Int) - 2 + 1).toNat = l.length - 1 := by omega
    rw [e2]
    have h3 := axis_le ax (show ((l.length : Int) - 2).toNat ≤ ((l.length : Int) - 1).toNat by omega) (by omega)
    rcases h1 with h1 | h1
    · omega
    · rw [decide_eq_false_iff_not] at h1
      exact ⟨by omega, by omega, by omega, by omega⟩
  · have h2' : l.getD r.toNat 0 > x' := by
      rcases h2 with h | h
      · exact absurd h hr
      · exact of_decide_eq_true h
    have hr1 : r ≠ 0 := by
      intro e
      subst e; simp only [Int.toNat_zero] at h2'; omega
    have h1' : l.getD (r - 1).toNat 0 ≤ x' := by
      rcases h1 with h | h
      · omega
      · rw [decide_eq_false_iff_not] at h; omega
    have e : min (r - 1) ((l.length : Int) - 2) = r - 1 := by omega
    rw [e, show (r - 1 + 1).toNat = r.toNat by omega]
    exact ⟨by omega, h1', by omega, .inl (by omega)⟩
theorem hb59 : HasBody Tryz.prog 59 := fun _ _ => by kernel_rfl
def K59_0 := adv 5 [] (bodyOf Tryz.f59)
set_option maxRecDepth 20000 in
set_option maxHeartbeats 20000000 in
theorem seg1_any (la : Option Addr) (len cap : Nat) (l : List Int) (x i : Int) (bx1 bx2 : Nat) (w : World) (hI : Ints w la len l) (hlen : len ≤ 9223372036854775807) (hi : 0 ≤ i ∧ i < (len : Int)) (hb1 : (box bx1 [.slice la len cap] 22).holds w) (hb2 : (box bx2 [.int .i64 x] 3).holds w) : Ret Tryz.prog 59 #[.int .i64 i, .pointer (some ⟨bx1, 0, none⟩), .pointer (some ⟨bx2, 0, none⟩)] w (fun v w' => v = .bool (decide (l.getD i.toNat 0 > x)) ∧ Sep w [] w') := by
 have S0 := Sep.refl w
 refine Ret.named fun R hR => ?_
 refine Ret.of_J (N := 11) [(0, .int .i64 i), (1, .pointer (some ⟨bx1, 0, none⟩)), (2, .pointer (some ⟨bx2, 0, none⟩))] Tryz.func59 rfl rfl (Nat.le_of_ble_eq_true (by kernel_rfl)) (by kernel_rfl) ?_
 refine J.run 5 K59_0 [(0, .int .i64 i), (1, .pointer (some ⟨bx1, 0, none⟩)), (2, .pointer (some ⟨bx2, 0, none⟩))] w (by kernel_rfl) ?_
 obtain ⟨p1, hp1, hc1⟩ := hI.at 0 (i).toNat (by omega)
 refine J.drawStill S0 7 Tryz.mixed (by kernel_rfl) (by kernel_rfl) (by kernel_rfl) ?_
 intro w1 S1
 refine SL.ok (by decide) (OK.ldRo S1 hb1 5 22 0 (.slice la len cap) (by kernel_rfl) (by kernel_rfl)) ?_
 refine SL.ok (by decide) (OK.run 6 (.int .i64 i) (by kernel_rfl)) ?_
 refine SL.ok (by decide) (OK.index 7 22 1 la p1 len (i).toNat i (p1.add (i).toNat) (by kernel_rfl) (by kernel_rfl) hp1 (by omega) (by omega) (by rw [Nat.mul_one])) ?_
 refine SL.ok (by decide) (OK.ldCell 8 3 (p1.add (i).toNat) (.int .i64 (l.getD (i).toNat 0)) (by kernel_rfl) (by kernel_rfl) (S1.cell hc1)) ?_
 refine SL.ok (by decide) (OK.ldRo S1 hb2 9 3 0 (.int .i64 x) (by kernel_rfl) (by kernel_rfl)) ?_
 refine SL.ok (by decide) (OK.run 10 (.bool (decide ((l.getD (i).toNat 0) > x))) (by kernel_rfl)) ?_
 refine SL.ok (by decide) (OK.run 4 (.bool (decide ((l.getD (i).toNat 0) > x))) (by kernel_rfl)) ?_
 refine SL.done ?_
 refine TL.done (by kernel_rfl) ?_
 refine J.run 0 (rRest K59_0) [(4, .bool (decide ((l.getD (i).toNat 0) > x)))] w1 (by kernel_rfl) ?_
 refine J.ret Tryz.f59 [.bool (decide ((l.getD (i).toNat 0) > x))] Tryz.func59 ⟨by kernel_rfl, trivial⟩ ?_
 refine hR _ _ ?_
 exact ⟨rfl, S1.nil⟩

theorem hb42 : HasBody Tryz.prog 42 := fun _ _ => by kernel_rfl
def K42_0 := adv 2 [] (bodyOf Tryz.f42)
def K42_1 := adv 4 [] (popK (popK K42_0))
def K42_2 := adv 2 [] (rRest K42_1)
def K42_3 := adv 2 [] (popK K42_2)
def K42_4 := adv 1 [] (popK K42_3)
def K42_5 := adv 3 [] K42_4
set_option maxRecDepth 20000 in
set_option maxHeartbeats 20000000 in
theorem segment_any (la : Option Addr) (len cap : Nat) (l : List Int) (x : Int) (w : World) (hI : Ints w la len l) (hlen : len ≤ 9223372036854775807) (ax : axisB l = true) : Ret Tryz.prog 42 #[.slice la len cap, .int .i64 x] w (fun v w' => ∃ i x', v = .tuple #[.int .i64 i, .int .i64 x'] ∧ (x' = min (max x (l.getD 0 0)) (l.getD (l.length - 1) 0) ∧ (0 ≤ i ∧ i + 1 < (l.length : Int)) ∧ l.getD i.toNat 0 ≤ x' ∧ x' ≤ l.getD (i + 1).toNat 0 ∧ (x' < l.getD (i + 1).toNat 0 ∨ i + 2 = (l.length : Int))) ∧ Sep w [] w') := by
 have S0 := Sep.refl w
 refine Ret.named fun R hR => ?_
 refine Ret.of_J (N := 29) [(0, .slice la len cap), (1, .int .i64 x)] Tryz.func42 rfl rfl (Nat.le_of_ble_eq_true (by kernel_rfl)) (by kernel_rfl) ?_
 have hll := hI.len_eq
 obtain ⟨hx1, hx2, hx3⟩ := axis_facts ax
 refine J.run 2 K42_0 [(0, .slice la len cap), (1, .int .i64 x)] w (by kernel_rfl) ?_
 refine J.new S0 2 [.slice la len cap] 22 (by kernel_rfl) ?_
 intro b1 w1 S1
 refine J.new S1 3 [.int .i64 x] 3 (by kernel_rfl) ?_
 intro b2 w2 S2
 refine J.run 4 K42_1 [(3, .pointer (some ⟨b2, 0, none⟩)), (2, .pointer (some ⟨b1, 0, none⟩))] w2 (by kernel_rfl) ?_
 obtain ⟨p1, hp1, hc1⟩ := hI.at 0 0 (by omega)
 obtain ⟨p2, hp2, hc2⟩ := hI.at 0 ((len : Int) - 1).toNat (by omega)
 refine J.drawTail S2 10 Tryz.mixed (by kernel_rfl) (by kernel_rfl) ?_
 intro w3 S3
 refine SL.ok (by decide) (OK.ldBox S3 0 7 3 0 (.int .i64 x) (by kernel_rfl) rfl (by kernel_rfl)) ?_
 refine SL.ok (by decide) (OK.ldBox S3 1 8 22 0 (.slice la len cap) (by kernel_rfl) rfl (by kernel_rfl)) ?_
 refine SL.ok (by decide) (OK.index 9 22 1 la p1 len 0 0 (p1.add 0) (by kernel_rfl) (by kernel_rfl) hp1 (by omega) (by omega) (by rw [Nat.mul_one])) ?_
 refine SL.ok (by decide) (OK.ldCell 10 3 (p1.add 0) (.int .i64 (l.getD 0 0)) (by kernel_rfl) (by kernel_rfl) (S3.cell hc1)) ?_
 refine SL.ok (by decide) (OK.ldBox S3 1 11 22 0 (.slice la len cap) (by kernel_rfl) rfl (by kernel_rfl)) ?_
 refine SL.ok (by decide) (OK.ldBox S3 1 12 22 0 (.slice la len cap) (by kernel_rfl) rfl (by kernel_rfl)) ?_
 refine SL.ok (by decide) (OK.run 13 (.int .i64 (len : Int)) (by kernel_rfl)) ?_
 refine SL.ok (by decide) (OK.run 14 (.int .i64 (IntKind.wrap .i64 ((len : Int) - 1))) (by kernel_rfl)) ?_
 refine SL.head (.int .i64 ((len : Int) - 1)) (congrArg (Value.int .i64) (IntWalk.i64_in _ (by omega))) ?_
 refine SL.ok (by decide) (OK.index 15 22 1 la p2 len ((len : Int) - 1).toNat ((len : Int) - 1) (p2.add ((len : Int) - 1).toNat) (by kernel_rfl) (by kernel_rfl) hp2 (by omega) (by omega) (by rw [Nat.mul_one])) ?_
 refine SL.ok (by decide) (OK.ldCell 16 3 (p2.add ((len : Int) - 1).toNat) (.int .i64 (l.getD ((len : Int) - 1).toNat 0)) (by kernel_rfl) (by kernel_rfl) (S3.cell hc2)) ?_
 refine SL.done ?_
 refine TL.callF 17 57 #[.int .i64 x, .int .i64 (l.getD 0 0), .int .i64 (l.getD ((len : Int) - 1).toNat 0)] hb57 (by kernel_rfl) (clamp_any x (l.getD 0 0) (l.getD ((len : Int) - 1).toNat 0) _) ?_
 rintro _ w4 ⟨rfl, T1⟩
 have S4 : Sep w [box b2 [.int .i64 x] 3, box b1 [.slice la len cap] 22] w4 := S3.trans T1
 clear T1 S3
 refine TL.stBox S4 0 3 0 (.int .i64 (min (max x (l.getD 0 0)) (l.getD ((len : Int) - 1).toNat 0))) [.int .i64 (min (max x (l.getD 0 0)) (l.getD ((len : Int) - 1).toNat 0))] [box b2 [.int .i64 (min (max x (l.getD 0 0)) (l.getD ((len : Int) - 1).toNat 0))] 3, box b1 [.slice la len cap] 22] (by kernel_rfl) rfl (by kernel_rfl) (by kernel_rfl) rfl ?_
 intro w5 S5
 refine TL.done (by kernel_rfl) ?_
 refine J.run 0 (rRest K42_1) [(3, .pointer (some ⟨b2, 0, none⟩)), (2, .pointer (some ⟨b1, 0, none⟩))] w5 (by kernel_rfl) ?_
 refine J.run 2 K42_2 [(3, .pointer (some ⟨b2, 0, none⟩)), (2, .pointer (some ⟨b1, 0, none⟩))] w5 (by kernel_rfl) ?_
 refine J.ok (OK.ldBox S5 1 18 22 0 (.slice la len cap) (by kernel_rfl) rfl (by kernel_rfl)) ?_
 refine J.run 2 K42_3 [(20, .func (.func 59) #[] #[.pointer (some ⟨b1, 0, none⟩), .pointer (some ⟨b2, 0, none⟩)]), (19, .int .i64 (len : Int)), (3, .pointer (some ⟨b2, 0, none⟩)), (2, .pointer (some ⟨b1, 0, none⟩))] w5 (by kernel_rfl) ?_
 refine J.callF 21 58 #[.int .i64 (len : Int), .func (.func 59) #[] #[.pointer (some ⟨b1, 0, none⟩), .pointer (some ⟨b2, 0, none⟩)]] hb58 (by kernel_rfl) (search2 (len : Int) 59 (.pointer (some ⟨b1, 0, none⟩)) (.pointer (some ⟨b2, 0, none⟩)) (fun i => decide (l.getD i.toNat 0 > (min (max x (l.getD 0 0)) (l.getD ((len : Int) - 1).toNat 0)))) _ (by omega) hb59 (fun i_ w_ h0_ h1_ S_ => seg1_any la len cap l (min (max x (l.getD 0 0)) (l.getD ((len : Int) - 1).toNat 0)) i_ b1 b2 w_ ((hI.sep S5).sep S_) (by omega) ⟨h0_, by omega⟩ (box_keep (S5.nth 1 rfl) S_) (box_keep (S5.nth 0 rfl) S_))) ?_
 rintro _ w6 ⟨r1, rfl, hr11, hr12, hr13, T2⟩
 have S6 : Sep w [box b2 [.int .i64 (min (max x (l.getD 0 0)) (l.getD ((len : Int) - 1).toNat 0))] 3, box b1 [.slice la len cap] 22] w6 := S5.trans T2
 refine J.run 1 K42_4 [(22, .int .i64 (IntKind.wrap .i64 (r1 - 1))), (3, .pointer (some ⟨b2, 0, none⟩)), (2, .pointer (some ⟨b1, 0, none⟩))] w6 (by kernel_rfl) ?_
 refine J.head (.int .i64 (r1 - 1)) (congrArg (Value.int .i64) (IntWalk.i64_in _ (by omega))) ?_
 refine J.run 3 K42_5 [(6, .int .i64 (r1 - 1)), (3, .pointer (some ⟨b2, 0, none⟩)), (2, .pointer (some ⟨b1, 0, none⟩))] w6 (by kernel_rfl) ?_
 refine J.drawStill S6 8 Tryz.mixed (by kernel_rfl) (by kernel_rfl) (by kernel_rfl) ?_
 intro w7 S7
 refine SL.ok (by decide) (OK.run 23 (.int .i64 (r1 - 1)) (by kernel_rfl)) ?_
 refine SL.ok (by decide) (OK.ldBox S7 1 24 22 0 (.slice la len cap) (by kernel_rfl) rfl (by kernel_rfl)) ?_
 refine SL.ok (by decide) (OK.run 25 (.int .i64 (len : Int)) (by kernel_rfl)) ?_
 refine SL.ok (by decide) (OK.run 26 (.int .i64 (IntKind.wrap .i64 ((len : Int) - 2))) (by kernel_rfl)) ?_
 refine SL.head (.int .i64 ((len : Int) - 2)) (congrArg (Value.int .i64) (IntWalk.i64_in _ (by omega))) ?_
 refine SL.ok (by decide) (OK.run 27 (.int .i64 (if ((len : Int) - 2) < (r1 - 1) then ((len : Int) - 2) else (r1 - 1))) (by kernel_rfl)) ?_
 refine SL.head (.int .i64 (min (r1 - 1) ((len : Int) - 2))) (congrArg (Value.int .i64) (by omega)) ?_
 refine SL.ok (by decide) (OK.ldBox S7 0 28 3 0 (.int .i64 (min (max x (l.getD 0 0)) (l.getD ((len : Int) - 1).toNat 0))) (by kernel_rfl) rfl (by kernel_rfl)) ?_
 refine SL.ok (by decide) (OK.run 4 (.int .i64 (min (r1 - 1) ((len : Int) - 2))) (by kernel_rfl)) ?_
 refine SL.ok (by decide) (OK.run 5 (.int .i64 (min (max x (l.getD 0 0)) (l.getD ((len : Int) - 1).toNat 0))) (by kernel_rfl)) ?_
 refine SL.done ?_
 refine TL.done (by kernel_rfl) ?_
 refine J.run 0 (rRest K42_5) [(5, .int .i64 (min (max x (l.getD 0 0)) (l.getD ((len : Int) - 1).toNat 0))), (4, .int .i64 (min (r1 - 1) ((len : Int) - 2)))] w7 (by kernel_rfl) ?_
 refine J.ret Tryz.f42 [.int .i64 (min (r1 - 1) ((len : Int) - 2)), .int .i64 (min (max x (l.getD 0 0)) (l.getD ((len : Int) - 1).toNat 0))] Tryz.func42 ⟨by kernel_rfl, by kernel_rfl, trivial⟩ ?_
 refine hR _ _ ?_
 have hxc : min (max x (l.getD 0 0)) (l.getD ((len : Int) - 1).toNat 0) = min (max x (l.getD 0 0)) (l.getD (l.length - 1) 0) := by rw [show ((len : Int) - 1).toNat = l.length - 1 by omega]
 have hseg := seg_search (r := r1) ax hxc (by omega) hr12 (by rw [hll]; exact hr13)
 rw [hll] at hseg
 exact ⟨_, _, rfl, ⟨hxc, by rw [hll]; exact hseg⟩, S7.nil⟩

end
end Go.Proofs.YtadgnficogeheaaGreatDoor

