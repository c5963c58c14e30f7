/- Walks of functions of this seat, printed by a program over the engine. Conditions: as each theorem says. -/
import Derived.Test.YtaoolgcddapegaaGreatDoorZsShelf
namespace Go.Proofs.YtaoolgcddapegaaGreatDoor
noncomputable section
open Go.Eng Go.RowKit
set_option linter.unusedSimpArgs false
set_option linter.unusedVariables false
set_option maxRecDepth 20000
set_option maxHeartbeats 20000000
theorem hb188 : HasBody Tryz.prog 188 := fun _ _ => by kernel_rfl
def K188_0 := adv 13 [] (bodyOf Tryz.f188)
theorem search2 (n : Int) (g : FuncId) (c1 : Value) (c2 : Value) (q : Int → Bool) (w : World) (hn : 0 ≤ n ∧ n ≤ 4611686018427387903) (hbg : HasBody Tryz.prog g) (hcall : ∀ (i : Int) (w2 : World), 0 ≤ i → i < n → Sep w [] w2 → Ret Tryz.prog g #[iv i, c1, c2] w2 (fun v w3 => v = .bool (q i) ∧ Sep w2 [] w3)) : Ret Tryz.prog 188 #[iv n, .func (.func g) #[] #[c1, c2]] w (fun v w' => ∃ r, v = iv r ∧ (0 ≤ r ∧ r ≤ n) ∧ (r = 0 ∨ q (r - 1) = false) ∧ (r = n ∨ q r = true) ∧ Sep w [] w') := by
 refine Ret.st (N := 26) Tryz.func188 fun R hR S0 => ?_
 have L188_1 : ∀ (mm_ : Nat) (i : Int) (j : Int) (w1 : World), (0 ≤ i ∧ i ≤ j ∧ j ≤ n) → (i = 0 ∨ q (i - 1) = false) → (j = n ∨ q j = true) → Sep w [] w1 → (j - i).toNat = mm_ → J Tryz.prog 188 26 R K188_0 [(6, iv j), (5, iv i), (1, .func (.func g) #[] #[c1, c2])] w1 := by
  intro mm1
  induction mm1 using Nat.strongRecOn with
  | _ mm1 ih1 =>
  intro i j w1 hb hi hj S1 hm1
  refine J.c 7 [] [] [] 11 (i < j) (fun fk1 => ?_) fun fk1 => ?_
  ·skip
   refine J.wi 8 [true] [] [] 14 (i + j) ?_
   refine J.h 1 [] [] [] 15 (.int .u64 (IntKind.wrap .u64 (i + j))) (.int .u64 (i + j)) (congrArg (Value.int .u64) (IntWalk.u64_in _ (by omega))) ?_
   refine J.h 1 [] [] [] 16 (.int .u64 (Int.fdiv (i + j) (2 ^ 1))) (.int .u64 ((i + j) / 2)) (congrArg (Value.int .u64) (shr_lit _ _ (by decide))) ?_
   refine J.wi 1 [] [] [] 17 ((i + j) / 2) ?_
   obtain ⟨mid, hmid⟩ : ∃ x : Int, x = (i + j) / 2 := ⟨_, rfl⟩
   refine J.head (iv mid) (congrArg (Value.int .i64) hmid.symm) ?_
   refine J.r 6 [] [(19, iv mid), (18, .func (.func g) #[] #[c1, c2]), (7, iv mid)] [] ?_
   refine J.callF 20 g #[iv mid, c1, c2] hbg (by kernel_rfl) (hcall mid w1 (by omega) (by omega) S1.nil) ?_
   rintro _ w2 ⟨rfl, T1⟩
   have S2 : Sep w [] w2 := S1.trans T1
   refine J.bn 2 [] [] [] 21 (q mid) (fun fk2 => ?_) fun fk2 => ?_
   ·skip
    exact J.t 7 (ih1 _ (show (mid - i).toNat < mm1 from by omega) i mid w2 (by omega) (hi) (.inr fk2) S2 rfl)
   refine J.wi 4 [true] [] [] 23 (mid + 1) ?_
   exact J.t 4 (ih1 _ (show (j - (mid + 1)).toNat < mm1 from by omega) (mid + 1) j w2 (by omega) (.inr (by rw [show mid + 1 - 1 = mid by omega]; exact fk2)) (hj) S2 rfl)
  refine J.e 7 [iv i] Tryz.func188 (hR _ _ ?_)
  exact ⟨i, rfl, by omega, hi, by rw [show i = j by omega]; exact hj, S1.nil⟩
 exact J.t 13 (L188_1 _ 0 n w (by omega) (.inl rfl) (.inl rfl) S0 rfl)

end
end Go.Proofs.YtaoolgcddapegaaGreatDoor

namespace Go.Proofs.YtaoolgcddapegaaGreatDoor
open Go.Eng Go.RowKit
set_option linter.unusedSimpArgs false
set_option linter.unusedVariables false
set_option maxRecDepth 20000
set_option maxHeartbeats 20000000
def btwF (x0 x1 y0 y1 x : Int) : Int := y0 + (x - x0) * (y1 - y0) / (x1 - x0)
theorem btw_div {d k t : Int} (hd : 0 < d) (h0 : 0 ≤ t) (h1 : t ≤ d) : (0 ≤ k → 0 ≤ t * k / d ∧ t * k / d ≤ k) ∧ (k ≤ 0 → k ≤ t * k / d ∧ t * k / d ≤ 0) := by
  constructor <;> intro hk
  · refine ⟨Int.ediv_nonneg (Int.mul_nonneg h0 hk) (by omega), ?_⟩
    have := Int.mul_le_mul_of_nonneg_right h1 hk
    exact Int.ediv_le_of_le_mul hd (by rw [Int.mul_comm k d]; exact this)
  · have h2 : d * k ≤ t * k := Int.mul_le_mul_of_nonpos_right h1 hk
    have h3 : t * k ≤ 0 := Int.mul_nonpos_of_nonneg_of_nonpos h0 hk
    exact ⟨(Int.le_ediv_iff_mul_le hd).2 (by rw [Int.mul_comm]; exact h2), by
      have := Int.ediv_le_ediv hd h3; simpa using this⟩
theorem btw_bounds {x0 x1 y0 y1 x : Int} (h : x0 < x1) (h0 : x0 ≤ x) (h1 : x ≤ x1) : (y0 ≤ y1 → y0 ≤ btwF x0 x1 y0 y1 x ∧ btwF x0 x1 y0 y1 x ≤ y1) ∧ (y1 ≤ y0 → y1 ≤ btwF x0 x1 y0 y1 x ∧ btwF x0 x1 y0 y1 x ≤ y0) := by
  obtain ⟨a1, a2⟩ := btw_div (d := x1 - x0) (k := y1 - y0) (t := x - x0) (by omega) (by omega) (by omega)
  unfold btwF
  exact ⟨fun hk => by have := a1 (by omega); omega, fun hk => by have := a2 (by omega); omega⟩
theorem btw_left (x0 x1 y0 y1 : Int) : btwF x0 x1 y0 y1 x0 = y0 := by unfold btwF; simp
theorem btw_right {x0 x1 : Int} (y0 y1 : Int) (h : x0 < x1) : btwF x0 x1 y0 y1 x1 = y1 := by
  unfold btwF; rw [Int.mul_comm, Int.mul_ediv_cancel _ (by omega)]; omega
/-- the segment of an axis -/
def segF (xs : List Int) (x : Int) : Nat := (indexF (fun a => decide (x < a)) xs).toNat - 1
def curveF (xs ys : List Int) (x : Int) : Int :=
  if x ≤ xs.getD 0 0 then ys.getD 0 0 else if xs.getD (xs.length - 1) 0 ≤ x then ys.getD (xs.length - 1) 0 else
  btwF (xs.getD (segF xs x) 0) (xs.getD (segF xs x + 1) 0) (ys.getD (segF xs x) 0) (ys.getD (segF xs x + 1) 0) x
theorem axis_le {l : List Int} (h : axisB l = true) {i j : Nat} (hij : i ≤ j) (hj : j < l.length) : l.getD i 0 ≤ l.getD j 0 := by
  rcases Nat.lt_or_eq_of_le hij with e | e
  · exact Int.le_of_lt (axis_mono h e hj)
  · subst e; exact Int.le_refl _
theorem seg_eq {xs : List Int} {x : Int} {i : Nat} (ax : axisB xs = true) (hi : i + 1 < xs.length) (h1 : xs.getD i 0 ≤ x) (h2 : x < xs.getD (i + 1) 0) : segF xs x = i := by
  unfold segF
  rw [indexF_some 0 (i + 1) hi (fun j hj => decide_eq_false (by have := axis_le ax (show j ≤ i by omega) (by omega); omega)) (decide_eq_true h2)]
  omega
theorem curve_seg {xs ys : List Int} {x x' : Int} {i : Nat} (ax : axisB xs = true) (hi : i + 1 < xs.length) (h1 : xs.getD i 0 ≤ x') (h2 : x' ≤ xs.getD (i + 1) 0) (h3 : x' < xs.getD (i + 1) 0 ∨ i + 2 = xs.length) (hx : x' = min (max x (xs.getD 0 0)) (xs.getD (xs.length - 1) 0)) :
    curveF xs ys x = btwF (xs.getD i 0) (xs.getD (i + 1) 0) (ys.getD i 0) (ys.getD (i + 1) 0) x' := by
  have hmono := axis_mono ax (show i < i + 1 by omega) hi
  have hends := axis_mono ax (show 0 < xs.length - 1 by omega) (by omega)
  have hlast := axis_le ax (show i + 1 ≤ xs.length - 1 by omega) (by omega)
  have hfirst := axis_le ax (show 0 ≤ i by omega) (by omega)
  unfold curveF
  split
  · rename_i ha
    have e : x' = xs.getD 0 0 := by omega
    have hi0 : i = 0 := by
      rcases Nat.eq_zero_or_pos i with h | h
      · exact h
      · have := axis_mono ax h (by omega); omega
    subst hi0
    rw [e, btw_left]
  · split
    · rename_i ha hb
      have e : x' = xs.getD (xs.length - 1) 0 := by omega
      have hi2 : i + 2 = xs.length := by
        rcases h3 with h | h
        · omega
        · exact h
      rw [show xs.length - 1 = i + 1 by omega] at e ⊢
      rw [e, btw_right _ _ hmono]
    · rename_i ha hb
      have e : x' = x := by omega
      subst e
      have h4 : x' < xs.getD (i + 1) 0 := by
        rcases h3 with h | h
        · exact h
        · rw [show xs.length - 1 = i + 1 by omega] at hb; omega
      rw [seg_eq ax hi h1 h4]
theorem floor_pos {a b : Int} (ha : -9223372036854775808 ≤ a ∧ a ≤ 9223372036854775807) (hb : 1 ≤ b) : mdX a 1 b 1 = a / b := by
  rw [floor_val ha (by omega), if_neg (by omega)]
theorem prod_bd {t k : Int} (ht : -2147483648 ≤ t ∧ t ≤ 2147483648) (hk : -2147483648 ≤ k ∧ k ≤ 2147483648) : -4611686018427387904 ≤ t * k ∧ t * k ≤ 4611686018427387904 := by
  have h1 : (t * k).natAbs ≤ 2147483648 * 2147483648 := by rw [Int.natAbs_mul]; exact Nat.mul_le_mul (by omega) (by omega)
  omega
theorem hb158 : HasBody Tryz.prog 158 := fun _ _ => by kernel_rfl

theorem between_any (x0 x1 y0 y1 x : Int) (w : World) (hx0 : -1073741824 ≤ x0 ∧ x0 ≤ 1073741824) (hx1 : -1073741824 ≤ x1 ∧ x1 ≤ 1073741824) (hy0 : -1073741824 ≤ y0 ∧ y0 ≤ 1073741824) (hy1 : -1073741824 ≤ y1 ∧ y1 ≤ 1073741824) (hx : x0 < x1 ∧ x0 ≤ x ∧ x ≤ x1) : Ret Tryz.prog 158 #[iv x0, iv x1, iv y0, iv y1, iv x] w (fun v w' => v = iv (btwF x0 x1 y0 y1 x) ∧ Sep w [] w') := by
 refine Ret.st (N := 24) Tryz.func158 fun R hR S0 => ?_
 refine J.wi 10 [] [(11, iv y0)] [] 14 (x - x0) ?_
 refine J.wi 3 [] [] [] 17 (y1 - y0) ?_
 have hpb := prod_bd (t := x - x0) (k := y1 - y0) (by omega) (by omega)
 refine J.wi 1 [] [] [] 18 ((x - x0) * (y1 - y0)) ?_
 refine J.wi 3 [] [] [] 21 (x1 - x0) ?_
 refine J.c0 0 [] [] [] S0 22 hb155 (floor_any ((x - x0) * (y1 - y0)) (x1 - x0) _ (by omega) (by omega)) fun w1 S1 => ?_
 refine J.head (iv (((x - x0) * (y1 - y0)) / (x1 - x0))) (congrArg (Value.int .i64) (floor_pos (by omega) (by omega))) ?_
 have hbw := btw_bounds (x0 := x0) (x1 := x1) (y0 := y0) (y1 := y1) (x := x) (by omega) (by omega) (by omega)
 unfold btwF at hbw
 refine J.wi 1 [] [] [] 23 (y0 + (((x - x0) * (y1 - y0)) / (x1 - x0))) ?_
 refine J.e 2 [iv (y0 + (((x - x0) * (y1 - y0)) / (x1 - x0)))] Tryz.func158 (hR _ _ ?_)
 exact ⟨rfl, S1.nil⟩

theorem seg_search {l : List Int} {x x' r : Int} (ax : axisB l = true) (hx : x' = min (max x (l.getD 0 0)) (l.getD (l.length - 1) 0)) (h0 : 0 ≤ r ∧ r ≤ (l.length : Int)) (h1 : r = 0 ∨ decide (l.getD (r - 1).toNat 0 > x') = false) (h2 : r = (l.length : Int) ∨ decide (l.getD r.toNat 0 > x') = true) :
    (0 ≤ min (r - 1) ((l.length : Int) - 2) ∧ min (r - 1) ((l.length : Int) - 2) + 1 < (l.length : Int)) ∧ l.getD (min (r - 1) ((l.length : Int) - 2)).toNat 0 ≤ x' ∧ x' ≤ l.getD (min (r - 1) ((l.length : Int) - 2) + 1).toNat 0 ∧ (x' < l.getD (min (r - 1) ((l.length : Int) - 2) + 1).toNat 0 ∨ min (r - 1) ((l.length : Int) - 2) + 2 = (l.length : Int)) := by
  have hl := (axis_facts ax).1
  have hends := axis_mono ax (show 0 < l.length - 1 by omega) (by omega)
  by_cases hr : r = (l.length : Int)
  · subst hr
    have e : min ((l.length : Int) - 1) ((l.length : Int) - 2) = (l.length : Int) - 2 := by omega
    rw [e]
    have e2 : ((l.length : Int) - 2 + 1).toNat = l.length - 1 := by omega
    rw [e2]
    have h3 := axis_le ax (show ((l.length : Int) - 2).toNat ≤ ((l.length : Int) - 1).toNat by omega) (by omega)
    rcases h1 with h1 | h1
    · omega
    · rw [decide_eq_false_iff_not] at h1
      exact ⟨by omega, by omega, by omega, by omega⟩
  · have h2' : l.getD r.toNat 0 > x' := by
      rcases h2 with h | h
      · exact absurd h hr
      · exact of_decide_eq_true h
    have hr1 : r ≠ 0 := by
      intro e
      subst e; simp only [Int.toNat_zero] at h2'; omega
    have h1' : l.getD (r - 1).toNat 0 ≤ x' := by
      rcases h1 with h | h
      · omega
      · rw [decide_eq_false_iff_not] at h; omega
    have e : min (r - 1) ((l.length : Int) - 2) = r - 1 := by omega
    rw [e, show (r - 1 + 1).toNat = r.toNat by omega]
    exact ⟨by omega, h1', by omega, .inl (by omega)⟩
theorem hb192 : HasBody Tryz.prog 192 := fun _ _ => by kernel_rfl

theorem seg1_any (la : Option Addr) (len cap : Nat) (l : List Int) (x i : Int) (bx1 bx2 : Nat) (w : World) (hI : Ints w la len l) (hlen : len ≤ 9223372036854775807) (hi : 0 ≤ i ∧ i < (len : Int)) (hb1 : (box bx1 [.slice la len cap] 26).holds w) (hb2 : (box bx2 [iv x] 3).holds w) : Ret Tryz.prog 192 #[iv i, pv bx1, pv bx2] w (fun v w' => v = .bool (decide (l.getD i.toNat 0 > x)) ∧ Sep w [] w') := by
 refine Ret.st (N := 11) Tryz.func192 fun R hR S0 => ?_
 refine J.r 5 [] [] [] ?_
 obtain ⟨p1, hp1, hc1⟩ := hI.at 0 (i).toNat (by omega)
 refine J.drawStill S0 7 Tryz.mixed (by kernel_rfl) (by kernel_rfl) (by kernel_rfl) ?_
 intro w1 S1
 refine SL.ok (by decide) (OK.ldRo S1 hb1 5 26 0 (.slice la len cap) (by kernel_rfl) (by kernel_rfl)) ?_
 refine SL.r 6 (iv i) ?_
 refine SL.ok (by decide) (OK.index 7 26 1 la p1 len (i).toNat i (p1.add (i).toNat) (by kernel_rfl) (by kernel_rfl) hp1 (by omega) (by omega) (by rw [Nat.mul_one])) ?_
 refine SL.ok (by decide) (OK.ldCell 8 3 (p1.add (i).toNat) (iv (l.getD (i).toNat 0)) (by kernel_rfl) (by kernel_rfl) (S1.cell hc1)) ?_
 refine SL.ok (by decide) (OK.ldRo S1 hb2 9 3 0 (iv x) (by kernel_rfl) (by kernel_rfl)) ?_
 refine SL.r 10 (.bool (decide ((l.getD (i).toNat 0) > x))) ?_
 refine SL.r 4 (.bool (decide ((l.getD (i).toNat 0) > x))) ?_
 refine SL.done ?_
 refine TL.done (by kernel_rfl) ?_
 refine J.e 0 [.bool (decide ((l.getD (i).toNat 0) > x))] Tryz.func192 (hR _ _ ?_)
 exact ⟨rfl, S1.nil⟩

theorem hb156 : HasBody Tryz.prog 156 := fun _ _ => by kernel_rfl

theorem segment_any (la : Option Addr) (len cap : Nat) (l : List Int) (x : Int) (w : World) (hI : Ints w la len l) (hlen : len ≤ 9223372036854775807) (ax : axisB l = true) : Ret Tryz.prog 156 #[.slice la len cap, iv x] w (fun v w' => ∃ i x', v = .tuple #[iv i, iv x'] ∧ (x' = min (max x (l.getD 0 0)) (l.getD (l.length - 1) 0) ∧ (0 ≤ i ∧ i + 1 < (l.length : Int)) ∧ l.getD i.toNat 0 ≤ x' ∧ x' ≤ l.getD (i + 1).toNat 0 ∧ (x' < l.getD (i + 1).toNat 0 ∨ i + 2 = (l.length : Int))) ∧ Sep w [] w') := by
 refine Ret.st (N := 29) Tryz.func156 fun R hR S0 => ?_
 have hll := hI.len_eq
 obtain ⟨hx1, hx2, hx3⟩ := axis_facts ax
 refine J.nw 2 [] [] [] S0 2 [.slice la len cap] 26 fun b1 w1 S1 => ?_
 refine J.nw 0 [] [] [] S1 3 [iv x] 3 fun b2 w2 S2 => ?_
 refine J.r 4 [] [] [] ?_
 obtain ⟨p1, hp1, hc1⟩ := hI.at 0 0 (by omega)
 obtain ⟨p2, hp2, hc2⟩ := hI.at 0 ((len : Int) - 1).toNat (by omega)
 refine J.drawTail S2 10 Tryz.mixed (by kernel_rfl) (by kernel_rfl) ?_
 intro w3 S3
 refine SL.lb S3 0 rfl 7 (iv x) ?_
 refine SL.lb S3 1 rfl 8 (.slice la len cap) ?_
 refine SL.ok (by decide) (OK.index 9 26 1 la p1 len 0 0 (p1.add 0) (by kernel_rfl) (by kernel_rfl) hp1 (by omega) (by omega) (by rw [Nat.mul_one])) ?_
 refine SL.ok (by decide) (OK.ldCell 10 3 (p1.add 0) (iv (l.getD 0 0)) (by kernel_rfl) (by kernel_rfl) (S3.cell hc1)) ?_
 refine SL.lb S3 1 rfl 11 (.slice la len cap) ?_
 refine SL.lb S3 1 rfl 12 (.slice la len cap) ?_
 refine SL.r 13 (iv (len : Int)) ?_
 refine SL.r 14 (iv (IntKind.wrap .i64 ((len : Int) - 1))) ?_
 refine SL.head (iv ((len : Int) - 1)) (congrArg (Value.int .i64) (IntWalk.i64_in _ (by omega))) ?_
 refine SL.ok (by decide) (OK.index 15 26 1 la p2 len ((len : Int) - 1).toNat ((len : Int) - 1) (p2.add ((len : Int) - 1).toNat) (by kernel_rfl) (by kernel_rfl) hp2 (by omega) (by omega) (by rw [Nat.mul_one])) ?_
 refine SL.ok (by decide) (OK.ldCell 16 3 (p2.add ((len : Int) - 1).toNat) (iv (l.getD ((len : Int) - 1).toNat 0)) (by kernel_rfl) (by kernel_rfl) (S3.cell hc2)) ?_
 refine SL.done ?_
 refine TL.callF 17 191 #[iv x, iv (l.getD 0 0), iv (l.getD ((len : Int) - 1).toNat 0)] hb191 (by kernel_rfl) (clamp_any x (l.getD 0 0) (l.getD ((len : Int) - 1).toNat 0) _) ?_
 rintro _ w4 ⟨rfl, T1⟩
 have S4 : Sep w [box b2 [iv x] 3, box b1 [.slice la len cap] 26] w4 := S3.trans T1
 clear T1 S3
 refine TL.stBox S4 0 3 0 (iv (min (max x (l.getD 0 0)) (l.getD ((len : Int) - 1).toNat 0))) [iv (min (max x (l.getD 0 0)) (l.getD ((len : Int) - 1).toNat 0))] [box b2 [iv (min (max x (l.getD 0 0)) (l.getD ((len : Int) - 1).toNat 0))] 3, box b1 [.slice la len cap] 26] (by kernel_rfl) rfl (by kernel_rfl) (by kernel_rfl) rfl ?_
 intro w5 S5
 refine TL.done (by kernel_rfl) ?_
 refine J.lb 2 [] [] [] S5 1 rfl 18 (.slice la len cap) ?_
 refine J.r 2 [] [(20, .func (.func 192) #[] #[pv b1, pv b2]), (19, iv (len : Int))] [] ?_
 refine J.callF 21 188 #[iv (len : Int), .func (.func 192) #[] #[pv b1, pv b2]] hb188 (by kernel_rfl) (search2 (len : Int) 192 (pv b1) (pv b2) (fun i => decide (l.getD i.toNat 0 > (min (max x (l.getD 0 0)) (l.getD ((len : Int) - 1).toNat 0)))) _ (by omega) hb192 (fun i_ w_ h0_ h1_ S_ => seg1_any la len cap l (min (max x (l.getD 0 0)) (l.getD ((len : Int) - 1).toNat 0)) i_ b1 b2 w_ ((hI.sep S5).sep S_) (by omega) ⟨h0_, by omega⟩ (box_keep (S5.nth 1 rfl) S_) (box_keep (S5.nth 0 rfl) S_))) ?_
 rintro _ w6 ⟨r1, rfl, hr11, hr12, hr13, T2⟩
 have S6 : Sep w [box b2 [iv (min (max x (l.getD 0 0)) (l.getD ((len : Int) - 1).toNat 0))] 3, box b1 [.slice la len cap] 26] w6 := S5.trans T2
 refine J.wi 1 [] [] [] 22 (r1 - 1) ?_
 refine J.r 3 [] [(6, iv (r1 - 1))] [] ?_
 refine J.drawStill S6 8 Tryz.mixed (by kernel_rfl) (by kernel_rfl) (by kernel_rfl) ?_
 intro w7 S7
 refine SL.r 23 (iv (r1 - 1)) ?_
 refine SL.lb S7 1 rfl 24 (.slice la len cap) ?_
 refine SL.r 25 (iv (len : Int)) ?_
 refine SL.r 26 (iv (IntKind.wrap .i64 ((len : Int) - 2))) ?_
 refine SL.head (iv ((len : Int) - 2)) (congrArg (Value.int .i64) (IntWalk.i64_in _ (by omega))) ?_
 refine SL.r 27 (iv (if ((len : Int) - 2) < (r1 - 1) then ((len : Int) - 2) else (r1 - 1))) ?_
 refine SL.head (iv (min (r1 - 1) ((len : Int) - 2))) (congrArg (Value.int .i64) (by omega)) ?_
 refine SL.lb S7 0 rfl 28 (iv (min (max x (l.getD 0 0)) (l.getD ((len : Int) - 1).toNat 0))) ?_
 refine SL.r 4 (iv (min (r1 - 1) ((len : Int) - 2))) ?_
 refine SL.r 5 (iv (min (max x (l.getD 0 0)) (l.getD ((len : Int) - 1).toNat 0))) ?_
 refine SL.done ?_
 refine TL.done (by kernel_rfl) ?_
 refine J.e 0 [iv (min (r1 - 1) ((len : Int) - 2)), iv (min (max x (l.getD 0 0)) (l.getD ((len : Int) - 1).toNat 0))] Tryz.func156 (hR _ _ ?_)
 have hxc : min (max x (l.getD 0 0)) (l.getD ((len : Int) - 1).toNat 0) = min (max x (l.getD 0 0)) (l.getD (l.length - 1) 0) := by rw [show ((len : Int) - 1).toNat = l.length - 1 by omega]
 have hseg := seg_search (r := r1) ax hxc (by omega) hr12 (by rw [hll]; exact hr13)
 rw [hll] at hseg
 exact ⟨_, _, rfl, ⟨hxc, by rw [hll]; exact hseg⟩, S7.nil⟩

end Go.Proofs.YtaoolgcddapegaaGreatDoor

namespace Go.Proofs.YtaoolgcddapegaaGreatDoor
open Go.Eng Go.RowKit
set_option linter.unusedSimpArgs false
set_option linter.unusedVariables false
set_option maxRecDepth 20000
set_option maxHeartbeats 20000000
theorem hb157 : HasBody Tryz.prog 157 := fun _ _ => by kernel_rfl

theorem along_any (m : Mp) (i x j : Int) (bx1 bx2 bx3 : Nat) (w : World) (hm : mpQ w m) (hv : validM m = true) (hi : 0 ≤ i ∧ i + 1 < (m.gX_n : Int)) (hj : 0 ≤ j ∧ j < (m.gY_n : Int)) (hx : m.gX_l.getD (i).toNat 0 ≤ x ∧ x ≤ m.gX_l.getD (i + 1).toNat 0) (hb1 : (box bx1 (mpC m) 62).holds w) (hb2 : (box bx2 [iv i] 3).holds w) (hb3 : (box bx3 [iv x] 3).holds w) : Ret Tryz.prog 157 #[iv j, pv bx1, pv bx2, pv bx3] w (fun v w' => v = iv (btwF (m.gX_l.getD (i).toNat 0) (m.gX_l.getD (i + 1).toNat 0) ((m.gZ_l.getD (i).toNat rw0).gS_l.getD (j).toNat 0) ((m.gZ_l.getD (i + 1).toNat rw0).gS_l.getD (j).toNat 0) x) ∧ Sep w [] w') := by
 refine Ret.st (N := 36) Tryz.func157 fun R hR S0 => ?_
 obtain ⟨q1, q2, q3, q4, q5, q6, q7, q8, q9, _⟩ := id hm
 have ql1 := q2.len_eq
 have ql2 := q5.len_eq
 have ql3 := q8.len_eq
 obtain ⟨hv1, hv2, hv3, hv4⟩ := valid_facts hv
 obtain ⟨hx1, hx2, hx3⟩ := axis_facts hv1
 obtain ⟨hy1, hy2, hy3⟩ := axis_facts hv2
 have ha1 := hx2 i.toNat (by omega)
 have ha2 := hx2 (i + 1).toNat (by omega)
 have ha3 := axis_mono hv1 (show i.toNat < (i + 1).toNat by omega) (by omega)
 obtain ⟨hz1, hz2⟩ := hv4 i.toNat (by omega)
 obtain ⟨hz3, hz4⟩ := hv4 (i + 1).toNat (by omega)
 refine J.r 5 [] [] [] ?_
 obtain ⟨p1, hp1, hc1⟩ := q2.at 0 (i).toNat (by omega)
 have hel1 := getD_Q q3 0 (n := (i).toNat) (by have := q2.len_eq; omega)
 obtain ⟨p2, hp2, hc2⟩ := q2.at 0 (i + 1).toNat (by omega)
 have hel2 := getD_Q q3 0 (n := (i + 1).toNat) (by have := q2.len_eq; omega)
 obtain ⟨p3, hp3, hc3⟩ := q8.at rw0 (i).toNat (by omega)
 have hel3 := getD_Q q9 rw0 (n := (i).toNat) (by have := q8.len_eq; omega)
 obtain ⟨q10, q11, q12, _⟩ := id hel3
 have ql4 := q11.len_eq
 obtain ⟨p4, hp4, hc4⟩ := q11.at 0 (j).toNat (by omega)
 have hel4 := getD_Q q12 0 (n := (j).toNat) (by have := q11.len_eq; omega)
 obtain ⟨p5, hp5, hc5⟩ := q8.at rw0 (i + 1).toNat (by omega)
 have hel5 := getD_Q q9 rw0 (n := (i + 1).toNat) (by have := q8.len_eq; omega)
 obtain ⟨q13, q14, q15, _⟩ := id hel5
 have ql5 := q14.len_eq
 obtain ⟨p6, hp6, hc6⟩ := q14.at 0 (j).toNat (by omega)
 have hel6 := getD_Q q15 0 (n := (j).toNat) (by have := q14.len_eq; omega)
 refine J.drawTail S0 29 Tryz.mixed (by kernel_rfl) (by kernel_rfl) ?_
 intro w1 S1
 refine SL.r 6 (pv bx1) ?_
 refine SL.ok (by decide) (OK.ldRo S1 hb1 7 26 0 (.slice m.gX_a m.gX_n m.gX_c) (by kernel_rfl) (by kernel_rfl)) ?_
 refine SL.ok (by decide) (OK.ldRo S1 hb2 8 3 0 (iv i) (by kernel_rfl) (by kernel_rfl)) ?_
 refine SL.ok (by decide) (OK.index 9 26 1 m.gX_a p1 m.gX_n (i).toNat i (p1.add (i).toNat) (by kernel_rfl) (by kernel_rfl) hp1 (by omega) (by omega) (by rw [Nat.mul_one])) ?_
 refine SL.ok (by decide) (OK.ldCell 10 3 (p1.add (i).toNat) (iv (m.gX_l.getD (i).toNat 0)) (by kernel_rfl) (by kernel_rfl) (S1.cell hc1)) ?_
 refine SL.r 11 (pv bx1) ?_
 refine SL.ok (by decide) (OK.ldRo S1 hb1 12 26 0 (.slice m.gX_a m.gX_n m.gX_c) (by kernel_rfl) (by kernel_rfl)) ?_
 refine SL.ok (by decide) (OK.ldRo S1 hb2 13 3 0 (iv i) (by kernel_rfl) (by kernel_rfl)) ?_
 refine SL.r 14 (iv (IntKind.wrap .i64 (i + 1))) ?_
 refine SL.head (iv (i + 1)) (congrArg (Value.int .i64) (IntWalk.i64_in _ (by omega))) ?_
 refine SL.ok (by decide) (OK.index 15 26 1 m.gX_a p2 m.gX_n (i + 1).toNat (i + 1) (p2.add (i + 1).toNat) (by kernel_rfl) (by kernel_rfl) hp2 (by omega) (by omega) (by rw [Nat.mul_one])) ?_
 refine SL.ok (by decide) (OK.ldCell 16 3 (p2.add (i + 1).toNat) (iv (m.gX_l.getD (i + 1).toNat 0)) (by kernel_rfl) (by kernel_rfl) (S1.cell hc2)) ?_
 refine SL.r 17 (.pointer (some ⟨bx1, 2, none⟩)) ?_
 refine SL.ok (by decide) (OK.ldRo S1 hb1 18 60 2 (.slice m.gZ_a m.gZ_n m.gZ_c) (by kernel_rfl) (by kernel_rfl)) ?_
 refine SL.ok (by decide) (OK.ldRo S1 hb2 19 3 0 (iv i) (by kernel_rfl) (by kernel_rfl)) ?_
 refine SL.ok (by decide) (OK.index 20 60 1 m.gZ_a p3 m.gZ_n (i).toNat i (p3.add ((i).toNat * 1)) (by kernel_rfl) (by kernel_rfl) hp3 (by omega) (by omega) rfl) ?_
 refine SL.ok (by decide) (OK.ldCell 21 26 (p3.add ((i).toNat * 1)) (.slice ((m.gZ_l.getD (i).toNat rw0).gS_a) ((m.gZ_l.getD (i).toNat rw0).gS_n) ((m.gZ_l.getD (i).toNat rw0).gS_c)) (by kernel_rfl) (by kernel_rfl) (S1.cell (cell_zero (hc3 0 _ rfl)))) ?_
 refine SL.r 22 (iv j) ?_
 refine SL.ok (by decide) (OK.index 23 26 1 ((m.gZ_l.getD (i).toNat rw0).gS_a) p4 ((m.gZ_l.getD (i).toNat rw0).gS_n) (j).toNat j (p4.add (j).toNat) (by kernel_rfl) (by kernel_rfl) hp4 (by omega) (by omega) (by rw [Nat.mul_one])) ?_
 refine SL.ok (by decide) (OK.ldCell 24 3 (p4.add (j).toNat) (iv (((m.gZ_l.getD (i).toNat rw0).gS_l).getD (j).toNat 0)) (by kernel_rfl) (by kernel_rfl) (S1.cell hc4)) ?_
 refine SL.r 25 (.pointer (some ⟨bx1, 2, none⟩)) ?_
 refine SL.ok (by decide) (OK.ldRo S1 hb1 26 60 2 (.slice m.gZ_a m.gZ_n m.gZ_c) (by kernel_rfl) (by kernel_rfl)) ?_
 refine SL.ok (by decide) (OK.ldRo S1 hb2 27 3 0 (iv i) (by kernel_rfl) (by kernel_rfl)) ?_
 refine SL.r 28 (iv (IntKind.wrap .i64 (i + 1))) ?_
 refine SL.head (iv (i + 1)) (congrArg (Value.int .i64) (IntWalk.i64_in _ (by omega))) ?_
 refine SL.ok (by decide) (OK.index 29 60 1 m.gZ_a p5 m.gZ_n (i + 1).toNat (i + 1) (p5.add ((i + 1).toNat * 1)) (by kernel_rfl) (by kernel_rfl) hp5 (by omega) (by omega) rfl) ?_
 refine SL.ok (by decide) (OK.ldCell 30 26 (p5.add ((i + 1).toNat * 1)) (.slice ((m.gZ_l.getD (i + 1).toNat rw0).gS_a) ((m.gZ_l.getD (i + 1).toNat rw0).gS_n) ((m.gZ_l.getD (i + 1).toNat rw0).gS_c)) (by kernel_rfl) (by kernel_rfl) (S1.cell (cell_zero (hc5 0 _ rfl)))) ?_
 refine SL.r 31 (iv j) ?_
 refine SL.ok (by decide) (OK.index 32 26 1 ((m.gZ_l.getD (i + 1).toNat rw0).gS_a) p6 ((m.gZ_l.getD (i + 1).toNat rw0).gS_n) (j).toNat j (p6.add (j).toNat) (by kernel_rfl) (by kernel_rfl) hp6 (by omega) (by omega) (by rw [Nat.mul_one])) ?_
 refine SL.ok (by decide) (OK.ldCell 33 3 (p6.add (j).toNat) (iv (((m.gZ_l.getD (i + 1).toNat rw0).gS_l).getD (j).toNat 0)) (by kernel_rfl) (by kernel_rfl) (S1.cell hc6)) ?_
 refine SL.ok (by decide) (OK.ldRo S1 hb3 34 3 0 (iv x) (by kernel_rfl) (by kernel_rfl)) ?_
 refine SL.done ?_
 have hz5 := hz2 j.toNat (by omega)
 have hz6 := hz4 j.toNat (by omega)
 refine TL.callF 35 158 #[iv (m.gX_l.getD (i).toNat 0), iv (m.gX_l.getD (i + 1).toNat 0), iv (((m.gZ_l.getD (i).toNat rw0).gS_l).getD (j).toNat 0), iv (((m.gZ_l.getD (i + 1).toNat rw0).gS_l).getD (j).toNat 0), iv x] hb158 (by kernel_rfl) (between_any (m.gX_l.getD (i).toNat 0) (m.gX_l.getD (i + 1).toNat 0) (((m.gZ_l.getD (i).toNat rw0).gS_l).getD (j).toNat 0) (((m.gZ_l.getD (i + 1).toNat rw0).gS_l).getD (j).toNat 0) x _ (by omega) (by omega) (by omega) (by omega) (by omega)) ?_
 rintro _ w2 ⟨rfl, T1⟩
 have S2 : Sep w [] w2 := S1.trans T1
 clear T1 S1
 have := btw_bounds (x0 := (m.gX_l.getD (i).toNat 0)) (x1 := (m.gX_l.getD (i + 1).toNat 0)) (y0 := (((m.gZ_l.getD (i).toNat rw0).gS_l).getD (j).toNat 0)) (y1 := (((m.gZ_l.getD (i + 1).toNat rw0).gS_l).getD (j).toNat 0)) (x := x) (by omega) (by omega) (by omega)
 refine TL.r 5 (iv (btwF (m.gX_l.getD (i).toNat 0) (m.gX_l.getD (i + 1).toNat 0) (((m.gZ_l.getD (i).toNat rw0).gS_l).getD (j).toNat 0) (((m.gZ_l.getD (i + 1).toNat rw0).gS_l).getD (j).toNat 0) x)) ?_
 refine TL.done (by kernel_rfl) ?_
 refine J.e 0 [iv (btwF (m.gX_l.getD (i).toNat 0) (m.gX_l.getD (i + 1).toNat 0) (((m.gZ_l.getD (i).toNat rw0).gS_l).getD (j).toNat 0) (((m.gZ_l.getD (i + 1).toNat rw0).gS_l).getD (j).toNat 0) x)] Tryz.func157 (hR _ _ ?_)
 exact ⟨rfl, S2.nil⟩

def colZ (m : Mp) (j : Nat) : List Int := (List.range m.gX_n).map fun i => zF m i j
def colF (m : Mp) (x : Int) : List Int := (List.range m.gY_n).map fun j => curveF m.gX_l (colZ m j) x
def valueF (m : Mp) (x y : Int) : Int := curveF m.gY_l (colF m x) y
theorem colZ_getD (m : Mp) {i j : Nat} (h : i < m.gX_n) : (colZ m j).getD i 0 = zF m i j := by simp [colZ, List.getD, h]
theorem colF_getD (m : Mp) (x : Int) {j : Nat} (h : j < m.gY_n) : (colF m x).getD j 0 = curveF m.gX_l (colZ m j) x := by simp [colF, List.getD, h]
theorem value_at {m : Mp} {x y i j x' y' : Int} (hX : m.gX_l.length = m.gX_n) (hY : m.gY_l.length = m.gY_n) (ax : axisB m.gX_l = true) (ay : axisB m.gY_l = true)
    (a1 : x' = min (max x (m.gX_l.getD 0 0)) (m.gX_l.getD (m.gX_l.length - 1) 0)) (a2 : 0 ≤ i ∧ i + 1 < (m.gX_l.length : Int)) (a3 : m.gX_l.getD i.toNat 0 ≤ x') (a4 : x' ≤ m.gX_l.getD (i + 1).toNat 0) (a5 : x' < m.gX_l.getD (i + 1).toNat 0 ∨ i + 2 = (m.gX_l.length : Int))
    (b1 : y' = min (max y (m.gY_l.getD 0 0)) (m.gY_l.getD (m.gY_l.length - 1) 0)) (b2 : 0 ≤ j ∧ j + 1 < (m.gY_l.length : Int)) (b3 : m.gY_l.getD j.toNat 0 ≤ y') (b4 : y' ≤ m.gY_l.getD (j + 1).toNat 0) (b5 : y' < m.gY_l.getD (j + 1).toNat 0 ∨ j + 2 = (m.gY_l.length : Int)) :
    btwF (m.gY_l.getD j.toNat 0) (m.gY_l.getD (j + 1).toNat 0)
      (btwF (m.gX_l.getD i.toNat 0) (m.gX_l.getD (i + 1).toNat 0) ((m.gZ_l.getD i.toNat rw0).gS_l.getD j.toNat 0) ((m.gZ_l.getD (i + 1).toNat rw0).gS_l.getD j.toNat 0) x')
      (btwF (m.gX_l.getD i.toNat 0) (m.gX_l.getD (i + 1).toNat 0) ((m.gZ_l.getD i.toNat rw0).gS_l.getD (j + 1).toNat 0) ((m.gZ_l.getD (i + 1).toNat rw0).gS_l.getD (j + 1).toNat 0) x') y' = valueF m x y := by
  have ei : (i + 1).toNat = i.toNat + 1 := by omega
  have ej : (j + 1).toNat = j.toNat + 1 := by omega
  rw [ei] at a4 a5 ⊢
  rw [ej] at b4 b5 ⊢
  have key : ∀ k : Nat, btwF (m.gX_l.getD i.toNat 0) (m.gX_l.getD (i.toNat + 1) 0) ((m.gZ_l.getD i.toNat rw0).gS_l.getD k 0) ((m.gZ_l.getD (i.toNat + 1) rw0).gS_l.getD k 0) x' = curveF m.gX_l (colZ m k) x := by
    intro k
    rw [curve_seg (i := i.toNat) ax (by omega) a3 a4 (by omega) a1, colZ_getD m (by omega), colZ_getD m (by omega)]; rfl
  rw [key, key]
  unfold valueF
  rw [curve_seg (i := j.toNat) ay (by omega) b3 b4 (by omega) b1, colF_getD m x (by omega), colF_getD m x (by omega)]

theorem row_len {w : World} {m : Mp} (hm : mpQ w m) {i : Nat} (hi : i < m.gZ_l.length) : (m.gZ_l.getD i rw0).gS_l.length = (m.gZ_l.getD i rw0).gS_n := (getD_Q hm.2.2.2.2.2.2.2.2.1 rw0 hi).2.1.len_eq
theorem hb108 : HasBody Tryz.prog 108 := fun _ _ => by kernel_rfl

theorem at_any (m : Mp) (x y : Int) (w : World) (hm : mpQ w m) (hv : validM m = true) : Ret Tryz.prog 108 #[.agg (mpA m), iv x, iv y] w (fun v w' => v = iv (valueF m x y) ∧ Sep w [] w') := by
 refine Ret.st (N := 45) Tryz.func108 fun R hR S0 => ?_
 obtain ⟨q1, q2, q3, q4, q5, q6, q7, q8, q9, _⟩ := id hm
 have ql1 := q2.len_eq
 have ql2 := q5.len_eq
 have ql3 := q8.len_eq
 obtain ⟨hv1, hv2, hv3, hv4⟩ := valid_facts hv
 obtain ⟨hx1, hx2, hx3⟩ := axis_facts hv1
 obtain ⟨hy1, hy2, hy3⟩ := axis_facts hv2
 refine J.nw 2 [] [] [] S0 3 (mpC m) 62 fun b1 w1 S1 => ?_
 refine J.nw 0 [] [] [] S1 4 [iv x] 3 fun b2 w2 S2 => ?_
 refine J.lb 5 [] [] [] S2 1 rfl 12 (.slice m.gX_a m.gX_n m.gX_c) ?_
 refine J.lb 0 [] [] [] S2 0 rfl 13 (iv x) ?_
 refine J.callF 14 156 #[.slice m.gX_a m.gX_n m.gX_c, iv x] hb156 (by kernel_rfl) (segment_any m.gX_a m.gX_n m.gX_c m.gX_l x _ (q2.sep S2) (by omega) hv1) ?_
 rintro _ w3 ⟨i1, x1, rfl, ⟨hs1a, hs1b, hs1c, hs1d, hs1e⟩, T1⟩
 have S3 : Sep w [box b2 [iv x] 3, box b1 (mpC m) 62] w3 := S2.trans T1
 refine J.nw 3 [] [(16, iv x1), (15, iv i1)] [] S3 7 [iv 0] 3 fun b3 w4 S4 => ?_
 refine J.sb 0 [] [] [] S4 0 rfl [iv i1] rfl fun w5 S5 => ?_
 refine J.sb 0 [] [] [] S5 1 rfl [iv x1] rfl fun w6 S6 => ?_
 refine J.lb 4 [] [] [] S6 2 rfl 19 (.slice m.gY_a m.gY_n m.gY_c) ?_
 refine J.r 1 [] [(20, iv y)] [] ?_
 refine J.callF 21 156 #[.slice m.gY_a m.gY_n m.gY_c, iv y] hb156 (by kernel_rfl) (segment_any m.gY_a m.gY_n m.gY_c m.gY_l y _ (q5.sep S6) (by omega) hv2) ?_
 rintro _ w7 ⟨i2, x2, rfl, ⟨hs2a, hs2b, hs2c, hs2d, hs2e⟩, T2⟩
 have S7 : Sep w [box b3 [iv i1] 3, box b2 [iv x1] 3, box b1 (mpC m) 62] w7 := S6.trans T2
 refine J.r 12 [] [(9, .func (.func 157) #[] #[pv b1, pv b3, pv b2]), (2, iv x2), (8, iv i2)] [] ?_
 obtain ⟨p1, hp1, hc1⟩ := q5.at 0 (i2).toNat (by omega)
 have hel1 := getD_Q q6 0 (n := (i2).toNat) (by have := q5.len_eq; omega)
 obtain ⟨p2, hp2, hc2⟩ := q5.at 0 (i2 + 1).toNat (by omega)
 have hel2 := getD_Q q6 0 (n := (i2 + 1).toNat) (by have := q5.len_eq; omega)
 refine J.drawPlan (fun w_ => Sep w [box b3 [iv i1] 3, box b2 [iv x1] 3, box b1 (mpC m) 62] w_) [(0, true), (1, true), (2, true), (3, true), (4, true), (5, true), (6, true), (7, true), (8, true), (9, true), (10, true), (11, true), (12, true), (14, true), (15, true), (16, true), (18, true), (13, false), (17, false), (19, false), (20, true)] S7 Tryz.mixed (by kernel_rfl) (planOK_of (T := [(0, some 25, 8), (1, some 26, 33554432), (0, some 27, 256), (6, some 28, 201326592), (8, some 29, 268435456), (0, some 30, 8), (32, some 31, 1073741824), (0, some 32, 256), (128, some 33, 4294967296), (320, some 34, 10737418240), (512, some 35, 17179869184), (0, some 36, 512), (0, some 37, 256), (6144, some 38, 206158430208), (0, some 39, 512), (0, some 40, 256), (32768, some 41, 1099511627776), (90112, some 42, 2748779069440), (0, some 43, 4), (402448, some 44, 13503914049536), (1048575, some 6, 17592186044416)]) (by kernel_rfl) (by kernel_rfl)) ?_
 intro w8 S8
 refine PB.mk S8 ?_
 refine PL.take 0 25 (.pointer (some ⟨b1, 1, none⟩)) (fun _ _ => by kernel_rfl) ?_
 refine PL.takeOK 1 (fun w_ S_ => OK.ldBox S_ 2 26 26 1 (.slice m.gY_a m.gY_n m.gY_c) (by kernel_rfl) rfl (by kernel_rfl)) rfl ?_
 refine PL.take 2 27 (iv i2) (fun _ _ => by kernel_rfl) ?_
 refine PL.takeOK 3 (fun w_ S_ => OK.index 28 26 1 m.gY_a p1 m.gY_n (i2).toNat i2 (p1.add (i2).toNat) (by kernel_rfl) (by kernel_rfl) hp1 (by omega) (by omega) (by rw [Nat.mul_one])) rfl ?_
 refine PL.takeOK 4 (fun w_ S_ => OK.ldCell 29 3 (p1.add (i2).toNat) (iv (m.gY_l.getD (i2).toNat 0)) (by kernel_rfl) (by kernel_rfl) (S_.cell hc1)) rfl ?_
 refine PL.take 5 30 (.pointer (some ⟨b1, 1, none⟩)) (fun _ _ => by kernel_rfl) ?_
 refine PL.takeOK 6 (fun w_ S_ => OK.ldBox S_ 2 31 26 1 (.slice m.gY_a m.gY_n m.gY_c) (by kernel_rfl) rfl (by kernel_rfl)) rfl ?_
 refine PL.take 7 32 (iv i2) (fun _ _ => by kernel_rfl) ?_
 refine PL.take 8 33 (iv (IntKind.wrap .i64 (i2 + 1))) (fun _ _ => by kernel_rfl) ?_
 refine PL.head (iv (i2 + 1)) (congrArg (Value.int .i64) (IntWalk.i64_in _ (by omega))) ?_
 refine PL.takeOK 9 (fun w_ S_ => OK.index 34 26 1 m.gY_a p2 m.gY_n (i2 + 1).toNat (i2 + 1) (p2.add (i2 + 1).toNat) (by kernel_rfl) (by kernel_rfl) hp2 (by omega) (by omega) (by rw [Nat.mul_one])) rfl ?_
 refine PL.takeOK 10 (fun w_ S_ => OK.ldCell 35 3 (p2.add (i2 + 1).toNat) (iv (m.gY_l.getD (i2 + 1).toNat 0)) (by kernel_rfl) (by kernel_rfl) (S_.cell hc2)) rfl ?_
 refine PL.take 11 36 (.func (.func 157) #[] #[pv b1, pv b3, pv b2]) (fun _ _ => by kernel_rfl) ?_
 refine PL.take 12 37 (iv i2) (fun _ _ => by kernel_rfl) ?_
 refine PL.take 14 39 (.func (.func 157) #[] #[pv b1, pv b3, pv b2]) (fun _ _ => by kernel_rfl) ?_
 refine PL.take 15 40 (iv i2) (fun _ _ => by kernel_rfl) ?_
 refine PL.take 16 41 (iv (IntKind.wrap .i64 (i2 + 1))) (fun _ _ => by kernel_rfl) ?_
 refine PL.head (iv (i2 + 1)) (congrArg (Value.int .i64) (IntWalk.i64_in _ (by omega))) ?_
 refine PL.take 18 43 (iv x2) (fun _ _ => by kernel_rfl) ?_
 refine PL.callF 38 157 #[iv i2, pv b1, pv b3, pv b2] hb157 (by kernel_rfl) (along_any m i1 x1 i2 b1 b3 b2 _ (mpQ_sep hm S8) hv (by omega) (by omega) (by omega) (S8.nth 2 rfl) (S8.nth 0 rfl) (S8.nth 1 rfl)) ?_
 rintro _ w9 ⟨rfl, T3⟩
 have S9 : Sep w [box b3 [iv i1] 3, box b2 [iv x1] 3, box b1 (mpC m) 62] w9 := S8.trans T3
 refine PB.mk S9 ?_
 refine PL.callF 42 157 #[iv (i2 + 1), pv b1, pv b3, pv b2] hb157 (by kernel_rfl) (along_any m i1 x1 (i2 + 1) b1 b3 b2 _ (mpQ_sep hm S9) hv (by omega) (by omega) (by omega) (S9.nth 2 rfl) (S9.nth 0 rfl) (S9.nth 1 rfl)) ?_
 rintro _ w10 ⟨rfl, T4⟩
 have S10 : Sep w [box b3 [iv i1] 3, box b2 [iv x1] 3, box b1 (mpC m) 62] w10 := S9.trans T4
 refine PB.mk S10 ?_
 have hby := hy2 i2.toNat (by omega)
 have hby2 := hy2 (i2 + 1).toNat (by omega)
 have hby3 := axis_mono hv2 (show i2.toNat < (i2 + 1).toNat by omega) (by omega)
 have hzb := btw_bounds (x0 := m.gX_l.getD (i1).toNat 0) (x1 := m.gX_l.getD (i1 + 1).toNat 0) (y0 := (m.gZ_l.getD (i1).toNat rw0).gS_l.getD (i2).toNat 0) (y1 := (m.gZ_l.getD (i1 + 1).toNat rw0).gS_l.getD (i2).toNat 0) (x := x1) (axis_mono hv1 (show i1.toNat < (i1 + 1).toNat by omega) (by omega)) (by omega) (by omega)
 have hzc := (hv4 i1.toNat (by omega)).2 (i2).toNat (by have := (hv4 i1.toNat (by omega)).1; have := row_len hm (i := i1.toNat) (by omega); omega)
 have hzd := (hv4 (i1 + 1).toNat (by omega)).2 (i2).toNat (by have := (hv4 (i1 + 1).toNat (by omega)).1; have := row_len hm (i := (i1 + 1).toNat) (by omega); omega)
 have hzb := btw_bounds (x0 := m.gX_l.getD (i1).toNat 0) (x1 := m.gX_l.getD (i1 + 1).toNat 0) (y0 := (m.gZ_l.getD (i1).toNat rw0).gS_l.getD (i2 + 1).toNat 0) (y1 := (m.gZ_l.getD (i1 + 1).toNat rw0).gS_l.getD (i2 + 1).toNat 0) (x := x1) (axis_mono hv1 (show i1.toNat < (i1 + 1).toNat by omega) (by omega)) (by omega) (by omega)
 have hzc := (hv4 i1.toNat (by omega)).2 (i2 + 1).toNat (by have := (hv4 i1.toNat (by omega)).1; have := row_len hm (i := i1.toNat) (by omega); omega)
 have hzd := (hv4 (i1 + 1).toNat (by omega)).2 (i2 + 1).toNat (by have := (hv4 (i1 + 1).toNat (by omega)).1; have := row_len hm (i := (i1 + 1).toNat) (by omega); omega)
 refine PL.callF 44 158 #[iv (m.gY_l.getD (i2).toNat 0), iv (m.gY_l.getD (i2 + 1).toNat 0), iv (btwF (m.gX_l.getD (i1).toNat 0) (m.gX_l.getD (i1 + 1).toNat 0) ((m.gZ_l.getD (i1).toNat rw0).gS_l.getD (i2).toNat 0) ((m.gZ_l.getD (i1 + 1).toNat rw0).gS_l.getD (i2).toNat 0) x1), iv (btwF (m.gX_l.getD (i1).toNat 0) (m.gX_l.getD (i1 + 1).toNat 0) ((m.gZ_l.getD (i1).toNat rw0).gS_l.getD (i2 + 1).toNat 0) ((m.gZ_l.getD (i1 + 1).toNat rw0).gS_l.getD (i2 + 1).toNat 0) x1), iv x2] hb158 (by kernel_rfl) (between_any (m.gY_l.getD (i2).toNat 0) (m.gY_l.getD (i2 + 1).toNat 0) (btwF (m.gX_l.getD (i1).toNat 0) (m.gX_l.getD (i1 + 1).toNat 0) ((m.gZ_l.getD (i1).toNat rw0).gS_l.getD (i2).toNat 0) ((m.gZ_l.getD (i1 + 1).toNat rw0).gS_l.getD (i2).toNat 0) x1) (btwF (m.gX_l.getD (i1).toNat 0) (m.gX_l.getD (i1 + 1).toNat 0) ((m.gZ_l.getD (i1).toNat rw0).gS_l.getD (i2 + 1).toNat 0) ((m.gZ_l.getD (i1 + 1).toNat rw0).gS_l.getD (i2 + 1).toNat 0) x1) x2 _ (by omega) (by omega) (by omega) (by omega) (by omega)) ?_
 rintro _ w11 ⟨rfl, T5⟩
 have S11 : Sep w [box b3 [iv i1] 3, box b2 [iv x1] 3, box b1 (mpC m) 62] w11 := S10.trans T5
 clear T5 S10
 have := btw_bounds (x0 := (m.gY_l.getD (i2).toNat 0)) (x1 := (m.gY_l.getD (i2 + 1).toNat 0)) (y0 := (btwF (m.gX_l.getD (i1).toNat 0) (m.gX_l.getD (i1 + 1).toNat 0) ((m.gZ_l.getD (i1).toNat rw0).gS_l.getD (i2).toNat 0) ((m.gZ_l.getD (i1 + 1).toNat rw0).gS_l.getD (i2).toNat 0) x1)) (y1 := (btwF (m.gX_l.getD (i1).toNat 0) (m.gX_l.getD (i1 + 1).toNat 0) ((m.gZ_l.getD (i1).toNat rw0).gS_l.getD (i2 + 1).toNat 0) ((m.gZ_l.getD (i1 + 1).toNat rw0).gS_l.getD (i2 + 1).toNat 0) x1)) (x := x2) (by omega) (by omega) (by omega)
 refine PB.mk S11 ?_
 refine PL.take 20 6 (iv (btwF (m.gY_l.getD (i2).toNat 0) (m.gY_l.getD (i2 + 1).toNat 0) (btwF (m.gX_l.getD (i1).toNat 0) (m.gX_l.getD (i1 + 1).toNat 0) ((m.gZ_l.getD (i1).toNat rw0).gS_l.getD (i2).toNat 0) ((m.gZ_l.getD (i1 + 1).toNat rw0).gS_l.getD (i2).toNat 0) x1) (btwF (m.gX_l.getD (i1).toNat 0) (m.gX_l.getD (i1 + 1).toNat 0) ((m.gZ_l.getD (i1).toNat rw0).gS_l.getD (i2 + 1).toNat 0) ((m.gZ_l.getD (i1 + 1).toNat rw0).gS_l.getD (i2 + 1).toNat 0) x1) x2)) (fun _ _ => by kernel_rfl) ?_
 refine PL.done ?_
 refine J.e 0 [iv (btwF (m.gY_l.getD (i2).toNat 0) (m.gY_l.getD (i2 + 1).toNat 0) (btwF (m.gX_l.getD (i1).toNat 0) (m.gX_l.getD (i1 + 1).toNat 0) ((m.gZ_l.getD (i1).toNat rw0).gS_l.getD (i2).toNat 0) ((m.gZ_l.getD (i1 + 1).toNat rw0).gS_l.getD (i2).toNat 0) x1) (btwF (m.gX_l.getD (i1).toNat 0) (m.gX_l.getD (i1 + 1).toNat 0) ((m.gZ_l.getD (i1).toNat rw0).gS_l.getD (i2 + 1).toNat 0) ((m.gZ_l.getD (i1 + 1).toNat rw0).gS_l.getD (i2 + 1).toNat 0) x1) x2)] Tryz.func108 (hR _ _ ?_)
 exact ⟨congrArg (Value.int .i64) (value_at (m := m) (x := x) (y := y) (i := i1) (j := i2) (x' := x1) (y' := x2) (by omega) (by omega) hv1 hv2 hs1a hs1b hs1c hs1d hs1e hs2a hs2b hs2c hs2d hs2e), S11.nil⟩

def atF (m : Mp) (x y : Int) : Int := if validM m then valueF m x y else 0
theorem hb64 : HasBody Tryz.prog 64 := fun _ _ => by kernel_rfl

theorem At_any (m : Mp) (x y : Int) (w : World) (hm : mpQ w m) : Ret Tryz.prog 64 #[.agg (mpA m), iv x, iv y] w (fun v w' => v = iv (atF m x y) ∧ Sep w [] w') := by
 refine Ret.st (N := 14) Tryz.func64 fun R hR S0 => ?_
 obtain ⟨q1, q2, q3, q4, q5, q6, q7, q8, q9, _⟩ := id hm
 have ql1 := q2.len_eq
 have ql2 := q5.len_eq
 have ql3 := q8.len_eq
 refine J.nw 2 [] [] [] S0 3 (mpC m) 62 fun b1 w1 S1 => ?_
 refine J.lb 5 [] [] [] S1 0 rfl 7 (.agg (mpA m)) ?_
 refine J.c0 0 [] [] [] S1 8 hb99 (valid_any m _ (mpQ_sep hm S1)) fun w2 S2 => ?_
 refine J.bn 2 [] [] [] 9 (validM m) (fun fk1 => ?_) fun fk1 => ?_
 ·skip
  have hv := fk1
  refine J.lb 4 [false] [] [] S2 0 rfl 10 (.agg (mpA m)) ?_
  refine J.c0 2 [] [] [] S2 13 hb108 (at_any m x y _ (mpQ_sep hm S2) hv) fun w3 S3 => ?_
  refine J.e 2 [iv (valueF m x y)] Tryz.func64 (hR _ _ ?_)
  exact ⟨congrArg (Value.int .i64) (by unfold atF; rw [fk1]; rfl), S3.nil⟩
 refine J.e 5 [iv 0] Tryz.func64 (hR _ _ ?_)
 exact ⟨congrArg (Value.int .i64) (by unfold atF; rw [fk1]; rfl), S2.nil⟩

end Go.Proofs.YtaoolgcddapegaaGreatDoor

namespace Go.Proofs.YtaoolgcddapegaaGreatDoor
open Go.Eng Go.RowKit
set_option linter.unusedSimpArgs false
set_option linter.unusedVariables false
set_option maxRecDepth 20000
set_option maxHeartbeats 20000000
/-- what is known of a valid map -/
structure Vm (m : Mp) : Prop where
  ax : axisB m.gX_l = true
  ay : axisB m.gY_l = true
  z : ∀ i, i < m.gX_n → ∀ j, j < m.gY_n → -1073741824 ≤ zF m i j ∧ zF m i j ≤ 1073741824
end Go.Proofs.YtaoolgcddapegaaGreatDoor

namespace Go.Proofs.YtaoolgcddapegaaGreatDoor
open Go.Eng Go.RowKit
set_option linter.unusedSimpArgs false
set_option linter.unusedVariables false
set_option maxRecDepth 20000
set_option maxHeartbeats 20000000
theorem hb61 : HasBody Tryz.prog 61 := fun _ _ => by kernel_rfl

theorem clone_any (la : Option Addr) (len cap : Nat) (l : List Int) (w : World) (hI : Ints w la len l) (hlen : len ≤ 9223372036854775807) (hsm : len ≤ 4096) : Ret Tryz.prog 61 #[.slice la len cap] w (fun v w' => ∃ a cap, v = .slice a (l).length cap ∧ Sep w [rowOf encI a cap 3 1 (l)] w') := by
 refine Ret.st (N := 8) Tryz.func61 fun R hR S0 => ?_
 have hll := hI.len_eq
 refine J.r 8 [] [(3, .slice la len cap)] [] ?_
 refine J.ok (OK.nilS 4 true 26 la (by kernel_rfl) (by kernel_rfl) la.isNone (by simp)) ?_
 refine J.b 1 [] [] [] 4 la.isNone (fun fk1 => ?_) fun fk1 => ?_
 ·skip
  refine J.e 5 [.slice none 0 0] Tryz.func61 (hR _ _ ?_)
  have e_ : l = [] := by cases la with | none => exact hI.nil | some p => simp at fk1
  subst e_
  exact ⟨none, 0, rfl, S0.nilRow 3 1⟩
 refine J.r 4 [false] [] [] ?_
 refine J.newSlice S0 5 0 [] 3 (by kernel_rfl) ?_
 intro b1 w1 S1
 refine J.r 1 [] [(6, .slice la len cap)] [] ?_
 have S2 : Sep w [rowOf encI (some ⟨b1, 0, none⟩) 0 3 1 ([])] w1 := box_row encI S1 0 [] 1 rfl rfl rfl (by simp [maxLen]) (.inr trivial)
 have hz1 := hI.sep S2
 have := hz1.len_eq
 refine J.appendN encI S2 0 ([]) l len (by first | omega | (simp; omega)) 7 26 (iv 0) 8 la cap rfl (by kernel_rfl) (by kernel_rfl) (by kernel_rfl) (by kernel_rfl) (by decide) (hI.sep S2).enc (fun h_ => Ones.nil (h_ ▸ hz1)) (fun _ => rfl) (fun _ => rfl) (⟨by first | omega | (simp; omega), by first | omega | (simp; omega)⟩) ?_
 intro ra1 rc1 w2 S3
 replace S3 : Sep w [rowOf encI ra1 rc1 3 1 l] w2 := S3
 refine J.e 2 [.slice ra1 l.length rc1] Tryz.func61 (hR _ _ ?_)
 exact ⟨_, _, rfl, S3.pick 0 rfl⟩

end Go.Proofs.YtaoolgcddapegaaGreatDoor

