/- Walks of functions of this seat, printed by a program over the engine. Conditions: as each theorem says. -/
import Derived.Test.YtaoolgcddapegaaGreatDoorZsV8
namespace Go.Proofs.YtaoolgcddapegaaGreatDoor
noncomputable section
open Go.Eng Go.RowKit
set_option linter.unusedSimpArgs false
set_option linter.unusedVariables false
set_option maxRecDepth 20000
set_option maxHeartbeats 20000000
structure Crv where
  gX_a : Option Addr
  gX_n : Nat
  gX_c : Nat
  gX_l : List Int
  gY_a : Option Addr
  gY_n : Nat
  gY_c : Nat
  gY_l : List Int
def crvE (x : Crv) : List Value := [.slice x.gX_a x.gX_n x.gX_c, .slice x.gY_a x.gY_n x.gY_c]
def crvQ (w : World) (x : Crv) : Prop := (x.gX_n ≤ x.gX_c ∧ x.gX_c ≤ 9223372036854775807) ∧ Ones (Value.int .i64) w x.gX_a x.gX_n x.gX_l ∧ (∀ y ∈ x.gX_l, (fun n => (-9223372036854775808) ≤ n ∧ n ≤ 9223372036854775807) y) ∧ (x.gY_n ≤ x.gY_c ∧ x.gY_c ≤ 9223372036854775807) ∧ Ones (Value.int .i64) w x.gY_a x.gY_n x.gY_l ∧ (∀ y ∈ x.gY_l, (fun n => (-9223372036854775808) ≤ n ∧ n ≤ 9223372036854775807) y) ∧ True
theorem crvQ_sep {w0 w : World} {L : List Eng.Claim} {x : Crv} (h : crvQ w0 x) (S : Sep w0 L w) : crvQ w x := by
  obtain ⟨hgX1, hgX2, hgX3, hgY1, hgY2, hgY3, _⟩ := h
  exact ⟨hgX1, hgX2.sep S, hgX3, hgY1, hgY2.sep S, hgY3, trivial⟩
abbrev crvC (x : Crv) : List Value := [.slice x.gX_a x.gX_n x.gX_c, .slice x.gY_a x.gY_n x.gY_c]
abbrev crvA (x : Crv) : Array Value := #[.slice x.gX_a x.gX_n x.gX_c, .slice x.gY_a x.gY_n x.gY_c]
theorem axis_adj {l : List Int} (h1 : 2 ≤ l.length) (h2 : l.length ≤ 32) (h3 : l.all elB = true) (h : ∀ j, j + 1 < l.length → l.getD j 0 < l.getD (j + 1) 0) : axisB l = true := by
  refine axis_yes h1 h2 fun j hj => ?_
  unfold nodeB
  rw [(all_getD 0).1 h3 j hj, Bool.true_and, Bool.or_eq_true]
  cases j with
  | zero => left; rfl
  | succ j => right; exact decide_eq_true (h j hj)
theorem axis_far {l : List Int} (h : l.all elB = false) : axisB l = false := by
  cases hx : axisB l with
  | false => rfl
  | true =>
    have : l.all elB = true := (all_getD 0).2 fun j hj => elB_iff.2 ((axis_facts hx).2.1 j hj)
    rw [this] at h; cases h
theorem axis_down {l : List Int} {i : Int} (h0 : 0 ≤ i) (hi : i + 1 < (l.length : Int)) (h : l.getD i.toNat 0 ≥ l.getD (i + 1).toNat 0) : axisB l = false :=
  axis_bad (i := i + 1) (by omega) hi (node_no (by omega) (.inr ⟨by omega, by rw [show i + 1 - 1 = i by omega]; exact h⟩))
def validV (c : Crv) : Bool := c.gX_n == c.gY_n && axisB c.gX_l && c.gY_l.all elB
theorem validV_facts {c : Crv} (h : validV c = true) : c.gX_n = c.gY_n ∧ axisB c.gX_l = true ∧ ∀ j, j < c.gY_l.length → -1073741824 ≤ c.gY_l.getD j 0 ∧ c.gY_l.getD j 0 ≤ 1073741824 := by
  simp only [validV, Bool.and_eq_true, beq_iff_eq] at h
  exact ⟨h.1.1, h.1.2, fun j hj => elB_iff.1 ((all_getD 0).1 h.2 j hj)⟩
theorem validV_no {c : Crv} (h : c.gX_n ≠ c.gY_n ∨ axisB c.gX_l = false ∨ c.gY_l.all elB = false) : validV c = false := by
  unfold validV
  rcases h with h | h | h
  · rw [beq_eq_false_iff_ne.2 h]; rfl
  · rw [h]; simp
  · rw [h]; simp
theorem validV_yes {c : Crv} (h1 : c.gX_n = c.gY_n) (h2 : axisB c.gX_l = true) (h3 : c.gY_l.all elB = true) : validV c = true := by unfold validV; rw [h1, h2, h3]; simp
def valueV (c : Crv) (x : Int) : Int := curveF c.gX_l c.gY_l x
def atV (c : Crv) (x : Int) : Int := if validV c then valueV c x else 0
theorem seg_found {l : List Int} {x r : Int} (ax : axisB l = true) (hx : l.getD 0 0 ≤ x ∧ x < l.getD (l.length - 1) 0) (h0 : 0 ≤ r ∧ r ≤ (l.length : Int)) (h1 : r = 0 ∨ decide (l.getD (r - 1).toNat 0 > x) = false) (h2 : r = (l.length : Int) ∨ decide (l.getD r.toNat 0 > x) = true) :
    (0 ≤ r - 1 ∧ r - 1 + 1 < (l.length : Int)) ∧ l.getD (r - 1).toNat 0 ≤ x ∧ x < l.getD (r - 1 + 1).toNat 0 := by
  have hl := (axis_facts ax).1
  have hr0 : r ≠ 0 := by
    intro e; subst e
    rcases h2 with h | h
    · omega
    · have := of_decide_eq_true h; simp only [Int.toNat_zero] at this; omega
  have h1' : l.getD (r - 1).toNat 0 ≤ x := by
    rcases h1 with h | h
    · exact absurd h hr0
    · rw [decide_eq_false_iff_not] at h; omega
  have hrn : r ≠ (l.length : Int) := by
    intro e
    rw [e, show ((l.length : Int) - 1).toNat = l.length - 1 by omega] at h1'; omega
  have h2' : l.getD r.toNat 0 > x := by
    rcases h2 with h | h
    · exact absurd h hrn
    · exact of_decide_eq_true h
  rw [show r - 1 + 1 = r by omega]
  exact ⟨by omega, h1', h2'⟩
theorem curve_mid {xs ys : List Int} {x i : Int} (ax : axisB xs = true) (hx : ¬ x ≤ xs.getD 0 0 ∧ ¬ xs.getD (xs.length - 1) 0 ≤ x) (h0 : 0 ≤ i ∧ i + 1 < (xs.length : Int)) (h1 : xs.getD i.toNat 0 ≤ x) (h2 : x < xs.getD (i + 1).toNat 0) :
    curveF xs ys x = ys.getD i.toNat 0 + (x - xs.getD i.toNat 0) * (ys.getD (i + 1).toNat 0 - ys.getD i.toNat 0) / (xs.getD (i + 1).toNat 0 - xs.getD i.toNat 0) := by
  have e : (i + 1).toNat = i.toNat + 1 := by omega
  rw [e] at h2 ⊢
  exact curve_seg ax (by omega) h1 (by omega) (.inl h2) (by omega)

theorem hb146 : HasBody Tryz.prog 146 := fun _ _ => by kernel_rfl

theorem cfar_any (n : Int) (w : World) : Ret Tryz.prog 146 #[iv n] w (fun v w' => v = .bool (!elB n) ∧ Sep w [] w') := by
 refine Ret.st (N := 9) Tryz.func146 fun R hR S0 => ?_
 refine J.c 9 [] [] [] 5 (n < (-1073741824)) (fun fk1 => ?_) fun fk1 => ?_
 ·skip
  refine J.e 5 [.bool true] Tryz.func146 (hR _ _ ?_)
  exact ⟨congrArg Value.bool (by rw [Bool.eq_iff_iff]; simp [elB]; omega), S0.nil⟩
 refine J.e 5 [.bool (decide (n > 1073741824))] Tryz.func146 (hR _ _ ?_)
 exact ⟨congrArg Value.bool (by rw [Bool.eq_iff_iff]; simp [elB]; omega), S0.nil⟩

theorem hb145 : HasBody Tryz.prog 145 := fun _ _ => by kernel_rfl
def K145_0 := adv 32 [false] (bodyOf Tryz.f145)
theorem caxis_any (la : Option Addr) (len cap : Nat) (l : List Int) (w : World) (hI : Ints w la len l) (hlen : len ≤ 9223372036854775807) : Ret Tryz.prog 145 #[.slice la len cap] w (fun v w' => v = .bool (axisB l) ∧ Sep w [] w') := by
 refine Ret.st (N := 33) Tryz.func145 fun R hR S0 => ?_
 have hll := hI.len_eq
 refine J.c 11 [] [] [] 7 ((len : Int) < 2) (fun fk1 => ?_) fun fk1 => ?_
 ·skip
  refine J.e 14 [.bool false] Tryz.func145 (hR _ _ ?_)
  exact ⟨congrArg Value.bool (axis_no (by omega)).symm, S0.nil⟩
 refine J.c 5 [] [] [] 12 ((len : Int) > 32) (fun fk2 => ?_) fun fk2 => ?_
 ·skip
  refine J.e 9 [.bool false] Tryz.func145 (hR _ _ ?_)
  exact ⟨congrArg Value.bool (axis_no (by omega)).symm, S0.nil⟩
 refine J.r 1 [] [(13, .slice la len cap)] [] ?_
 refine J.callF 14 103 #[.slice la len cap, .func (.func 146) #[] #[]] hb103 (by kernel_rfl) (containsI0 la len cap l 146  (fun x => !elB x) _ (hI.sep S0) (by first | omega | (simp; omega)) hb146 (fun i_ w_ hi_ S_ => cfar_any _ w_)) ?_
 rintro _ w1 ⟨rfl, T1⟩
 have S1 : Sep w [] w1 := S0.trans T1
 refine J.b 2 [] [] [] 15 (List.any l (fun x => !elB x)) (fun fk3 => ?_) fun fk3 => ?_
 ·skip
  refine J.e 5 [.bool false] Tryz.func145 (hR _ _ ?_)
  exact ⟨congrArg Value.bool (axis_far (by have h_ := fk3; rw [any_not_all] at h_; simpa using h_)).symm, S1.nil⟩
 refine J.wi 8 [false] [] [] 18 ((len : Int) - 1) ?_
 have L145_1 : ∀ (mm_ : Nat) (i : Int) (w2 : World), (0 ≤ i) → (i + 1 ≤ (len : Int)) → (∀ j, j < (i).toNat → l.getD j 0 < l.getD (j + 1) 0) → Sep w [] w2 → ((len : Int) - i).toNat = mm_ → J Tryz.prog 145 33 R K145_0 [(19, iv i), (18, iv ((len : Int) - 1)), (0, .slice la len cap)] w2 := by
  intro mm1
  induction mm1 using Nat.strongRecOn with
  | _ mm1 ih1 =>
  intro i w2 h0 h1 hq S2 hm1
  refine J.c 5 [] [] [] 20 (i < ((len : Int) - 1)) (fun fk4 => ?_) fun fk4 => ?_
  ·skip
   refine J.r 10 [true] [(3, iv i)] [] ?_
   obtain ⟨p1, hp1, hc1⟩ := hI.at 0 (i).toNat (by omega)
   obtain ⟨p2, hp2, hc2⟩ := hI.at 0 (i + 1).toNat (by omega)
   refine J.drawStill S2 10 Tryz.mixed (by kernel_rfl) (by kernel_rfl) (by kernel_rfl) ?_
   intro w3 S3
   refine SL.r 22 (.slice la len cap) ?_
   refine SL.r 23 (iv i) ?_
   refine SL.ok (by decide) (OK.index 24 26 1 la p1 len (i).toNat i (p1.add (i).toNat) (by kernel_rfl) (by kernel_rfl) hp1 (by omega) (by omega) (by rw [Nat.mul_one])) ?_
   refine SL.ok (by decide) (OK.ldCell 25 3 (p1.add (i).toNat) (iv (l.getD (i).toNat 0)) (by kernel_rfl) (by kernel_rfl) (S3.cell hc1)) ?_
   refine SL.r 26 (.slice la len cap) ?_
   refine SL.r 27 (iv i) ?_
   refine SL.r 28 (iv (IntKind.wrap .i64 (i + 1))) ?_
   refine SL.head (iv (i + 1)) (congrArg (Value.int .i64) (IntWalk.i64_in _ (by omega))) ?_
   refine SL.ok (by decide) (OK.index 29 26 1 la p2 len (i + 1).toNat (i + 1) (p2.add (i + 1).toNat) (by kernel_rfl) (by kernel_rfl) hp2 (by omega) (by omega) (by rw [Nat.mul_one])) ?_
   refine SL.ok (by decide) (OK.ldCell 30 3 (p2.add (i + 1).toNat) (iv (l.getD (i + 1).toNat 0)) (by kernel_rfl) (by kernel_rfl) (S3.cell hc2)) ?_
   refine SL.r 31 (.bool (decide ((l.getD (i).toNat 0) ≥ (l.getD (i + 1).toNat 0)))) ?_
   refine SL.done ?_
   refine TL.done (by kernel_rfl) ?_
   refine J.c 0 [] [] [] 31 ((l.getD (i).toNat 0) ≥ (l.getD (i + 1).toNat 0)) (fun fk5 => ?_) fun fk5 => ?_
   ·skip
    refine J.e 5 [.bool false] Tryz.func145 (hR _ _ ?_)
    exact ⟨congrArg Value.bool (axis_down h0 (by omega) (by omega)).symm, S3.nil⟩
   refine J.wi 5 [false] [] [] 32 (i + 1) ?_
   exact J.t 3 (ih1 _ (show ((len : Int) - (i + 1)).toNat < mm1 from by omega) (i + 1) w3 (by omega) (by omega) (all_step (q := fun j => l.getD j 0 < l.getD (j + 1) 0) h0 hq (by rw [show i.toNat + 1 = (i + 1).toNat by omega]; omega)) S3 rfl)
  refine J.e 6 [.bool true] Tryz.func145 (hR _ _ ?_)
  exact ⟨congrArg Value.bool (axis_adj (by omega) (by omega) (by have h_ := fk3; rw [any_not_all] at h_; simpa using h_) fun j hj => hq j (by omega)).symm, S2.nil⟩
 exact J.t 4 (L145_1 _ 0 w1 (by omega) (by omega) (by intro j hj; simp at hj) S1 rfl)

theorem hb97 : HasBody Tryz.prog 97 := fun _ _ => by kernel_rfl

theorem cvalid_any (c : Crv) (w : World) (hc : crvQ w c) : Ret Tryz.prog 97 #[.agg (crvA c)] w (fun v w' => v = .bool (validV c) ∧ Sep w [] w') := by
 refine Ret.st (N := 21) Tryz.func97 fun R hR S0 => ?_
 obtain ⟨q1, q2, q3, q4, q5, q6, _⟩ := id hc
 have ql1 := q2.len_eq
 have ql2 := q5.len_eq
 refine J.nw 2 [] [] [] S0 1 (crvC c) 66 fun b1 w1 S1 => ?_
 refine J.lb 5 [] [] [] S1 0 rfl 4 (.slice c.gX_a c.gX_n c.gX_c) ?_
 refine J.lb 2 [] [(5, iv (c.gX_n : Int))] [] S1 0 rfl 7 (.slice c.gY_a c.gY_n c.gY_c) ?_
 refine J.c 3 [] [] [] 10 ((c.gX_n : Int) = (c.gY_n : Int)) (fun fk1 => ?_) fun fk1 => ?_
 ·skip
  refine J.lb 1 [] [] [] S1 0 rfl 12 (.slice c.gX_a c.gX_n c.gX_c) ?_
  refine J.c0 0 [] [] [] S1 13 hb145 (caxis_any c.gX_a c.gX_n c.gX_c c.gX_l _ (q2.sep S1) (by first | omega | (simp; omega))) fun w2 S2 => ?_
  refine J.b 2 [] [] [] 15 (axisB c.gX_l) (fun fk2 => ?_) fun fk2 => ?_
  ·skip
   refine J.lb 1 [] [] [] S2 0 rfl 17 (.slice c.gY_a c.gY_n c.gY_c) ?_
   refine J.callF 18 103 #[.slice c.gY_a c.gY_n c.gY_c, .func (.func 146) #[] #[]] hb103 (by kernel_rfl) (containsI0 c.gY_a c.gY_n c.gY_c c.gY_l 146  (fun x => !elB x) _ (q5.sep S2) (by first | omega | (simp; omega)) hb146 (fun i_ w_ hi_ S_ => cfar_any _ w_)) ?_
   rintro _ w3 ⟨rfl, T1⟩
   have S3 : Sep w [box b1 (crvC c) 66] w3 := S2.trans T1
   refine J.e 4 [.bool (!(List.any c.gY_l (fun x => !elB x)))] Tryz.func97 (hR _ _ ?_)
   exact ⟨congrArg Value.bool (by unfold validV; rw [fk2, show c.gX_n = c.gY_n by omega, any_not_all]; simp), S3.nil⟩
  refine J.e 7 [.bool false] Tryz.func97 (hR _ _ ?_)
  exact ⟨congrArg Value.bool (validV_no (by first | exact .inr (.inl fk2) | exact .inl (by omega))).symm, S2.nil⟩
 refine J.e 12 [.bool false] Tryz.func97 (hR _ _ ?_)
 exact ⟨congrArg Value.bool (validV_no (by first | exact .inr (.inl rfl) | exact .inl (by omega))).symm, S1.nil⟩

theorem hb189 : HasBody Tryz.prog 189 := fun _ _ => by kernel_rfl

theorem cseg1_any (c : Crv) (x i : Int) (bx1 bx2 : Nat) (w : World) (hc : crvQ w c) (hi : 0 ≤ i ∧ i < (c.gX_n : Int)) (hb1 : (box bx1 (crvC c) 66).holds w) (hb2 : (box bx2 [iv x] 3).holds w) : Ret Tryz.prog 189 #[iv i, pv bx1, pv bx2] w (fun v w' => v = .bool (decide (c.gX_l.getD i.toNat 0 > x)) ∧ Sep w [] w') := by
 refine Ret.st (N := 12) Tryz.func189 fun R hR S0 => ?_
 obtain ⟨q1, q2, q3, q4, q5, q6, _⟩ := id hc
 have ql1 := q2.len_eq
 have ql2 := q5.len_eq
 refine J.r 5 [] [] [] ?_
 obtain ⟨p1, hp1, hc1⟩ := q2.at 0 (i).toNat (by omega)
 have hel1 := getD_Q q3 0 (n := (i).toNat) (by have := q2.len_eq; omega)
 refine J.drawStill S0 8 Tryz.mixed (by kernel_rfl) (by kernel_rfl) (by kernel_rfl) ?_
 intro w1 S1
 refine SL.r 5 (pv bx1) ?_
 refine SL.ok (by decide) (OK.ldRo S1 hb1 6 26 0 (.slice c.gX_a c.gX_n c.gX_c) (by kernel_rfl) (by kernel_rfl)) ?_
 refine SL.r 7 (iv i) ?_
 refine SL.ok (by decide) (OK.index 8 26 1 c.gX_a p1 c.gX_n (i).toNat i (p1.add (i).toNat) (by kernel_rfl) (by kernel_rfl) hp1 (by omega) (by omega) (by rw [Nat.mul_one])) ?_
 refine SL.ok (by decide) (OK.ldCell 9 3 (p1.add (i).toNat) (iv (c.gX_l.getD (i).toNat 0)) (by kernel_rfl) (by kernel_rfl) (S1.cell hc1)) ?_
 refine SL.ok (by decide) (OK.ldRo S1 hb2 10 3 0 (iv x) (by kernel_rfl) (by kernel_rfl)) ?_
 refine SL.r 11 (.bool (decide ((c.gX_l.getD (i).toNat 0) > x))) ?_
 refine SL.r 4 (.bool (decide ((c.gX_l.getD (i).toNat 0) > x))) ?_
 refine SL.done ?_
 refine TL.done (by kernel_rfl) ?_
 refine J.e 0 [.bool (decide ((c.gX_l.getD (i).toNat 0) > x))] Tryz.func189 (hR _ _ ?_)
 exact ⟨rfl, S1.nil⟩

theorem hb154 : HasBody Tryz.prog 154 := fun _ _ => by kernel_rfl

theorem csegment_any (c : Crv) (x : Int) (w : World) (hc : crvQ w c) (hv : validV c = true) (hxx : c.gX_l.getD 0 0 ≤ x ∧ x < c.gX_l.getD (c.gX_l.length - 1) 0) : Ret Tryz.prog 154 #[.agg (crvA c), iv x] w (fun v w' => ∃ i, v = iv i ∧ ((0 ≤ i ∧ i + 1 < (c.gX_l.length : Int)) ∧ c.gX_l.getD i.toNat 0 ≤ x ∧ x < c.gX_l.getD (i + 1).toNat 0) ∧ Sep w [] w') := by
 refine Ret.st (N := 11) Tryz.func154 fun R hR S0 => ?_
 obtain ⟨q1, q2, q3, q4, q5, q6, _⟩ := id hc
 have ql1 := q2.len_eq
 have ql2 := q5.len_eq
 obtain ⟨hv1, hv2, hv3⟩ := validV_facts hv
 obtain ⟨hx1, hx2, hx3⟩ := axis_facts hv2
 have hX : c.gX_l.length = c.gX_n := by omega
 have hY : c.gY_l.length = c.gX_n := by omega
 have hxm := axis_mono hv2 (show 0 < ((c.gX_n : Int) - 1).toNat by omega) (by omega)
 have hx0 := hx2 0 (by omega)
 have hxl := hx2 ((c.gX_n : Int) - 1).toNat (by omega)
 refine J.nw 2 [] [] [] S0 2 (crvC c) 66 fun b1 w1 S1 => ?_
 refine J.nw 0 [] [] [] S1 3 [iv x] 3 fun b2 w2 S2 => ?_
 refine J.lb 5 [] [] [] S2 1 rfl 6 (.slice c.gX_a c.gX_n c.gX_c) ?_
 refine J.r 2 [] [(8, .func (.func 189) #[] #[pv b1, pv b2]), (7, iv (c.gX_n : Int))] [] ?_
 refine J.callF 9 188 #[iv (c.gX_n : Int), .func (.func 189) #[] #[pv b1, pv b2]] hb188 (by kernel_rfl) (search2 (c.gX_n : Int) 189 (pv b1) (pv b2) (fun i => decide (c.gX_l.getD i.toNat 0 > x)) _ (by omega) hb189 (fun i_ w_ h0_ h1_ S_ => cseg1_any c x i_ b1 b2 w_ (crvQ_sep (crvQ_sep hc S2) S_) ⟨h0_, by omega⟩ (box_keep (S2.nth 1 rfl) S_) (box_keep (S2.nth 0 rfl) S_))) ?_
 rintro _ w3 ⟨r1, rfl, hr11, hr12, hr13, T1⟩
 have S3 : Sep w [box b2 [iv x] 3, box b1 (crvC c) 66] w3 := S2.trans T1
 refine J.wi 1 [] [] [] 10 (r1 - 1) ?_
 refine J.e 2 [iv (r1 - 1)] Tryz.func154 (hR _ _ ?_)
 have hsg := seg_found (r := r1) hv2 hxx (by omega) hr12 (by rw [hX]; exact hr13)
 exact ⟨_, rfl, hsg, S3.nil⟩

theorem hb107 : HasBody Tryz.prog 107 := fun _ _ => by kernel_rfl

theorem cvalue_any (c : Crv) (x : Int) (w : World) (hc : crvQ w c) (hv : validV c = true) : Ret Tryz.prog 107 #[.agg (crvA c), iv x] w (fun v w' => v = iv (valueV c x) ∧ Sep w [] w') := by
 refine Ret.st (N := 78) Tryz.func107 fun R hR S0 => ?_
 obtain ⟨q1, q2, q3, q4, q5, q6, _⟩ := id hc
 have ql1 := q2.len_eq
 have ql2 := q5.len_eq
 obtain ⟨hv1, hv2, hv3⟩ := validV_facts hv
 obtain ⟨hx1, hx2, hx3⟩ := axis_facts hv2
 have hX : c.gX_l.length = c.gX_n := by omega
 have hY : c.gY_l.length = c.gX_n := by omega
 have hxm := axis_mono hv2 (show 0 < ((c.gX_n : Int) - 1).toNat by omega) (by omega)
 have hx0 := hx2 0 (by omega)
 have hxl := hx2 ((c.gX_n : Int) - 1).toNat (by omega)
 refine J.nw 2 [] [] [] S0 2 (crvC c) 66 fun b1 w1 S1 => ?_
 refine J.lb 5 [] [] [] S1 0 rfl 8 (.slice c.gX_a c.gX_n c.gX_c) ?_
 refine J.lb 9 [] [(11, iv x), (5, iv (c.gX_n : Int))] [] S1 0 rfl 13 (.slice c.gX_a c.gX_n c.gX_c) ?_
 obtain ⟨p1, hp1, hc1⟩ := q2.at 0 0 (by omega)
 have hel1 := getD_Q q3 0 (n := 0) (by have := q2.len_eq; omega)
 refine J.ok (OK.index 14 26 1 c.gX_a p1 c.gX_n 0 0 (p1.add 0) (by kernel_rfl) (by kernel_rfl) hp1 (by omega) (by omega) (by rw [Nat.mul_one])) ?_
 refine J.ok (OK.ldCell 15 3 (p1.add 0) (iv (c.gX_l.getD 0 0)) (by kernel_rfl) (by kernel_rfl) (S1.cell hc1)) ?_
 refine J.c 3 [] [] [] 10 (x ≤ (c.gX_l.getD 0 0)) (fun fk1 => ?_) fun fk1 => ?_
 ·skip
  refine J.lb 4 [true] [] [] S1 0 rfl 18 (.slice c.gY_a c.gY_n c.gY_c) ?_
  obtain ⟨p2, hp2, hc2⟩ := q5.at 0 0 (by omega)
  have hel2 := getD_Q q6 0 (n := 0) (by have := q5.len_eq; omega)
  refine J.ok (OK.index 19 26 1 c.gY_a p2 c.gY_n 0 0 (p2.add 0) (by kernel_rfl) (by kernel_rfl) hp2 (by omega) (by omega) (by rw [Nat.mul_one])) ?_
  refine J.ok (OK.ldCell 20 3 (p2.add 0) (iv (c.gY_l.getD 0 0)) (by kernel_rfl) (by kernel_rfl) (S1.cell hc2)) ?_
  refine J.e 2 [iv (c.gY_l.getD 0 0)] Tryz.func107 (hR _ _ ?_)
  exact ⟨congrArg (Value.int .i64) (by unfold valueV curveF; first | rw [if_pos (by omega)] | (rw [if_neg (by omega), if_pos (by rw [show c.gX_l.length - 1 = ((c.gX_n : Int) - 1).toNat by omega]; omega), show c.gX_l.length - 1 = ((c.gX_n : Int) - 1).toNat by omega])), S1.nil⟩
 refine J.lb 5 [false] [(22, iv x)] [] S1 0 rfl 24 (.slice c.gX_a c.gX_n c.gX_c) ?_
 refine J.wi 2 [] [] [] 26 ((c.gX_n : Int) - 1) ?_
 obtain ⟨p3, hp3, hc3⟩ := q2.at 0 ((c.gX_n : Int) - 1).toNat (by omega)
 have hel3 := getD_Q q3 0 (n := ((c.gX_n : Int) - 1).toNat) (by have := q2.len_eq; omega)
 refine J.ok (OK.index 27 26 1 c.gX_a p3 c.gX_n ((c.gX_n : Int) - 1).toNat ((c.gX_n : Int) - 1) (p3.add ((c.gX_n : Int) - 1).toNat) (by kernel_rfl) (by kernel_rfl) hp3 (by omega) (by omega) (by rw [Nat.mul_one])) ?_
 refine J.ok (OK.ldCell 28 3 (p3.add ((c.gX_n : Int) - 1).toNat) (iv (c.gX_l.getD ((c.gX_n : Int) - 1).toNat 0)) (by kernel_rfl) (by kernel_rfl) (S1.cell hc3)) ?_
 refine J.c 3 [] [] [] 21 (x ≥ (c.gX_l.getD ((c.gX_n : Int) - 1).toNat 0)) (fun fk2 => ?_) fun fk2 => ?_
 ·skip
  refine J.lb 4 [true] [] [] S1 0 rfl 31 (.slice c.gY_a c.gY_n c.gY_c) ?_
  refine J.wi 2 [] [] [] 33 ((c.gX_n : Int) - 1) ?_
  obtain ⟨p4, hp4, hc4⟩ := q5.at 0 ((c.gX_n : Int) - 1).toNat (by omega)
  have hel4 := getD_Q q6 0 (n := ((c.gX_n : Int) - 1).toNat) (by have := q5.len_eq; omega)
  refine J.ok (OK.index 34 26 1 c.gY_a p4 c.gY_n ((c.gX_n : Int) - 1).toNat ((c.gX_n : Int) - 1) (p4.add ((c.gX_n : Int) - 1).toNat) (by kernel_rfl) (by kernel_rfl) hp4 (by omega) (by omega) (by rw [Nat.mul_one])) ?_
  refine J.ok (OK.ldCell 35 3 (p4.add ((c.gX_n : Int) - 1).toNat) (iv (c.gY_l.getD ((c.gX_n : Int) - 1).toNat 0)) (by kernel_rfl) (by kernel_rfl) (S1.cell hc4)) ?_
  refine J.e 2 [iv (c.gY_l.getD ((c.gX_n : Int) - 1).toNat 0)] Tryz.func107 (hR _ _ ?_)
  exact ⟨congrArg (Value.int .i64) (by unfold valueV curveF; first | rw [if_pos (by omega)] | (rw [if_neg (by omega), if_pos (by rw [show c.gX_l.length - 1 = ((c.gX_n : Int) - 1).toNat by omega]; omega), show c.gX_l.length - 1 = ((c.gX_n : Int) - 1).toNat by omega])), S1.nil⟩
 refine J.lb 5 [false] [] [] S1 0 rfl 36 (.agg (crvA c)) ?_
 refine J.r 1 [] [(37, iv x)] [] ?_
 refine J.callF 38 154 #[.agg (crvA c), iv x] hb154 (by kernel_rfl) (csegment_any c x _ (crvQ_sep hc S1) hv (by rw [show c.gX_l.length - 1 = ((c.gX_n : Int) - 1).toNat by omega]; omega)) ?_
 rintro _ w2 ⟨i, rfl, ⟨hsa, hsb, hsc⟩, T1⟩
 have S2 : Sep w [box b1 (crvC c) 66] w2 := S1.trans T1
 have hA3 := axis_mono hv2 (show (i).toNat < (i + 1).toNat by omega) (by omega)
 have hA1 := hx2 (i).toNat (by omega)
 have hA2 := hx2 (i + 1).toNat (by omega)
 have hB1 := hv3 (i).toNat (by omega)
 have hB2 := hv3 (i + 1).toNat (by omega)
 have hpb := prod_bd (t := x - c.gX_l.getD (i).toNat 0) (k := c.gY_l.getD (i + 1).toNat 0 - c.gY_l.getD (i).toNat 0) (by omega) (by omega)
 have hbw := btw_bounds (x0 := c.gX_l.getD (i).toNat 0) (x1 := c.gX_l.getD (i + 1).toNat 0) (y0 := c.gY_l.getD (i).toNat 0) (y1 := c.gY_l.getD (i + 1).toNat 0) (x := x) (by omega) (by omega) (by omega)
 unfold btwF at hbw
 refine J.r 3 [] [(6, iv i)] [] ?_
 obtain ⟨p5, hp5, hc5⟩ := q5.at 0 (i).toNat (by omega)
 have hel5 := getD_Q q6 0 (n := (i).toNat) (by have := q5.len_eq; omega)
 obtain ⟨p6, hp6, hc6⟩ := q2.at 0 (i).toNat (by omega)
 have hel6 := getD_Q q3 0 (n := (i).toNat) (by have := q2.len_eq; omega)
 obtain ⟨p7, hp7, hc7⟩ := q5.at 0 (i + 1).toNat (by omega)
 have hel7 := getD_Q q6 0 (n := (i + 1).toNat) (by have := q5.len_eq; omega)
 obtain ⟨p8, hp8, hc8⟩ := q2.at 0 (i + 1).toNat (by omega)
 have hel8 := getD_Q q3 0 (n := (i + 1).toNat) (by have := q2.len_eq; omega)
 refine J.drawPlan (fun w_ => Sep w [box b1 (crvC c) 66] w_) [(0, true), (1, true), (2, true), (3, true), (4, true), (5, true), (6, true), (7, true), (8, true), (9, true), (10, true), (11, true), (12, true), (13, true), (14, true), (15, true), (16, true), (17, true), (18, true), (19, true), (20, true), (21, true), (22, true), (23, true), (24, true), (25, true), (26, true), (27, true), (28, true), (29, true), (30, true), (31, true), (32, true), (33, true), (34, true), (35, true), (36, true), (37, false), (38, true), (39, true)] S2 Tryz.mixed (by kernel_rfl) (planOK_of (T := [(0, some 39, 4), (1, some 40, 549755813888), (0, some 41, 64), (6, some 42, 3298534883328), (8, some 43, 4398046511104), (0, some 44, 2), (0, some 45, 4), (64, some 46, 35184372088832), (0, some 47, 64), (384, some 48, 211106232532992), (512, some 49, 281474976710656), (1056, some 50, 580542139465728), (0, some 51, 4), (4096, some 52, 2251799813685248), (0, some 53, 64), (16384, some 54, 9007199254740992), (40960, some 55, 22517998136852480), (65536, some 56, 36028797018963968), (0, some 57, 4), (262144, some 58, 144115188075855872), (0, some 59, 64), (1572864, some 60, 864691128455135232), (2097152, some 61, 1152921504606846976), (4325376, some 62, 2377900603251621888), (8390656, some 63, 4612811918334230528), (0, some 64, 4), (33554432, some 65, 18446744073709551616), (0, some 66, 64), (134217728, some 67, 73786976294838206464), (335544320, some 68, 184467440737095516160), (536870912, some 69, 295147905179352825856), (0, some 70, 4), (2147483648, some 71, 1180591620717411303424), (0, some 72, 64), (12884901888, some 73, 7083549724304467820544), (17179869184, some 74, 9444732965739290427392), (35433480192, some 75, 19479761741837286506496), (68736253952, some 76, 37788155234994016485376), (137438953488, some 77, 75557863734710416441344), (549755813887, some 4, 151115727451828646838272)]) (by kernel_rfl) (by kernel_rfl)) ?_
 intro w3 S3
 refine PB.mk S3 ?_
 refine PL.take 0 39 (.pointer (some ⟨b1, 1, none⟩)) (fun _ _ => by kernel_rfl) ?_
 refine PL.takeOK 1 (fun w_ S_ => OK.ldBox S_ 0 40 26 1 (.slice c.gY_a c.gY_n c.gY_c) (by kernel_rfl) rfl (by kernel_rfl)) rfl ?_
 refine PL.take 2 41 (iv i) (fun _ _ => by kernel_rfl) ?_
 refine PL.takeOK 3 (fun w_ S_ => OK.index 42 26 1 c.gY_a p5 c.gY_n (i).toNat i (p5.add (i).toNat) (by kernel_rfl) (by kernel_rfl) hp5 (by omega) (by omega) (by rw [Nat.mul_one])) rfl ?_
 refine PL.takeOK 4 (fun w_ S_ => OK.ldCell 43 3 (p5.add (i).toNat) (iv (c.gY_l.getD (i).toNat 0)) (by kernel_rfl) (by kernel_rfl) (S_.cell hc5)) rfl ?_
 refine PL.take 5 44 (iv x) (fun _ _ => by kernel_rfl) ?_
 refine PL.take 6 45 (pv b1) (fun _ _ => by kernel_rfl) ?_
 refine PL.takeOK 7 (fun w_ S_ => OK.ldBox S_ 0 46 26 0 (.slice c.gX_a c.gX_n c.gX_c) (by kernel_rfl) rfl (by kernel_rfl)) rfl ?_
 refine PL.take 8 47 (iv i) (fun _ _ => by kernel_rfl) ?_
 refine PL.takeOK 9 (fun w_ S_ => OK.index 48 26 1 c.gX_a p6 c.gX_n (i).toNat i (p6.add (i).toNat) (by kernel_rfl) (by kernel_rfl) hp6 (by omega) (by omega) (by rw [Nat.mul_one])) rfl ?_
 refine PL.takeOK 10 (fun w_ S_ => OK.ldCell 49 3 (p6.add (i).toNat) (iv (c.gX_l.getD (i).toNat 0)) (by kernel_rfl) (by kernel_rfl) (S_.cell hc6)) rfl ?_
 refine PL.take 11 50 (iv (IntKind.wrap .i64 (x - (c.gX_l.getD (i).toNat 0)))) (fun _ _ => by kernel_rfl) ?_
 refine PL.head (iv (x - (c.gX_l.getD (i).toNat 0))) (congrArg (Value.int .i64) (IntWalk.i64_in _ (by omega))) ?_
 refine PL.take 12 51 (.pointer (some ⟨b1, 1, none⟩)) (fun _ _ => by kernel_rfl) ?_
 refine PL.takeOK 13 (fun w_ S_ => OK.ldBox S_ 0 52 26 1 (.slice c.gY_a c.gY_n c.gY_c) (by kernel_rfl) rfl (by kernel_rfl)) rfl ?_
 refine PL.take 14 53 (iv i) (fun _ _ => by kernel_rfl) ?_
 refine PL.take 15 54 (iv (IntKind.wrap .i64 (i + 1))) (fun _ _ => by kernel_rfl) ?_
 refine PL.head (iv (i + 1)) (congrArg (Value.int .i64) (IntWalk.i64_in _ (by omega))) ?_
 refine PL.takeOK 16 (fun w_ S_ => OK.index 55 26 1 c.gY_a p7 c.gY_n (i + 1).toNat (i + 1) (p7.add (i + 1).toNat) (by kernel_rfl) (by kernel_rfl) hp7 (by omega) (by omega) (by rw [Nat.mul_one])) rfl ?_
 refine PL.takeOK 17 (fun w_ S_ => OK.ldCell 56 3 (p7.add (i + 1).toNat) (iv (c.gY_l.getD (i + 1).toNat 0)) (by kernel_rfl) (by kernel_rfl) (S_.cell hc7)) rfl ?_
 refine PL.take 18 57 (.pointer (some ⟨b1, 1, none⟩)) (fun _ _ => by kernel_rfl) ?_
 refine PL.takeOK 19 (fun w_ S_ => OK.ldBox S_ 0 58 26 1 (.slice c.gY_a c.gY_n c.gY_c) (by kernel_rfl) rfl (by kernel_rfl)) rfl ?_
 refine PL.take 20 59 (iv i) (fun _ _ => by kernel_rfl) ?_
 refine PL.takeOK 21 (fun w_ S_ => OK.index 60 26 1 c.gY_a p5 c.gY_n (i).toNat i (p5.add (i).toNat) (by kernel_rfl) (by kernel_rfl) hp5 (by omega) (by omega) (by rw [Nat.mul_one])) rfl ?_
 refine PL.takeOK 22 (fun w_ S_ => OK.ldCell 61 3 (p5.add (i).toNat) (iv (c.gY_l.getD (i).toNat 0)) (by kernel_rfl) (by kernel_rfl) (S_.cell hc5)) rfl ?_
 refine PL.take 23 62 (iv (IntKind.wrap .i64 ((c.gY_l.getD (i + 1).toNat 0) - (c.gY_l.getD (i).toNat 0)))) (fun _ _ => by kernel_rfl) ?_
 refine PL.head (iv ((c.gY_l.getD (i + 1).toNat 0) - (c.gY_l.getD (i).toNat 0))) (congrArg (Value.int .i64) (IntWalk.i64_in _ (by omega))) ?_
 refine PL.take 24 63 (iv (IntKind.wrap .i64 ((x - (c.gX_l.getD (i).toNat 0)) * ((c.gY_l.getD (i + 1).toNat 0) - (c.gY_l.getD (i).toNat 0))))) (fun _ _ => by kernel_rfl) ?_
 refine PL.head (iv ((x - (c.gX_l.getD (i).toNat 0)) * ((c.gY_l.getD (i + 1).toNat 0) - (c.gY_l.getD (i).toNat 0)))) (congrArg (Value.int .i64) (IntWalk.i64_in _ (by omega))) ?_
 refine PL.take 25 64 (pv b1) (fun _ _ => by kernel_rfl) ?_
 refine PL.takeOK 26 (fun w_ S_ => OK.ldBox S_ 0 65 26 0 (.slice c.gX_a c.gX_n c.gX_c) (by kernel_rfl) rfl (by kernel_rfl)) rfl ?_
 refine PL.take 27 66 (iv i) (fun _ _ => by kernel_rfl) ?_
 refine PL.take 28 67 (iv (IntKind.wrap .i64 (i + 1))) (fun _ _ => by kernel_rfl) ?_
 refine PL.head (iv (i + 1)) (congrArg (Value.int .i64) (IntWalk.i64_in _ (by omega))) ?_
 refine PL.takeOK 29 (fun w_ S_ => OK.index 68 26 1 c.gX_a p8 c.gX_n (i + 1).toNat (i + 1) (p8.add (i + 1).toNat) (by kernel_rfl) (by kernel_rfl) hp8 (by omega) (by omega) (by rw [Nat.mul_one])) rfl ?_
 refine PL.takeOK 30 (fun w_ S_ => OK.ldCell 69 3 (p8.add (i + 1).toNat) (iv (c.gX_l.getD (i + 1).toNat 0)) (by kernel_rfl) (by kernel_rfl) (S_.cell hc8)) rfl ?_
 refine PL.take 31 70 (pv b1) (fun _ _ => by kernel_rfl) ?_
 refine PL.takeOK 32 (fun w_ S_ => OK.ldBox S_ 0 71 26 0 (.slice c.gX_a c.gX_n c.gX_c) (by kernel_rfl) rfl (by kernel_rfl)) rfl ?_
 refine PL.take 33 72 (iv i) (fun _ _ => by kernel_rfl) ?_
 refine PL.takeOK 34 (fun w_ S_ => OK.index 73 26 1 c.gX_a p6 c.gX_n (i).toNat i (p6.add (i).toNat) (by kernel_rfl) (by kernel_rfl) hp6 (by omega) (by omega) (by rw [Nat.mul_one])) rfl ?_
 refine PL.takeOK 35 (fun w_ S_ => OK.ldCell 74 3 (p6.add (i).toNat) (iv (c.gX_l.getD (i).toNat 0)) (by kernel_rfl) (by kernel_rfl) (S_.cell hc6)) rfl ?_
 refine PL.take 36 75 (iv (IntKind.wrap .i64 ((c.gX_l.getD (i + 1).toNat 0) - (c.gX_l.getD (i).toNat 0)))) (fun _ _ => by kernel_rfl) ?_
 refine PL.head (iv ((c.gX_l.getD (i + 1).toNat 0) - (c.gX_l.getD (i).toNat 0))) (congrArg (Value.int .i64) (IntWalk.i64_in _ (by omega))) ?_
 refine PL.callF 76 155 #[iv ((x - (c.gX_l.getD (i).toNat 0)) * ((c.gY_l.getD (i + 1).toNat 0) - (c.gY_l.getD (i).toNat 0))), iv ((c.gX_l.getD (i + 1).toNat 0) - (c.gX_l.getD (i).toNat 0))] hb155 (by kernel_rfl) (floor_any ((x - (c.gX_l.getD (i).toNat 0)) * ((c.gY_l.getD (i + 1).toNat 0) - (c.gY_l.getD (i).toNat 0))) ((c.gX_l.getD (i + 1).toNat 0) - (c.gX_l.getD (i).toNat 0)) _ (by omega) (by omega)) ?_
 rintro _ w4 ⟨rfl, T2⟩
 have S4 : Sep w [box b1 (crvC c) 66] w4 := S3.trans T2
 clear T2 S3
 refine PB.head (iv (((x - (c.gX_l.getD (i).toNat 0)) * ((c.gY_l.getD (i + 1).toNat 0) - (c.gY_l.getD (i).toNat 0))) / ((c.gX_l.getD (i + 1).toNat 0) - (c.gX_l.getD (i).toNat 0)))) (congrArg (Value.int .i64) (floor_pos (by omega) (by omega))) ?_
 refine PB.mk S4 ?_
 refine PL.take 38 77 (iv (IntKind.wrap .i64 ((c.gY_l.getD (i).toNat 0) + (((x - (c.gX_l.getD (i).toNat 0)) * ((c.gY_l.getD (i + 1).toNat 0) - (c.gY_l.getD (i).toNat 0))) / ((c.gX_l.getD (i + 1).toNat 0) - (c.gX_l.getD (i).toNat 0)))))) (fun _ _ => by kernel_rfl) ?_
 refine PL.head (iv ((c.gY_l.getD (i).toNat 0) + (((x - (c.gX_l.getD (i).toNat 0)) * ((c.gY_l.getD (i + 1).toNat 0) - (c.gY_l.getD (i).toNat 0))) / ((c.gX_l.getD (i + 1).toNat 0) - (c.gX_l.getD (i).toNat 0))))) (congrArg (Value.int .i64) (IntWalk.i64_in _ (by omega))) ?_
 refine PL.take 39 4 (iv ((c.gY_l.getD (i).toNat 0) + (((x - (c.gX_l.getD (i).toNat 0)) * ((c.gY_l.getD (i + 1).toNat 0) - (c.gY_l.getD (i).toNat 0))) / ((c.gX_l.getD (i + 1).toNat 0) - (c.gX_l.getD (i).toNat 0))))) (fun _ _ => by kernel_rfl) ?_
 refine PL.done ?_
 refine J.e 0 [iv ((c.gY_l.getD (i).toNat 0) + (((x - (c.gX_l.getD (i).toNat 0)) * ((c.gY_l.getD (i + 1).toNat 0) - (c.gY_l.getD (i).toNat 0))) / ((c.gX_l.getD (i + 1).toNat 0) - (c.gX_l.getD (i).toNat 0))))] Tryz.func107 (hR _ _ ?_)
 have e := curve_mid (ys := c.gY_l) hv2 (x := x) (i := i) ⟨by omega, by rw [show c.gX_l.length - 1 = ((c.gX_n : Int) - 1).toNat by omega]; omega⟩ (by omega) hsb hsc
 exact ⟨congrArg (Value.int .i64) (by unfold valueV; rw [e]), S4.nil⟩

theorem hb63 : HasBody Tryz.prog 63 := fun _ _ => by kernel_rfl

theorem cAt_any (c : Crv) (x : Int) (w : World) (hc : crvQ w c) : Ret Tryz.prog 63 #[.agg (crvA c), iv x] w (fun v w' => v = iv (atV c x) ∧ Sep w [] w') := by
 refine Ret.st (N := 11) Tryz.func63 fun R hR S0 => ?_
 obtain ⟨q1, q2, q3, q4, q5, q6, _⟩ := id hc
 have ql1 := q2.len_eq
 have ql2 := q5.len_eq
 refine J.nw 2 [] [] [] S0 2 (crvC c) 66 fun b1 w1 S1 => ?_
 refine J.lb 5 [] [] [] S1 0 rfl 5 (.agg (crvA c)) ?_
 refine J.c0 0 [] [] [] S1 6 hb97 (cvalid_any c _ (crvQ_sep hc S1)) fun w2 S2 => ?_
 refine J.bn 2 [] [] [] 7 (validV c) (fun fk1 => ?_) fun fk1 => ?_
 ·skip
  have hv := fk1
  refine J.lb 4 [false] [] [] S2 0 rfl 8 (.agg (crvA c)) ?_
  refine J.c0 1 [] [] [] S2 10 hb107 (cvalue_any c x _ (crvQ_sep hc S2) hv) fun w3 S3 => ?_
  refine J.e 2 [iv (valueV c x)] Tryz.func63 (hR _ _ ?_)
  exact ⟨congrArg (Value.int .i64) (by unfold atV; rw [fk1]; rfl), S3.nil⟩
 refine J.e 5 [iv 0] Tryz.func63 (hR _ _ ?_)
 exact ⟨congrArg (Value.int .i64) (by unfold atV; rw [fk1]; rfl), S2.nil⟩

theorem hb69 : HasBody Tryz.prog 69 := fun _ _ => by kernel_rfl

theorem rfits_any (n : Int) (w : World) : Ret Tryz.prog 69 #[iv n] w (fun v w' => v = .bool (elB n) ∧ Sep w [] w') := by
 refine Ret.st (N := 9) Tryz.func69 fun R hR S0 => ?_
 refine J.c 9 [] [] [] 5 (n ≥ (-1073741824)) (fun fk1 => ?_) fun fk1 => ?_
 ·skip
  refine J.e 5 [.bool (decide (n ≤ 1073741824))] Tryz.func69 (hR _ _ ?_)
  exact ⟨congrArg Value.bool (by rw [Bool.eq_iff_iff]; simp [elB]; omega), S0.nil⟩
 refine J.e 5 [.bool false] Tryz.func69 (hR _ _ ?_)
 exact ⟨congrArg Value.bool (by rw [Bool.eq_iff_iff]; simp [elB]; omega), S0.nil⟩

theorem hb68 : HasBody Tryz.prog 68 := fun _ _ => by kernel_rfl
def K68_0 := adv 25 [false] (bodyOf Tryz.f68)
theorem rcaxis_any (la : Option Addr) (len cap : Nat) (l : List Int) (w : World) (hI : Ints w la len l) (hlen : len ≤ 9223372036854775807) : Ret Tryz.prog 68 #[.slice la len cap] w (fun v w' => v = .bool (axisB l) ∧ Sep w [] w') := by
 refine Ret.st (N := 40) Tryz.func68 fun R hR S0 => ?_
 have hll := hI.len_eq
 refine J.c 11 [] [] [] 7 ((len : Int) < 2) (fun fk1 => ?_) fun fk1 => ?_
 ·skip
  refine J.e 10 [.bool false] Tryz.func68 (hR _ _ ?_)
  exact ⟨congrArg Value.bool (axis_no (by omega)).symm, S0.nil⟩
 refine J.c 5 [] [] [] 11 ((len : Int) > 32) (fun fk2 => ?_) fun fk2 => ?_
 ·skip
  refine J.e 5 [.bool false] Tryz.func68 (hR _ _ ?_)
  exact ⟨congrArg Value.bool (axis_no (by omega)).symm, S0.nil⟩
 have L68_1 : ∀ (mm_ : Nat) (i : Int) (w1 : World), (0 ≤ i) → (i ≤ (len : Int)) → (∀ j, j < (i).toNat → nodeB l j = true) → Sep w [] w1 → ((len : Int) - i).toNat = mm_ → J Tryz.prog 68 40 R K68_0 [(3, iv i), (0, .slice la len cap)] w1 := by
  intro mm1
  induction mm1 using Nat.strongRecOn with
  | _ mm1 ih1 =>
  intro i w1 h0 h1 hq S1 hm1
  refine J.c 8 [] [] [] 15 (i < (len : Int)) (fun fk3 => ?_) fun fk3 => ?_
  ·skip
   refine J.r 5 [true] [] [] ?_
   rcases Bool.eq_false_or_eq_true (elB (l.getD (i).toNat 0)) with fk4 | fk4
   rotate_left
   ·skip
    obtain ⟨p4, hp4, hc4⟩ := hI.at 0 (i).toNat (by omega)
    refine J.drawPlan (fun w_ => Sep w [] w_) [(0, true), (1, true), (2, true), (3, true), (4, false), (5, true), (6, true), (7, true), (8, true), (9, true), (10, true), (11, true), (12, true), (13, true), (14, true), (15, true), (16, true), (17, true), (18, true), (19, true), (20, true), (21, true)] S1 Tryz.mixed (by kernel_rfl) (planOK_of (T := [(0, some 18, 1), (0, some 19, 8), (3, some 20, 786432), (4, some 21, 1048576), (8, some 22, 2097152), (16, some 23, 4194304), (48, some 24, 8388608), (64, some 25, 16777224), (192, some 26, 50331648), (320, some 27, 83886080), (512, some 28, 134217729), (512, some 29, 134217736), (3584, some 30, 939524096), (4608, some 31, 1207959552), (512, some 32, 134217729), (512, some 33, 134217736), (33280, some 34, 8724152320), (82432, some 35, 21609054208), (131584, some 36, 34493956096), (270848, some 37, 71001178112), (524864, some 38, 137589948416), (1048640, some 39, 274894684160)]) (by kernel_rfl) (by kernel_rfl)) ?_
    intro w6 S6
    refine PB.mk S6 ?_
    refine PL.take 0 18 (.slice la len cap) (fun _ _ => by kernel_rfl) ?_
    refine PL.take 1 19 (iv i) (fun _ _ => by kernel_rfl) ?_
    refine PL.takeOK 2 (fun w_ S_ => OK.index 20 26 1 la p4 len (i).toNat i (p4.add (i).toNat) (by kernel_rfl) (by kernel_rfl) hp4 (by omega) (by omega) (by rw [Nat.mul_one])) rfl ?_
    refine PL.takeOK 3 (fun w_ S_ => OK.ldCell 21 3 (p4.add (i).toNat) (iv (l.getD (i).toNat 0)) (by kernel_rfl) (by kernel_rfl) (S_.cell hc4)) rfl ?_
    refine PL.callF 22 69 #[iv (l.getD (i).toNat 0)] hb69 (by kernel_rfl) (rfits_any (l.getD (i).toNat 0) _) ?_
    rintro _ w7 ⟨rfl, T3⟩
    have S7 : Sep w [] w7 := S6.trans T3
    clear T3 S6
    refine PB.head (.bool false) (congrArg Value.bool fk4) ?_
    refine PB.mk S7 ?_
    refine PL.take 5 23 (.bool true) (fun _ _ => by kernel_rfl) ?_
    refine PL.take 6 24 (.bool true) (fun _ _ => by kernel_rfl) ?_
    refine PL.takePass 7 (some 25) (by kernel_rfl) ?_
    refine PL.takePass 8 (some 26) (by kernel_rfl) ?_
    refine PL.takePass 9 (some 27) (by kernel_rfl) ?_
    refine PL.takePass 10 (some 28) (by kernel_rfl) ?_
    refine PL.takePass 11 (some 29) (by kernel_rfl) ?_
    refine PL.takePass 12 (some 30) (by kernel_rfl) ?_
    refine PL.takePass 13 (some 31) (by kernel_rfl) ?_
    refine PL.takePass 14 (some 32) (by kernel_rfl) ?_
    refine PL.takePass 15 (some 33) (by kernel_rfl) ?_
    refine PL.takePass 16 (some 34) (by kernel_rfl) ?_
    refine PL.takePass 17 (some 35) (by kernel_rfl) ?_
    refine PL.takePass 18 (some 36) (by kernel_rfl) ?_
    refine PL.takePass 19 (some 37) (by kernel_rfl) ?_
    refine PL.takePass 20 (some 38) (by kernel_rfl) ?_
    refine PL.take 21 39 (.bool true) (fun _ _ => by kernel_rfl) ?_
    refine PL.done ?_
    refine J.e 5 [.bool false] Tryz.func68 (hR _ _ ?_)
    exact ⟨congrArg Value.bool (axis_bad h0 (by omega) (node_no h0 (by first | exact .inl fk4 | exact .inr ⟨by omega, by omega⟩))).symm, S7.nil⟩
   by_cases fk5 : i > 0
   rotate_left
   ·skip
    obtain ⟨p3, hp3, hc3⟩ := hI.at 0 (i).toNat (by omega)
    refine J.drawPlan (fun w_ => Sep w [] w_) [(0, true), (1, true), (2, true), (3, true), (4, false), (5, true), (6, true), (7, true), (8, true), (9, true), (10, true), (11, true), (12, true), (13, true), (14, true), (15, true), (16, true), (17, true), (18, true), (19, true), (20, true), (21, true)] S1 Tryz.mixed (by kernel_rfl) (planOK_of (T := [(0, some 18, 1), (0, some 19, 8), (3, some 20, 786432), (4, some 21, 1048576), (8, some 22, 2097152), (16, some 23, 4194304), (48, some 24, 8388608), (64, some 25, 16777224), (192, some 26, 50331648), (320, some 27, 83886080), (512, some 28, 134217729), (512, some 29, 134217736), (3584, some 30, 939524096), (4608, some 31, 1207959552), (512, some 32, 134217729), (512, some 33, 134217736), (33280, some 34, 8724152320), (82432, some 35, 21609054208), (131584, some 36, 34493956096), (270848, some 37, 71001178112), (524864, some 38, 137589948416), (1048640, some 39, 274894684160)]) (by kernel_rfl) (by kernel_rfl)) ?_
    intro w4 S4
    refine PB.mk S4 ?_
    refine PL.take 0 18 (.slice la len cap) (fun _ _ => by kernel_rfl) ?_
    refine PL.take 1 19 (iv i) (fun _ _ => by kernel_rfl) ?_
    refine PL.takeOK 2 (fun w_ S_ => OK.index 20 26 1 la p3 len (i).toNat i (p3.add (i).toNat) (by kernel_rfl) (by kernel_rfl) hp3 (by omega) (by omega) (by rw [Nat.mul_one])) rfl ?_
    refine PL.takeOK 3 (fun w_ S_ => OK.ldCell 21 3 (p3.add (i).toNat) (iv (l.getD (i).toNat 0)) (by kernel_rfl) (by kernel_rfl) (S_.cell hc3)) rfl ?_
    refine PL.callF 22 69 #[iv (l.getD (i).toNat 0)] hb69 (by kernel_rfl) (rfits_any (l.getD (i).toNat 0) _) ?_
    rintro _ w5 ⟨rfl, T2⟩
    have S5 : Sep w [] w5 := S4.trans T2
    clear T2 S4
    refine PB.head (.bool true) (congrArg Value.bool fk4) ?_
    refine PB.mk S5 ?_
    refine PL.take 5 23 (.bool false) (fun _ _ => by kernel_rfl) ?_
    refine PL.take 6 24 (.bool false) (fun _ _ => by kernel_rfl) ?_
    refine PL.take 7 25 (iv i) (fun _ _ => by kernel_rfl) ?_
    refine PL.take 8 26 (.bool (decide (i > 0))) (fun _ _ => by kernel_rfl) ?_
    refine PL.head (.bool false) (congrArg Value.bool (decide_eq_false fk5)) ?_
    refine PL.take 9 27 (.bool false) (fun _ _ => by kernel_rfl) ?_
    refine PL.takePass 10 (some 28) (by kernel_rfl) ?_
    refine PL.takePass 11 (some 29) (by kernel_rfl) ?_
    refine PL.takePass 12 (some 30) (by kernel_rfl) ?_
    refine PL.takePass 13 (some 31) (by kernel_rfl) ?_
    refine PL.takePass 14 (some 32) (by kernel_rfl) ?_
    refine PL.takePass 15 (some 33) (by kernel_rfl) ?_
    refine PL.takePass 16 (some 34) (by kernel_rfl) ?_
    refine PL.takePass 17 (some 35) (by kernel_rfl) ?_
    refine PL.takePass 18 (some 36) (by kernel_rfl) ?_
    refine PL.takePass 19 (some 37) (by kernel_rfl) ?_
    refine PL.take 20 38 (.bool false) (fun _ _ => by kernel_rfl) ?_
    refine PL.take 21 39 (.bool false) (fun _ _ => by kernel_rfl) ?_
    refine PL.done ?_
    refine J.wi 6 [false] [] [] 17 (i + 1) ?_
    exact J.t 3 (ih1 _ (show ((len : Int) - (i + 1)).toNat < mm1 from by omega) (i + 1) w5 (by omega) (by omega) (all_step h0 hq (node_yes h0 fk4 (by omega))) S5 rfl)
   obtain ⟨p1, hp1, hc1⟩ := hI.at 0 (i).toNat (by omega)
   obtain ⟨p2, hp2, hc2⟩ := hI.at 0 (i - 1).toNat (by omega)
   refine J.drawPlan (fun w_ => Sep w [] w_) [(0, true), (1, true), (2, true), (3, true), (4, false), (5, true), (6, true), (7, true), (8, true), (9, true), (10, true), (11, true), (12, true), (13, true), (14, true), (15, true), (16, true), (17, true), (18, true), (19, true), (20, true), (21, true)] S1 Tryz.mixed (by kernel_rfl) (planOK_of (T := [(0, some 18, 1), (0, some 19, 8), (3, some 20, 786432), (4, some 21, 1048576), (8, some 22, 2097152), (16, some 23, 4194304), (48, some 24, 8388608), (64, some 25, 16777224), (192, some 26, 50331648), (320, some 27, 83886080), (512, some 28, 134217729), (512, some 29, 134217736), (3584, some 30, 939524096), (4608, some 31, 1207959552), (512, some 32, 134217729), (512, some 33, 134217736), (33280, some 34, 8724152320), (82432, some 35, 21609054208), (131584, some 36, 34493956096), (270848, some 37, 71001178112), (524864, some 38, 137589948416), (1048640, some 39, 274894684160)]) (by kernel_rfl) (by kernel_rfl)) ?_
   intro w2 S2
   refine PB.mk S2 ?_
   refine PL.take 0 18 (.slice la len cap) (fun _ _ => by kernel_rfl) ?_
   refine PL.take 1 19 (iv i) (fun _ _ => by kernel_rfl) ?_
   refine PL.takeOK 2 (fun w_ S_ => OK.index 20 26 1 la p1 len (i).toNat i (p1.add (i).toNat) (by kernel_rfl) (by kernel_rfl) hp1 (by omega) (by omega) (by rw [Nat.mul_one])) rfl ?_
   refine PL.takeOK 3 (fun w_ S_ => OK.ldCell 21 3 (p1.add (i).toNat) (iv (l.getD (i).toNat 0)) (by kernel_rfl) (by kernel_rfl) (S_.cell hc1)) rfl ?_
   refine PL.callF 22 69 #[iv (l.getD (i).toNat 0)] hb69 (by kernel_rfl) (rfits_any (l.getD (i).toNat 0) _) ?_
   rintro _ w3 ⟨rfl, T1⟩
   have S3 : Sep w [] w3 := S2.trans T1
   clear T1 S2
   refine PB.head (.bool true) (congrArg Value.bool fk4) ?_
   refine PB.mk S3 ?_
   refine PL.take 5 23 (.bool false) (fun _ _ => by kernel_rfl) ?_
   refine PL.take 6 24 (.bool false) (fun _ _ => by kernel_rfl) ?_
   refine PL.take 7 25 (iv i) (fun _ _ => by kernel_rfl) ?_
   refine PL.take 8 26 (.bool (decide (i > 0))) (fun _ _ => by kernel_rfl) ?_
   refine PL.head (.bool true) (congrArg Value.bool (decide_eq_true fk5)) ?_
   refine PL.take 9 27 (.bool true) (fun _ _ => by kernel_rfl) ?_
   refine PL.take 10 28 (.slice la len cap) (fun _ _ => by kernel_rfl) ?_
   refine PL.take 11 29 (iv i) (fun _ _ => by kernel_rfl) ?_
   refine PL.takeOK 12 (fun w_ S_ => OK.index 30 26 1 la p1 len (i).toNat i (p1.add (i).toNat) (by kernel_rfl) (by kernel_rfl) hp1 (by omega) (by omega) (by rw [Nat.mul_one])) rfl ?_
   refine PL.takeOK 13 (fun w_ S_ => OK.ldCell 31 3 (p1.add (i).toNat) (iv (l.getD (i).toNat 0)) (by kernel_rfl) (by kernel_rfl) (S_.cell hc1)) rfl ?_
   refine PL.take 14 32 (.slice la len cap) (fun _ _ => by kernel_rfl) ?_
   refine PL.take 15 33 (iv i) (fun _ _ => by kernel_rfl) ?_
   refine PL.take 16 34 (iv (IntKind.wrap .i64 (i - 1))) (fun _ _ => by kernel_rfl) ?_
   refine PL.head (iv (i - 1)) (congrArg (Value.int .i64) (IntWalk.i64_in _ (by omega))) ?_
   refine PL.takeOK 17 (fun w_ S_ => OK.index 35 26 1 la p2 len (i - 1).toNat (i - 1) (p2.add (i - 1).toNat) (by kernel_rfl) (by kernel_rfl) hp2 (by omega) (by omega) (by rw [Nat.mul_one])) rfl ?_
   refine PL.takeOK 18 (fun w_ S_ => OK.ldCell 36 3 (p2.add (i - 1).toNat) (iv (l.getD (i - 1).toNat 0)) (by kernel_rfl) (by kernel_rfl) (S_.cell hc2)) rfl ?_
   refine PL.take 19 37 (.bool (decide ((l.getD (i).toNat 0) ≤ (l.getD (i - 1).toNat 0)))) (fun _ _ => by kernel_rfl) ?_
   refine PL.take 20 38 (.bool (decide ((l.getD (i).toNat 0) ≤ (l.getD (i - 1).toNat 0)))) (fun _ _ => by kernel_rfl) ?_
   refine PL.take 21 39 (.bool (decide ((l.getD (i).toNat 0) ≤ (l.getD (i - 1).toNat 0)))) (fun _ _ => by kernel_rfl) ?_
   refine PL.done ?_
   refine J.c 0 [] [] [] 39 ((l.getD (i).toNat 0) ≤ (l.getD (i - 1).toNat 0)) (fun fk6 => ?_) fun fk6 => ?_
   ·skip
    refine J.e 5 [.bool false] Tryz.func68 (hR _ _ ?_)
    exact ⟨congrArg Value.bool (axis_bad h0 (by omega) (node_no h0 (by first | exact .inl fk4 | exact .inr ⟨by omega, by omega⟩))).symm, S3.nil⟩
   refine J.wi 6 [false] [] [] 17 (i + 1) ?_
   exact J.t 3 (ih1 _ (show ((len : Int) - (i + 1)).toNat < mm1 from by omega) (i + 1) w3 (by omega) (by omega) (all_step h0 hq (node_yes h0 fk4 (by omega))) S3 rfl)
  refine J.e 6 [.bool true] Tryz.func68 (hR _ _ ?_)
  exact ⟨congrArg Value.bool (axis_yes (by omega) (by omega) fun j hj => hq j (by omega)).symm, S1.nil⟩
 exact J.t 9 (L68_1 _ 0 w (by omega) (by omega) (by intro j hj; simp at hj) S0 rfl)

theorem hb30 : HasBody Tryz.prog 30 := fun _ _ => by kernel_rfl
def K30_0 := adv 31 [false] (bodyOf Tryz.f30)
theorem rcvalid_any (c : Crv) (w : World) (hc : crvQ w c) : Ret Tryz.prog 30 #[.agg (crvA c)] w (fun v w' => v = .bool (validV c) ∧ Sep w [] w') := by
 refine Ret.st (N := 31) Tryz.func30 fun R hR S0 => ?_
 obtain ⟨q1, q2, q3, q4, q5, q6, _⟩ := id hc
 have ql1 := q2.len_eq
 have ql2 := q5.len_eq
 refine J.nw 2 [] [] [] S0 1 (crvC c) 66 fun b1 w1 S1 => ?_
 refine J.lb 6 [] [] [] S1 0 rfl 5 (.slice c.gX_a c.gX_n c.gX_c) ?_
 refine J.c0 0 [] [] [] S1 6 hb68 (rcaxis_any c.gX_a c.gX_n c.gX_c c.gX_l _ (q2.sep S1) (by first | omega | (simp; omega))) fun w2 S2 => ?_
 refine J.bn 2 [] [] [] 8 (axisB c.gX_l) (fun fk1 => ?_) fun fk1 => ?_
 ·skip
  refine J.lb 1 [] [] [] S2 0 rfl 10 (.slice c.gY_a c.gY_n c.gY_c) ?_
  refine J.lb 2 [] [(11, iv (c.gY_n : Int))] [] S2 0 rfl 13 (.slice c.gX_a c.gX_n c.gX_c) ?_
  refine J.cn 4 [] [] [] 16 ((c.gY_n : Int) = (c.gX_n : Int)) (fun fk2 => ?_) fun fk2 => ?_
  ·skip
   have L30_1 : ∀ (mm_ : Nat) (i : Int) (w3 : World), (0 ≤ i) → (i ≤ (c.gY_n : Int)) → (∀ j, j < (i).toNat → elB (c.gY_l.getD j 0) = true) → Sep w [box b1 (crvC c) 66] w3 → ((c.gY_n : Int) - i).toNat = mm_ → J Tryz.prog 30 31 R K30_0 [(3, iv i), (1, pv b1)] w3 := by
    intro mm1
    induction mm1 using Nat.strongRecOn with
    | _ mm1 ih1 =>
    intro i w3 h0 h1 hq S3 hm1
    refine J.lb 5 [] [(17, iv i)] [] S3 0 rfl 19 (.slice c.gY_a c.gY_n c.gY_c) ?_
    refine J.c 3 [] [] [] 21 (i < (c.gY_n : Int)) (fun fk3 => ?_) fun fk3 => ?_
    ·skip
     refine J.lb 7 [true] [] [] S3 0 rfl 25 (.slice c.gY_a c.gY_n c.gY_c) ?_
     refine J.r 1 [] [(26, iv i)] [] ?_
     obtain ⟨p1, hp1, hc1⟩ := q5.at 0 (i).toNat (by omega)
     have hel1 := getD_Q q6 0 (n := (i).toNat) (by have := q5.len_eq; omega)
     refine J.ok (OK.index 27 26 1 c.gY_a p1 c.gY_n (i).toNat i (p1.add (i).toNat) (by kernel_rfl) (by kernel_rfl) hp1 (by omega) (by omega) (by rw [Nat.mul_one])) ?_
     refine J.ok (OK.ldCell 28 3 (p1.add (i).toNat) (iv (c.gY_l.getD (i).toNat 0)) (by kernel_rfl) (by kernel_rfl) (S3.cell hc1)) ?_
     refine J.c0 0 [] [] [] S3 29 hb69 (rfits_any (c.gY_l.getD (i).toNat 0) _) fun w4 S4 => ?_
     refine J.bn 2 [] [] [] 30 (elB (c.gY_l.getD (i).toNat 0)) (fun fk4 => ?_) fun fk4 => ?_
     ·skip
      refine J.wi 6 [false] [] [] 23 (i + 1) ?_
      exact J.t 3 (ih1 _ (show ((c.gY_n : Int) - (i + 1)).toNat < mm1 from by omega) (i + 1) w4 (by omega) (by omega) (all_step (q := fun j => elB (c.gY_l.getD j 0) = true) h0 hq fk4) S4 rfl)
     refine J.e 5 [.bool false] Tryz.func30 (hR _ _ ?_)
     exact ⟨congrArg Value.bool (validV_no (.inr (.inr (all_no 0 (j := i.toNat) (by omega) fk4)))).symm, S4.nil⟩
    refine J.e 6 [.bool true] Tryz.func30 (hR _ _ ?_)
    exact ⟨congrArg Value.bool (validV_yes (by omega) fk1 ((all_getD 0).2 fun j hj => hq j (by omega))).symm, S3.nil⟩
   exact J.t 9 (L30_1 _ 0 w2 (by omega) (by omega) (by intro j hj; simp at hj) S2 rfl)
  refine J.e 5 [.bool false] Tryz.func30 (hR _ _ ?_)
  exact ⟨congrArg Value.bool (validV_no (by first | exact .inr (.inl fk1) | exact .inl (by omega))).symm, S2.nil⟩
 refine J.e 14 [.bool false] Tryz.func30 (hR _ _ ?_)
 exact ⟨congrArg Value.bool (validV_no (by first | exact .inr (.inl fk1) | exact .inl (by omega))).symm, S2.nil⟩

end
end Go.Proofs.YtaoolgcddapegaaGreatDoor

