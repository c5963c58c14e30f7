/- Walks of functions of this seat, printed by a program over the engine. Conditions: as each theorem says. -/
import Derived.Test.YtempepmfifljmaaF20
namespace Go.Proofs.Ytempepmfifljmaa
open Go.Eng Go.RowKit
set_option linter.unusedSimpArgs false
set_option linter.unusedVariables false
structure Crv where
  gX_a : Option Addr
  gX_n : Nat
  gX_c : Nat
  gX_l : List Int
  gY_a : Option Addr
  gY_n : Nat
  gY_c : Nat
  gY_l : List Int
def crvE (x : Crv) : List Value := [.slice x.gX_a x.gX_n x.gX_c, .slice x.gY_a x.gY_n x.gY_c]
def crvQ (w : World) (x : Crv) : Prop := (x.gX_n ≤ x.gX_c ∧ x.gX_c ≤ 9223372036854775807) ∧ Ones (Value.int .i64) w x.gX_a x.gX_n x.gX_l ∧ (∀ y ∈ x.gX_l, (fun n => (-9223372036854775808) ≤ n ∧ n ≤ 9223372036854775807) y) ∧ (x.gY_n ≤ x.gY_c ∧ x.gY_c ≤ 9223372036854775807) ∧ Ones (Value.int .i64) w x.gY_a x.gY_n x.gY_l ∧ (∀ y ∈ x.gY_l, (fun n => (-9223372036854775808) ≤ n ∧ n ≤ 9223372036854775807) y) ∧ True
theorem crvQ_sep {w0 w : World} {L : List Eng.Claim} {x : Crv} (h : crvQ w0 x) (S : Sep w0 L w) : crvQ w x := by
  obtain ⟨hgX1, hgX2, hgX3, hgY1, hgY2, hgY3, _⟩ := h
  exact ⟨hgX1, hgX2.sep S, hgX3, hgY1, hgY2.sep S, hgY3, trivial⟩
theorem axis_adj {l : List Int} (h1 : 2 ≤ l.length) (h2 : l.length ≤ 32) (h3 : l.all elB = true) (h : ∀ j, j + 1 < l.length → l.getD j 0 < l.getD (j + 1) 0) : axisB l = true := by
  refine axis_yes h1 h2 fun j hj => ?_
  unfold nodeB
  rw [(all_getD 0).1 h3 j hj, Bool.true_and, Bool.or_eq_true]
  cases j with
  | zero => left; rfl
  | succ j => right; exact decide_eq_true (h j hj)
theorem axis_far {l : List Int} (h : l.all elB = false) : axisB l = false := by
  cases hx : axisB l with
  | false => rfl
  | true =>
    have : l.all elB = true := (all_getD 0).2 fun j hj => elB_iff.2 ((axis_facts hx).2.1 j hj)
    rw [this] at h; cases h
theorem axis_down {l : List Int} {i : Int} (h0 : 0 ≤ i) (hi : i + 1 < (l.length : Int)) (h : l.getD i.toNat 0 ≥ l.getD (i + 1).toNat 0) : axisB l = false :=
  axis_bad (i := i + 1) (by omega) hi (node_no (by omega) (.inr ⟨by omega, by rw [show i + 1 - 1 = i by omega]; exact h⟩))
def validV (c : Crv) : Bool := c.gX_n == c.gY_n && axisB c.gX_l && c.gY_l.all elB
theorem validV_facts {c : Crv} (h : validV c = true) : c.gX_n = c.gY_n ∧ axisB c.gX_l = true ∧ ∀ j, j < c.gY_l.length → -1073741824 ≤ c.gY_l.getD j 0 ∧ c.gY_l.getD j 0 ≤ 1073741824 := by
  simp only [validV, Bool.and_eq_true, beq_iff_eq] at h
  exact ⟨h.1.1, h.1.2, fun j hj => elB_iff.1 ((all_getD 0).1 h.2 j hj)⟩
theorem validV_no {c : Crv} (h : c.gX_n ≠ c.gY_n ∨ axisB c.gX_l = false ∨ c.gY_l.all elB = false) : validV c = false := by
  unfold validV
  rcases h with h | h | h
  · rw [beq_eq_false_iff_ne.2 h]; rfl
  · rw [h]; simp
  · rw [h]; simp
theorem validV_yes {c : Crv} (h1 : c.gX_n = c.gY_n) (h2 : axisB c.gX_l = true) (h3 : c.gY_l.all elB = true) : validV c = true := by unfold validV; rw [h1, h2, h3]; simp
def valueV (c : Crv) (x : Int) : Int := curveF c.gX_l c.gY_l x
def atV (c : Crv) (x : Int) : Int := if validV c then valueV c x else 0
theorem seg_found {l : List Int} {x r : Int} (ax : axisB l = true) (hx : l.getD 0 0 ≤ x ∧ x < l.getD (l.length - 1) 0) (h0 : 0 ≤ r ∧ r ≤ (l.length : Int)) (h1 : r = 0 ∨ decide (l.getD (r - 1).toNat 0 > x) = false) (h2 : r = (l.length : Int) ∨ decide (l.getD r.toNat 0 > x) = true) :
    (0 ≤ r - 1 ∧ r - 1 + 1 < (l.length : Int)) ∧ l.getD (r - 1).toNat 0 ≤ x ∧ x < l.getD (r - 1 + 1).toNat 0 := by
  have hl := (axis_facts ax).1
  have hr0 : r ≠ 0 := by
    intro e; subst e
    rcases h2 with h | h
    · omega
    · have := of_decide_eq_true h; simp only [Int.toNat_zero] at this; omega
  have h1' : l.getD (r - 1).toNat 0 ≤ x := by
    rcases h1 with h | h
    · exact absurd h hr0
    · rw [decide_eq_false_iff_not] at h; omega
  have hrn : r ≠ (l.length : Int) := by
    intro e
    rw [e, show ((l.length : Int) - 1).toNat = l.length - 1 by omega] at h1'; omega
  have h2' : l.getD r.toNat 0 > x := by
    rcases h2 with h | h
    · exact absurd h hrn
    · exact of_decide_eq_true h
  rw [show r - 1 + 1 = r by omega]
  exact ⟨by omega, h1', h2'⟩
theorem curve_mid {xs ys : List Int} {x i : Int} (ax : axisB xs = true) (hx : ¬ x ≤ xs.getD 0 0 ∧ ¬ xs.getD (xs.length - 1) 0 ≤ x) (h0 : 0 ≤ i ∧ i + 1 < (xs.length : Int)) (h1 : xs.getD i.toNat 0 ≤ x) (h2 : x < xs.getD (i + 1).toNat 0) :
    curveF xs ys x = ys.getD i.toNat 0 + (x - xs.getD i.toNat 0) * (ys.getD (i + 1).toNat 0 - ys.getD i.toNat 0) / (xs.getD (i + 1).toNat 0 - xs.getD i.toNat 0) := by
  have e : (i + 1).toNat = i.toNat + 1 := by omega
  rw [e] at h2 ⊢
  exact curve_seg ax (by omega) h1 (by omega) (.inl h2) (by omega)

theorem hb58 : HasBody Try.prog 58 := fun _ _ => by kernel_rfl
noncomputable def K58_0 : List Item := adv 9 [] (bodyOf Try.f58)
noncomputable def K58_1 : List Item := adv 5 [] K58_0
noncomputable def K58_2 : List Item := adv 5 [] K58_0
set_option maxRecDepth 20000 in
set_option maxHeartbeats 20000000 in
theorem cfar_any (n : Int) (w : World) : Ret Try.prog 58 #[.int .i64 n] w (fun v w' => v = .bool (!elB n) ∧ Sep w [] w') := by
  have S0 := Sep.refl w
  refine Ret.named fun R hR => ?_
  refine Ret.of_J (N := 9) [(0, .int .i64 n)] Try.func58 rfl rfl (Nat.le_of_ble_eq_true (by kernel_rfl)) (by kernel_rfl) ?_
  refine J.run 9 K58_0 [(5, .bool (decide (n < (-1073741824)))), (0, .int .i64 n)] w (by kernel_rfl) ?_
  by_cases fk1 : n < (-1073741824)
  · skip
    refine J.head (.bool true) (congrArg Value.bool (decide_eq_true fk1)) ?_
    refine J.run 5 K58_1 [(2, .bool true)] w (by kernel_rfl) ?_
    refine J.ret Try.f58 [.bool true] Try.func58 ⟨by kernel_rfl, trivial⟩ ?_
    refine hR _ _ ?_
    exact ⟨congrArg Value.bool (by rw [Bool.eq_iff_iff]; simp [elB]; omega), S0.nil⟩
  · skip
    refine J.head (.bool false) (congrArg Value.bool (decide_eq_false fk1)) ?_
    refine J.run 5 K58_2 [(2, .bool (decide (n > 1073741824)))] w (by kernel_rfl) ?_
    refine J.ret Try.f58 [.bool (decide (n > 1073741824))] Try.func58 ⟨by kernel_rfl, trivial⟩ ?_
    refine hR _ _ ?_
    exact ⟨congrArg Value.bool (by rw [Bool.eq_iff_iff]; simp [elB]; omega), S0.nil⟩

theorem hb57 : HasBody Try.prog 57 := fun _ _ => by kernel_rfl
noncomputable def K57_0 : List Item := adv 11 [] (bodyOf Try.f57)
noncomputable def K57_1 : List Item := adv 14 [true] K57_0
noncomputable def K57_2 : List Item := adv 5 [] K57_0
noncomputable def K57_3 : List Item := adv 9 [true] K57_2
noncomputable def K57_4 : List Item := adv 1 [] K57_2
noncomputable def K57_5 : List Item := adv 2 [] (popK K57_4)
noncomputable def K57_6 : List Item := adv 5 [true] K57_5
noncomputable def K57_7 : List Item := adv 8 [false] K57_5
noncomputable def K57_8 : List Item := adv 4 [] K57_7
noncomputable def K57_9 : List Item := adv 5 [] K57_8
noncomputable def K57_10 : List Item := adv 10 [true] K57_9
noncomputable def K57_11 : List Item := adv 5 [true] (rRest K57_10)
noncomputable def K57_12 : List Item := adv 5 [false] (rRest K57_10)
noncomputable def K57_13 : List Item := adv 6 [false] K57_9
set_option maxRecDepth 20000 in
set_option maxHeartbeats 20000000 in
theorem caxis_any (la : Option Addr) (len cap : Nat) (l : List Int) (w : World) (hI : Ints w la len l) (hlen : len ≤ 9223372036854775807) : Ret Try.prog 57 #[.slice la len cap] w (fun v w' => v = .bool (axisB l) ∧ Sep w [] w') := by
  have S0 := Sep.refl w
  refine Ret.named fun R hR => ?_
  refine Ret.of_J (N := 33) [(0, .slice la len cap)] Try.func57 rfl rfl (Nat.le_of_ble_eq_true (by kernel_rfl)) (by kernel_rfl) ?_
  have hll := hI.len_eq
  refine J.run 11 K57_0 [(7, .bool (decide ((len : Int) < 2))), (0, .slice la len cap)] w (by kernel_rfl) ?_
  by_cases fk1 : (len : Int) < 2
  · skip
    refine J.head (.bool true) (congrArg Value.bool (decide_eq_true fk1)) ?_
    refine J.run 14 K57_1 [(2, .bool false)] w (by kernel_rfl) ?_
    refine J.ret Try.f57 [.bool false] Try.func57 ⟨by kernel_rfl, trivial⟩ ?_
    refine hR _ _ ?_
    exact ⟨congrArg Value.bool (axis_no (by omega)).symm, S0.nil⟩
  · skip
    refine J.head (.bool false) (congrArg Value.bool (decide_eq_false fk1)) ?_
    refine J.run 5 K57_2 [(12, .bool (decide ((len : Int) > 32))), (0, .slice la len cap)] w (by kernel_rfl) ?_
    by_cases fk2 : (len : Int) > 32
    · skip
      refine J.head (.bool true) (congrArg Value.bool (decide_eq_true fk2)) ?_
      refine J.run 9 K57_3 [(2, .bool false)] w (by kernel_rfl) ?_
      refine J.ret Try.f57 [.bool false] Try.func57 ⟨by kernel_rfl, trivial⟩ ?_
      refine hR _ _ ?_
      exact ⟨congrArg Value.bool (axis_no (by omega)).symm, S0.nil⟩
    · skip
      refine J.head (.bool false) (congrArg Value.bool (decide_eq_false fk2)) ?_
      refine J.run 1 K57_4 [(13, .slice la len cap), (12, .bool false), (0, .slice la len cap)] w (by kernel_rfl) ?_
      refine J.callF 14 38 #[.slice la len cap, .func (.func 58) #[] #[]] hb38 (by kernel_rfl) (containsI0 la len cap l 58  (fun x => !elB x) _ (hI.sep S0) (by first | omega | (simp; omega)) hb58 (fun i_ w_ hi_ S_ => cfar_any _ w_)) ?_
      rintro _ w1 ⟨rfl, T1⟩
      have S1 : Sep w [] w1 := S0.trans T1
      clear T1
      refine J.run 2 K57_5 [(15, .bool (List.any l (fun x => !elB x))), (0, .slice la len cap)] w1 (by kernel_rfl) ?_
      rcases Bool.eq_false_or_eq_true (List.any l (fun x => !elB x)) with fk3 | fk3
      · skip
        refine J.head (.bool true) (congrArg Value.bool fk3) ?_
        refine J.run 5 K57_6 [(2, .bool false)] w1 (by kernel_rfl) ?_
        refine J.ret Try.f57 [.bool false] Try.func57 ⟨by kernel_rfl, trivial⟩ ?_
        refine hR _ _ ?_
        exact ⟨congrArg Value.bool (axis_far (by have h_ := fk3; rw [any_not_all] at h_; simpa using h_)).symm, S1.nil⟩
      · skip
        refine J.head (.bool false) (congrArg Value.bool fk3) ?_
        refine J.run 8 K57_7 [(18, .int .i64 (IntKind.wrap .i64 ((len : Int) - 1))), (0, .slice la len cap)] w1 (by kernel_rfl) ?_
        refine J.head (.int .i64 ((len : Int) - 1)) (congrArg (Value.int .i64) (IntWalk.i64_in _ (by omega))) ?_
        refine J.run 4 K57_8 [(19, .int .i64 0), (18, .int .i64 ((len : Int) - 1)), (0, .slice la len cap)] w1 (by kernel_rfl) ?_
        have L57_1 : ∀ (mm_ : Nat) (i : Int) (w2 : World), (0 ≤ i) → (i + 1 ≤ (len : Int)) → (∀ j, j < (i).toNat → l.getD j 0 < l.getD (j + 1) 0) → Sep w [] w2 → ((len : Int) - i).toNat = mm_ → J Try.prog 57 33 R K57_8 [(19, .int .i64 i), (18, .int .i64 ((len : Int) - 1)), (0, .slice la len cap)] w2 := by
          intro mm1
          induction mm1 using Nat.strongRecOn with
          | _ mm1 ih1 =>
          intro i w2 h0 h1 hq S2 hm1
          refine J.run 5 K57_9 [(20, .bool (decide (i < ((len : Int) - 1)))), (19, .int .i64 i), (18, .int .i64 ((len : Int) - 1)), (0, .slice la len cap)] w2 (by kernel_rfl) ?_
          by_cases fk4 : i < ((len : Int) - 1)
          · skip
            refine J.head (.bool true) (congrArg Value.bool (decide_eq_true fk4)) ?_
            refine J.run 10 K57_10 [(3, .int .i64 i), (19, .int .i64 i), (18, .int .i64 ((len : Int) - 1)), (0, .slice la len cap)] w2 (by kernel_rfl) ?_
            obtain ⟨p1, hp1, hc1⟩ := hI.at 0 (i).toNat (by omega)
            obtain ⟨p2, hp2, hc2⟩ := hI.at 0 (i + 1).toNat (by omega)
            refine J.drawStill S2 10 Try.mixed (by kernel_rfl) (by kernel_rfl) (by kernel_rfl) ?_
            intro w3 S3
            refine SL.ok (by decide) (OK.run 22 (.slice la len cap) (by kernel_rfl)) ?_
            refine SL.ok (by decide) (OK.run 23 (.int .i64 i) (by kernel_rfl)) ?_
            refine SL.ok (by decide) (OK.index 24 22 1 la p1 len (i).toNat i (p1.add (i).toNat) (by kernel_rfl) (by kernel_rfl) hp1 (by omega) (by omega) (by rw [Nat.mul_one])) ?_
            refine SL.ok (by decide) (OK.ldCell 25 3 (p1.add (i).toNat) (.int .i64 (l.getD (i).toNat 0)) (by kernel_rfl) (by kernel_rfl) (S3.cell hc1)) ?_
            refine SL.ok (by decide) (OK.run 26 (.slice la len cap) (by kernel_rfl)) ?_
            refine SL.ok (by decide) (OK.run 27 (.int .i64 i) (by kernel_rfl)) ?_
            refine SL.ok (by decide) (OK.run 28 (.int .i64 (IntKind.wrap .i64 (i + 1))) (by kernel_rfl)) ?_
            refine SL.head (.int .i64 (i + 1)) (congrArg (Value.int .i64) (IntWalk.i64_in _ (by omega))) ?_
            refine SL.ok (by decide) (OK.index 29 22 1 la p2 len (i + 1).toNat (i + 1) (p2.add (i + 1).toNat) (by kernel_rfl) (by kernel_rfl) hp2 (by omega) (by omega) (by rw [Nat.mul_one])) ?_
            refine SL.ok (by decide) (OK.ldCell 30 3 (p2.add (i + 1).toNat) (.int .i64 (l.getD (i + 1).toNat 0)) (by kernel_rfl) (by kernel_rfl) (S3.cell hc2)) ?_
            refine SL.ok (by decide) (OK.run 31 (.bool (decide ((l.getD (i).toNat 0) ≥ (l.getD (i + 1).toNat 0)))) (by kernel_rfl)) ?_
            refine SL.done ?_
            refine TL.done (by kernel_rfl) ?_
            refine J.run 0 (rRest K57_10) [(31, .bool (decide ((l.getD (i).toNat 0) ≥ (l.getD (i + 1).toNat 0)))), (19, .int .i64 i), (18, .int .i64 ((len : Int) - 1)), (0, .slice la len cap)] w3 (by kernel_rfl) ?_
            by_cases fk5 : (l.getD (i).toNat 0) ≥ (l.getD (i + 1).toNat 0)
            · skip
              refine J.head (.bool true) (congrArg Value.bool (decide_eq_true fk5)) ?_
              refine J.run 5 K57_11 [(2, .bool false)] w3 (by kernel_rfl) ?_
              refine J.ret Try.f57 [.bool false] Try.func57 ⟨by kernel_rfl, trivial⟩ ?_
              refine hR _ _ ?_
              exact ⟨congrArg Value.bool (axis_down h0 (by omega) (by omega)).symm, S3.nil⟩
            · skip
              refine J.head (.bool false) (congrArg Value.bool (decide_eq_false fk5)) ?_
              refine J.run 5 K57_12 [(32, .int .i64 (IntKind.wrap .i64 (i + 1))), (18, .int .i64 ((len : Int) - 1)), (0, .slice la len cap)] w3 (by kernel_rfl) ?_
              refine J.head (.int .i64 (i + 1)) (congrArg (Value.int .i64) (IntWalk.i64_in _ (by omega))) ?_
              refine J.run 3 K57_8 [(19, .int .i64 (i + 1)), (18, .int .i64 ((len : Int) - 1)), (0, .slice la len cap)] w3 (by kernel_rfl) ?_
              refine J.run 0 K57_8 [(19, .int .i64 (i + 1)), (18, .int .i64 ((len : Int) - 1)), (0, .slice la len cap)] w3 (by kernel_rfl) ?_
              exact ih1 _ (show ((len : Int) - (i + 1)).toNat < mm1 from by omega) (i + 1) w3 (by omega) (by omega) (all_step (q := fun j => l.getD j 0 < l.getD (j + 1) 0) h0 hq (by rw [show i.toNat + 1 = (i + 1).toNat by omega]; omega)) S3 rfl
          · skip
            refine J.head (.bool false) (congrArg Value.bool (decide_eq_false fk4)) ?_
            refine J.run 6 K57_13 [(2, .bool true)] w2 (by kernel_rfl) ?_
            refine J.ret Try.f57 [.bool true] Try.func57 ⟨by kernel_rfl, trivial⟩ ?_
            refine hR _ _ ?_
            exact ⟨congrArg Value.bool (axis_adj (by omega) (by omega) (by have h_ := fk3; rw [any_not_all] at h_; simpa using h_) fun j hj => hq j (by omega)).symm, S2.nil⟩
        exact L57_1 _ 0 w1 (by omega) (by omega) (by intro j hj; simp at hj) S1 rfl

theorem hb29 : HasBody Try.prog 29 := fun _ _ => by kernel_rfl
noncomputable def K29_0 : List Item := adv 2 [] (bodyOf Try.f29)
noncomputable def K29_1 : List Item := adv 5 [] (popK K29_0)
noncomputable def K29_2 : List Item := adv 2 [] (popK K29_1)
noncomputable def K29_3 : List Item := adv 3 [] (popK K29_2)
noncomputable def K29_4 : List Item := adv 1 [] K29_3
noncomputable def K29_5 : List Item := adv 2 [] (popK (popK K29_4))
noncomputable def K29_6 : List Item := adv 1 [] K29_5
noncomputable def K29_7 : List Item := adv 4 [] (popK (popK K29_6))
noncomputable def K29_8 : List Item := adv 7 [] K29_5
noncomputable def K29_9 : List Item := adv 12 [] K29_3
set_option maxRecDepth 20000 in
set_option maxHeartbeats 20000000 in
theorem cvalid_any (c : Crv) (w : World) (hc : crvQ w c) : Ret Try.prog 29 #[.agg #[.slice c.gX_a c.gX_n c.gX_c, .slice c.gY_a c.gY_n c.gY_c]] w (fun v w' => v = .bool (validV c) ∧ Sep w [] w') := by
  have S0 := Sep.refl w
  refine Ret.named fun R hR => ?_
  refine Ret.of_J (N := 21) [(0, .agg #[.slice c.gX_a c.gX_n c.gX_c, .slice c.gY_a c.gY_n c.gY_c])] Try.func29 rfl rfl (Nat.le_of_ble_eq_true (by kernel_rfl)) (by kernel_rfl) ?_
  obtain ⟨q1, q2, q3, q4, q5, q6, _⟩ := id hc
  have ql1 := q2.len_eq
  have ql2 := q5.len_eq
  refine J.run 2 K29_0 [(0, .agg #[.slice c.gX_a c.gX_n c.gX_c, .slice c.gY_a c.gY_n c.gY_c])] w (by kernel_rfl) ?_
  refine J.new S0 1 [.slice c.gX_a c.gX_n c.gX_c, .slice c.gY_a c.gY_n c.gY_c] 40 (by kernel_rfl) ?_
  intro b1 w1 S1
  refine J.run 5 K29_1 [(3, .pointer (some ⟨b1, 0, none⟩)), (1, .pointer (some ⟨b1, 0, none⟩))] w1 (by kernel_rfl) ?_
  refine J.ok (OK.ldBox S1 0 4 22 0 (.slice c.gX_a c.gX_n c.gX_c) (by kernel_rfl) rfl (by kernel_rfl)) ?_
  refine J.run 2 K29_2 [(6, .pointer (some ⟨b1, 1, none⟩)), (5, .int .i64 (c.gX_n : Int)), (1, .pointer (some ⟨b1, 0, none⟩))] w1 (by kernel_rfl) ?_
  refine J.ok (OK.ldBox S1 0 7 22 1 (.slice c.gY_a c.gY_n c.gY_c) (by kernel_rfl) rfl (by kernel_rfl)) ?_
  refine J.run 3 K29_3 [(10, .bool ((c.gX_n : Int) == (c.gY_n : Int))), (1, .pointer (some ⟨b1, 0, none⟩))] w1 (by kernel_rfl) ?_
  by_cases fk1 : (c.gX_n : Int) = (c.gY_n : Int)
  · skip
    refine J.head (.bool true) (congrArg Value.bool (beq_iff_eq.2 fk1)) ?_
    refine J.run 1 K29_4 [(11, .pointer (some ⟨b1, 0, none⟩)), (10, .bool true), (1, .pointer (some ⟨b1, 0, none⟩))] w1 (by kernel_rfl) ?_
    refine J.ok (OK.ldBox S1 0 12 22 0 (.slice c.gX_a c.gX_n c.gX_c) (by kernel_rfl) rfl (by kernel_rfl)) ?_
    refine J.callF 13 57 #[.slice c.gX_a c.gX_n c.gX_c] hb57 (by kernel_rfl) (caxis_any c.gX_a c.gX_n c.gX_c c.gX_l _ (q2.sep S1) (by first | omega | (simp; omega))) ?_
    rintro _ w2 ⟨rfl, T1⟩
    have S2 : Sep w [box b1 [.slice c.gX_a c.gX_n c.gX_c, .slice c.gY_a c.gY_n c.gY_c] 40] w2 := S1.trans T1
    clear T1 S1
    refine J.run 2 K29_5 [(15, .bool (axisB c.gX_l)), (1, .pointer (some ⟨b1, 0, none⟩))] w2 (by kernel_rfl) ?_
    rcases Bool.eq_false_or_eq_true (axisB c.gX_l) with fk2 | fk2
    · skip
      refine J.head (.bool true) (congrArg Value.bool fk2) ?_
      refine J.run 1 K29_6 [(16, .pointer (some ⟨b1, 1, none⟩)), (15, .bool true)] w2 (by kernel_rfl) ?_
      refine J.ok (OK.ldBox S2 0 17 22 1 (.slice c.gY_a c.gY_n c.gY_c) (by kernel_rfl) rfl (by kernel_rfl)) ?_
      refine J.callF 18 38 #[.slice c.gY_a c.gY_n c.gY_c, .func (.func 58) #[] #[]] hb38 (by kernel_rfl) (containsI0 c.gY_a c.gY_n c.gY_c c.gY_l 58  (fun x => !elB x) _ (q5.sep S2) (by first | omega | (simp; omega)) hb58 (fun i_ w_ hi_ S_ => cfar_any _ w_)) ?_
      rintro _ w3 ⟨rfl, T2⟩
      have S3 : Sep w [box b1 [.slice c.gX_a c.gX_n c.gX_c, .slice c.gY_a c.gY_n c.gY_c] 40] w3 := S2.trans T2
      clear T2 S2
      refine J.run 4 K29_7 [(2, .bool (!(List.any c.gY_l (fun x => !elB x))))] w3 (by kernel_rfl) ?_
      refine J.ret Try.f29 [.bool (!(List.any c.gY_l (fun x => !elB x)))] Try.func29 ⟨by kernel_rfl, trivial⟩ ?_
      refine hR _ _ ?_
      exact ⟨congrArg Value.bool (by unfold validV; rw [fk2, show c.gX_n = c.gY_n by omega, any_not_all]; simp), S3.nil⟩
    · skip
      refine J.head (.bool false) (congrArg Value.bool fk2) ?_
      refine J.run 7 K29_8 [(2, .bool false)] w2 (by kernel_rfl) ?_
      refine J.ret Try.f29 [.bool false] Try.func29 ⟨by kernel_rfl, trivial⟩ ?_
      refine hR _ _ ?_
      exact ⟨congrArg Value.bool (validV_no (by first | exact .inr (.inl fk2) | exact .inl (by omega))).symm, S2.nil⟩
  · skip
    refine J.head (.bool false) (congrArg Value.bool (beq_eq_false_iff_ne.2 fk1)) ?_
    refine J.run 12 K29_9 [(2, .bool false)] w1 (by kernel_rfl) ?_
    refine J.ret Try.f29 [.bool false] Try.func29 ⟨by kernel_rfl, trivial⟩ ?_
    refine hR _ _ ?_
    exact ⟨congrArg Value.bool (validV_no (by first | exact .inr (.inl rfl) | exact .inl (by omega))).symm, S1.nil⟩

theorem hb71 : HasBody Try.prog 71 := fun _ _ => by kernel_rfl
noncomputable def K71_0 : List Item := adv 5 [] (bodyOf Try.f71)
set_option maxRecDepth 20000 in
set_option maxHeartbeats 20000000 in
theorem cseg1_any (c : Crv) (x i : Int) (bx1 bx2 : Nat) (w : World) (hc : crvQ w c) (hi : 0 ≤ i ∧ i < (c.gX_n : Int)) (hb1 : (box bx1 [.slice c.gX_a c.gX_n c.gX_c, .slice c.gY_a c.gY_n c.gY_c] 40).holds w) (hb2 : (box bx2 [.int .i64 x] 3).holds w) : Ret Try.prog 71 #[.int .i64 i, .pointer (some ⟨bx1, 0, none⟩), .pointer (some ⟨bx2, 0, none⟩)] w (fun v w' => v = .bool (decide (c.gX_l.getD i.toNat 0 > x)) ∧ Sep w [] w') := by
  have S0 := Sep.refl w
  refine Ret.named fun R hR => ?_
  refine Ret.of_J (N := 12) [(0, .int .i64 i), (1, .pointer (some ⟨bx1, 0, none⟩)), (2, .pointer (some ⟨bx2, 0, none⟩))] Try.func71 rfl rfl (Nat.le_of_ble_eq_true (by kernel_rfl)) (by kernel_rfl) ?_
  obtain ⟨q1, q2, q3, q4, q5, q6, _⟩ := id hc
  have ql1 := q2.len_eq
  have ql2 := q5.len_eq
  refine J.run 5 K71_0 [(0, .int .i64 i), (1, .pointer (some ⟨bx1, 0, none⟩)), (2, .pointer (some ⟨bx2, 0, none⟩))] w (by kernel_rfl) ?_
  obtain ⟨p1, hp1, hc1⟩ := q2.at 0 (i).toNat (by omega)
  have hel1 := getD_Q q3 0 (n := (i).toNat) (by have := q2.len_eq; omega)
  refine J.drawStill S0 8 Try.mixed (by kernel_rfl) (by kernel_rfl) (by kernel_rfl) ?_
  intro w1 S1
  refine SL.ok (by decide) (OK.run 5 (.pointer (some ⟨bx1, 0, none⟩)) (by kernel_rfl)) ?_
  refine SL.ok (by decide) (OK.ldRo S1 hb1 6 22 0 (.slice c.gX_a c.gX_n c.gX_c) (by kernel_rfl) (by kernel_rfl)) ?_
  refine SL.ok (by decide) (OK.run 7 (.int .i64 i) (by kernel_rfl)) ?_
  refine SL.ok (by decide) (OK.index 8 22 1 c.gX_a p1 c.gX_n (i).toNat i (p1.add (i).toNat) (by kernel_rfl) (by kernel_rfl) hp1 (by omega) (by omega) (by rw [Nat.mul_one])) ?_
  refine SL.ok (by decide) (OK.ldCell 9 3 (p1.add (i).toNat) (.int .i64 (c.gX_l.getD (i).toNat 0)) (by kernel_rfl) (by kernel_rfl) (S1.cell hc1)) ?_
  refine SL.ok (by decide) (OK.ldRo S1 hb2 10 3 0 (.int .i64 x) (by kernel_rfl) (by kernel_rfl)) ?_
  refine SL.ok (by decide) (OK.run 11 (.bool (decide ((c.gX_l.getD (i).toNat 0) > x))) (by kernel_rfl)) ?_
  refine SL.ok (by decide) (OK.run 4 (.bool (decide ((c.gX_l.getD (i).toNat 0) > x))) (by kernel_rfl)) ?_
  refine SL.done ?_
  refine TL.done (by kernel_rfl) ?_
  refine J.run 0 (rRest K71_0) [(4, .bool (decide ((c.gX_l.getD (i).toNat 0) > x)))] w1 (by kernel_rfl) ?_
  refine J.ret Try.f71 [.bool (decide ((c.gX_l.getD (i).toNat 0) > x))] Try.func71 ⟨by kernel_rfl, trivial⟩ ?_
  refine hR _ _ ?_
  exact ⟨rfl, S1.nil⟩

theorem hb67 : HasBody Try.prog 67 := fun _ _ => by kernel_rfl
noncomputable def K67_0 : List Item := adv 2 [] (bodyOf Try.f67)
noncomputable def K67_1 : List Item := adv 5 [] (popK (popK K67_0))
noncomputable def K67_2 : List Item := adv 2 [] (popK K67_1)
noncomputable def K67_3 : List Item := adv 1 [] (popK K67_2)
noncomputable def K67_4 : List Item := adv 2 [] K67_3
set_option maxRecDepth 20000 in
set_option maxHeartbeats 20000000 in
theorem csegment_any (c : Crv) (x : Int) (w : World) (hc : crvQ w c) (hv : validV c = true) (hxx : c.gX_l.getD 0 0 ≤ x ∧ x < c.gX_l.getD (c.gX_l.length - 1) 0) : Ret Try.prog 67 #[.agg #[.slice c.gX_a c.gX_n c.gX_c, .slice c.gY_a c.gY_n c.gY_c], .int .i64 x] w (fun v w' => ∃ i, v = .int .i64 i ∧ ((0 ≤ i ∧ i + 1 < (c.gX_l.length : Int)) ∧ c.gX_l.getD i.toNat 0 ≤ x ∧ x < c.gX_l.getD (i + 1).toNat 0) ∧ Sep w [] w') := by
  have S0 := Sep.refl w
  refine Ret.named fun R hR => ?_
  refine Ret.of_J (N := 11) [(0, .agg #[.slice c.gX_a c.gX_n c.gX_c, .slice c.gY_a c.gY_n c.gY_c]), (1, .int .i64 x)] Try.func67 rfl rfl (Nat.le_of_ble_eq_true (by kernel_rfl)) (by kernel_rfl) ?_
  obtain ⟨q1, q2, q3, q4, q5, q6, _⟩ := id hc
  have ql1 := q2.len_eq
  have ql2 := q5.len_eq
  obtain ⟨hv1, hv2, hv3⟩ := validV_facts hv
  obtain ⟨hx1, hx2, hx3⟩ := axis_facts hv2
  have hX : c.gX_l.length = c.gX_n := by omega
  have hY : c.gY_l.length = c.gX_n := by omega
  have hxm := axis_mono hv2 (show 0 < ((c.gX_n : Int) - 1).toNat by omega) (by omega)
  have hx0 := hx2 0 (by omega)
  have hxl := hx2 ((c.gX_n : Int) - 1).toNat (by omega)
  refine J.run 2 K67_0 [(0, .agg #[.slice c.gX_a c.gX_n c.gX_c, .slice c.gY_a c.gY_n c.gY_c]), (1, .int .i64 x)] w (by kernel_rfl) ?_
  refine J.new S0 2 [.slice c.gX_a c.gX_n c.gX_c, .slice c.gY_a c.gY_n c.gY_c] 40 (by kernel_rfl) ?_
  intro b1 w1 S1
  refine J.new S1 3 [.int .i64 x] 3 (by kernel_rfl) ?_
  intro b2 w2 S2
  refine J.run 5 K67_1 [(5, .pointer (some ⟨b1, 0, none⟩)), (3, .pointer (some ⟨b2, 0, none⟩)), (2, .pointer (some ⟨b1, 0, none⟩))] w2 (by kernel_rfl) ?_
  refine J.ok (OK.ldBox S2 1 6 22 0 (.slice c.gX_a c.gX_n c.gX_c) (by kernel_rfl) rfl (by kernel_rfl)) ?_
  refine J.run 2 K67_2 [(8, .func (.func 71) #[] #[.pointer (some ⟨b1, 0, none⟩), .pointer (some ⟨b2, 0, none⟩)]), (7, .int .i64 (c.gX_n : Int))] w2 (by kernel_rfl) ?_
  refine J.callF 9 43 #[.int .i64 (c.gX_n : Int), .func (.func 71) #[] #[.pointer (some ⟨b1, 0, none⟩), .pointer (some ⟨b2, 0, none⟩)]] hb43 (by kernel_rfl) (search2 (c.gX_n : Int) 71 (.pointer (some ⟨b1, 0, none⟩)) (.pointer (some ⟨b2, 0, none⟩)) (fun i => decide (c.gX_l.getD i.toNat 0 > x)) _ (by omega) hb71 (fun i_ w_ h0_ h1_ S_ => cseg1_any c x i_ b1 b2 w_ (crvQ_sep (crvQ_sep hc S2) S_) ⟨h0_, by omega⟩ (box_keep (S2.nth 1 rfl) S_) (box_keep (S2.nth 0 rfl) S_))) ?_
  rintro _ w3 ⟨r1, rfl, hr11, hr12, hr13, T1⟩
  have S3 : Sep w [box b2 [.int .i64 x] 3, box b1 [.slice c.gX_a c.gX_n c.gX_c, .slice c.gY_a c.gY_n c.gY_c] 40] w3 := S2.trans T1
  refine J.run 1 K67_3 [(10, .int .i64 (IntKind.wrap .i64 (r1 - 1)))] w3 (by kernel_rfl) ?_
  refine J.head (.int .i64 (r1 - 1)) (congrArg (Value.int .i64) (IntWalk.i64_in _ (by omega))) ?_
  refine J.run 2 K67_4 [(4, .int .i64 (r1 - 1))] w3 (by kernel_rfl) ?_
  refine J.ret Try.f67 [.int .i64 (r1 - 1)] Try.func67 ⟨by kernel_rfl, trivial⟩ ?_
  refine hR _ _ ?_
  have hsg := seg_found (r := r1) hv2 hxx (by omega) hr12 (by rw [hX]; exact hr13)
  exact ⟨_, rfl, hsg, S3.nil⟩

theorem hb59 : HasBody Try.prog 59 := fun _ _ => by kernel_rfl
noncomputable def K59_0 : List Item := adv 2 [] (bodyOf Try.f59)
noncomputable def K59_1 : List Item := adv 5 [] (popK K59_0)
noncomputable def K59_2 : List Item := adv 9 [] (popK K59_1)
noncomputable def K59_3 : List Item := adv 3 [] (popK (popK (popK K59_2)))
noncomputable def K59_4 : List Item := adv 4 [true] K59_3
noncomputable def K59_5 : List Item := adv 2 [] (popK (popK (popK K59_4)))
noncomputable def K59_6 : List Item := adv 5 [false] K59_3
noncomputable def K59_7 : List Item := adv 2 [] (popK K59_6)
noncomputable def K59_8 : List Item := adv 3 [] (popK (popK K59_7))
noncomputable def K59_9 : List Item := adv 4 [true] K59_8
noncomputable def K59_10 : List Item := adv 2 [] (popK K59_9)
noncomputable def K59_11 : List Item := adv 2 [] (popK (popK K59_10))
noncomputable def K59_12 : List Item := adv 5 [false] K59_8
noncomputable def K59_13 : List Item := adv 1 [] (popK K59_12)
noncomputable def K59_14 : List Item := adv 3 [] (popK K59_13)
set_option maxRecDepth 20000 in
set_option maxHeartbeats 20000000 in
theorem cvalue_any (c : Crv) (x : Int) (w : World) (hc : crvQ w c) (hv : validV c = true) : Ret Try.prog 59 #[.agg #[.slice c.gX_a c.gX_n c.gX_c, .slice c.gY_a c.gY_n c.gY_c], .int .i64 x] w (fun v w' => v = .int .i64 (valueV c x) ∧ Sep w [] w') := by
  have S0 := Sep.refl w
  refine Ret.named fun R hR => ?_
  refine Ret.of_J (N := 78) [(0, .agg #[.slice c.gX_a c.gX_n c.gX_c, .slice c.gY_a c.gY_n c.gY_c]), (1, .int .i64 x)] Try.func59 rfl rfl (Nat.le_of_ble_eq_true (by kernel_rfl)) (by kernel_rfl) ?_
  obtain ⟨q1, q2, q3, q4, q5, q6, _⟩ := id hc
  have ql1 := q2.len_eq
  have ql2 := q5.len_eq
  obtain ⟨hv1, hv2, hv3⟩ := validV_facts hv
  obtain ⟨hx1, hx2, hx3⟩ := axis_facts hv2
  have hX : c.gX_l.length = c.gX_n := by omega
  have hY : c.gY_l.length = c.gX_n := by omega
  have hxm := axis_mono hv2 (show 0 < ((c.gX_n : Int) - 1).toNat by omega) (by omega)
  have hx0 := hx2 0 (by omega)
  have hxl := hx2 ((c.gX_n : Int) - 1).toNat (by omega)
  refine J.run 2 K59_0 [(0, .agg #[.slice c.gX_a c.gX_n c.gX_c, .slice c.gY_a c.gY_n c.gY_c]), (1, .int .i64 x)] w (by kernel_rfl) ?_
  refine J.new S0 2 [.slice c.gX_a c.gX_n c.gX_c, .slice c.gY_a c.gY_n c.gY_c] 40 (by kernel_rfl) ?_
  intro b1 w1 S1
  refine J.run 5 K59_1 [(7, .pointer (some ⟨b1, 0, none⟩)), (2, .pointer (some ⟨b1, 0, none⟩)), (1, .int .i64 x)] w1 (by kernel_rfl) ?_
  refine J.ok (OK.ldBox S1 0 8 22 0 (.slice c.gX_a c.gX_n c.gX_c) (by kernel_rfl) rfl (by kernel_rfl)) ?_
  refine J.run 9 K59_2 [(12, .pointer (some ⟨b1, 0, none⟩)), (11, .int .i64 x), (5, .int .i64 (c.gX_n : Int)), (2, .pointer (some ⟨b1, 0, none⟩)), (1, .int .i64 x)] w1 (by kernel_rfl) ?_
  refine J.ok (OK.ldBox S1 0 13 22 0 (.slice c.gX_a c.gX_n c.gX_c) (by kernel_rfl) rfl (by kernel_rfl)) ?_
  obtain ⟨p1, hp1, hc1⟩ := q2.at 0 0 (by omega)
  have hel1 := getD_Q q3 0 (n := 0) (by have := q2.len_eq; omega)
  refine J.ok (OK.index 14 22 1 c.gX_a p1 c.gX_n 0 0 (p1.add 0) (by kernel_rfl) (by kernel_rfl) hp1 (by omega) (by omega) (by rw [Nat.mul_one])) ?_
  refine J.ok (OK.ldCell 15 3 (p1.add 0) (.int .i64 (c.gX_l.getD 0 0)) (by kernel_rfl) (by kernel_rfl) (S1.cell hc1)) ?_
  refine J.run 3 K59_3 [(10, .bool (decide (x ≤ (c.gX_l.getD 0 0)))), (5, .int .i64 (c.gX_n : Int)), (2, .pointer (some ⟨b1, 0, none⟩)), (1, .int .i64 x)] w1 (by kernel_rfl) ?_
  by_cases fk1 : x ≤ (c.gX_l.getD 0 0)
  · skip
    refine J.head (.bool true) (congrArg Value.bool (decide_eq_true fk1)) ?_
    refine J.run 4 K59_4 [(17, .pointer (some ⟨b1, 1, none⟩))] w1 (by kernel_rfl) ?_
    refine J.ok (OK.ldBox S1 0 18 22 1 (.slice c.gY_a c.gY_n c.gY_c) (by kernel_rfl) rfl (by kernel_rfl)) ?_
    obtain ⟨p2, hp2, hc2⟩ := q5.at 0 0 (by omega)
    have hel2 := getD_Q q6 0 (n := 0) (by have := q5.len_eq; omega)
    refine J.ok (OK.index 19 22 1 c.gY_a p2 c.gY_n 0 0 (p2.add 0) (by kernel_rfl) (by kernel_rfl) hp2 (by omega) (by omega) (by rw [Nat.mul_one])) ?_
    refine J.ok (OK.ldCell 20 3 (p2.add 0) (.int .i64 (c.gY_l.getD 0 0)) (by kernel_rfl) (by kernel_rfl) (S1.cell hc2)) ?_
    refine J.run 2 K59_5 [(4, .int .i64 (c.gY_l.getD 0 0))] w1 (by kernel_rfl) ?_
    refine J.ret Try.f59 [.int .i64 (c.gY_l.getD 0 0)] Try.func59 ⟨by kernel_rfl, trivial⟩ ?_
    refine hR _ _ ?_
    exact ⟨congrArg (Value.int .i64) (by unfold valueV curveF; first | rw [if_pos (by omega)] | (rw [if_neg (by omega), if_pos (by rw [show c.gX_l.length - 1 = ((c.gX_n : Int) - 1).toNat by omega]; omega), show c.gX_l.length - 1 = ((c.gX_n : Int) - 1).toNat by omega])), S1.nil⟩
  · skip
    refine J.head (.bool false) (congrArg Value.bool (decide_eq_false fk1)) ?_
    refine J.run 5 K59_6 [(23, .pointer (some ⟨b1, 0, none⟩)), (22, .int .i64 x), (5, .int .i64 (c.gX_n : Int)), (2, .pointer (some ⟨b1, 0, none⟩)), (1, .int .i64 x)] w1 (by kernel_rfl) ?_
    refine J.ok (OK.ldBox S1 0 24 22 0 (.slice c.gX_a c.gX_n c.gX_c) (by kernel_rfl) rfl (by kernel_rfl)) ?_
    refine J.run 2 K59_7 [(26, .int .i64 (IntKind.wrap .i64 ((c.gX_n : Int) - 1))), (24, .slice c.gX_a c.gX_n c.gX_c), (22, .int .i64 x), (5, .int .i64 (c.gX_n : Int)), (2, .pointer (some ⟨b1, 0, none⟩)), (1, .int .i64 x)] w1 (by kernel_rfl) ?_
    refine J.head (.int .i64 ((c.gX_n : Int) - 1)) (congrArg (Value.int .i64) (IntWalk.i64_in _ (by omega))) ?_
    obtain ⟨p3, hp3, hc3⟩ := q2.at 0 ((c.gX_n : Int) - 1).toNat (by omega)
    have hel3 := getD_Q q3 0 (n := ((c.gX_n : Int) - 1).toNat) (by have := q2.len_eq; omega)
    refine J.ok (OK.index 27 22 1 c.gX_a p3 c.gX_n ((c.gX_n : Int) - 1).toNat ((c.gX_n : Int) - 1) (p3.add ((c.gX_n : Int) - 1).toNat) (by kernel_rfl) (by kernel_rfl) hp3 (by omega) (by omega) (by rw [Nat.mul_one])) ?_
    refine J.ok (OK.ldCell 28 3 (p3.add ((c.gX_n : Int) - 1).toNat) (.int .i64 (c.gX_l.getD ((c.gX_n : Int) - 1).toNat 0)) (by kernel_rfl) (by kernel_rfl) (S1.cell hc3)) ?_
    refine J.run 3 K59_8 [(21, .bool (decide (x ≥ (c.gX_l.getD ((c.gX_n : Int) - 1).toNat 0)))), (5, .int .i64 (c.gX_n : Int)), (2, .pointer (some ⟨b1, 0, none⟩)), (1, .int .i64 x)] w1 (by kernel_rfl) ?_
    by_cases fk2 : x ≥ (c.gX_l.getD ((c.gX_n : Int) - 1).toNat 0)
    · skip
      refine J.head (.bool true) (congrArg Value.bool (decide_eq_true fk2)) ?_
      refine J.run 4 K59_9 [(30, .pointer (some ⟨b1, 1, none⟩)), (5, .int .i64 (c.gX_n : Int))] w1 (by kernel_rfl) ?_
      refine J.ok (OK.ldBox S1 0 31 22 1 (.slice c.gY_a c.gY_n c.gY_c) (by kernel_rfl) rfl (by kernel_rfl)) ?_
      refine J.run 2 K59_10 [(33, .int .i64 (IntKind.wrap .i64 ((c.gX_n : Int) - 1))), (31, .slice c.gY_a c.gY_n c.gY_c)] w1 (by kernel_rfl) ?_
      refine J.head (.int .i64 ((c.gX_n : Int) - 1)) (congrArg (Value.int .i64) (IntWalk.i64_in _ (by omega))) ?_
      obtain ⟨p4, hp4, hc4⟩ := q5.at 0 ((c.gX_n : Int) - 1).toNat (by omega)
      have hel4 := getD_Q q6 0 (n := ((c.gX_n : Int) - 1).toNat) (by have := q5.len_eq; omega)
      refine J.ok (OK.index 34 22 1 c.gY_a p4 c.gY_n ((c.gX_n : Int) - 1).toNat ((c.gX_n : Int) - 1) (p4.add ((c.gX_n : Int) - 1).toNat) (by kernel_rfl) (by kernel_rfl) hp4 (by omega) (by omega) (by rw [Nat.mul_one])) ?_
      refine J.ok (OK.ldCell 35 3 (p4.add ((c.gX_n : Int) - 1).toNat) (.int .i64 (c.gY_l.getD ((c.gX_n : Int) - 1).toNat 0)) (by kernel_rfl) (by kernel_rfl) (S1.cell hc4)) ?_
      refine J.run 2 K59_11 [(4, .int .i64 (c.gY_l.getD ((c.gX_n : Int) - 1).toNat 0))] w1 (by kernel_rfl) ?_
      refine J.ret Try.f59 [.int .i64 (c.gY_l.getD ((c.gX_n : Int) - 1).toNat 0)] Try.func59 ⟨by kernel_rfl, trivial⟩ ?_
      refine hR _ _ ?_
      exact ⟨congrArg (Value.int .i64) (by unfold valueV curveF; first | rw [if_pos (by omega)] | (rw [if_neg (by omega), if_pos (by rw [show c.gX_l.length - 1 = ((c.gX_n : Int) - 1).toNat by omega]; omega), show c.gX_l.length - 1 = ((c.gX_n : Int) - 1).toNat by omega])), S1.nil⟩
    · skip
      refine J.head (.bool false) (congrArg Value.bool (decide_eq_false fk2)) ?_
      refine J.run 5 K59_12 [(2, .pointer (some ⟨b1, 0, none⟩)), (1, .int .i64 x)] w1 (by kernel_rfl) ?_
      refine J.ok (OK.ldBox S1 0 36 40 0 (.agg #[.slice c.gX_a c.gX_n c.gX_c, .slice c.gY_a c.gY_n c.gY_c]) (by kernel_rfl) rfl (by kernel_rfl)) ?_
      refine J.run 1 K59_13 [(37, .int .i64 x), (36, .agg #[.slice c.gX_a c.gX_n c.gX_c, .slice c.gY_a c.gY_n c.gY_c]), (2, .pointer (some ⟨b1, 0, none⟩)), (1, .int .i64 x)] w1 (by kernel_rfl) ?_
      refine J.callF 38 67 #[.agg #[.slice c.gX_a c.gX_n c.gX_c, .slice c.gY_a c.gY_n c.gY_c], .int .i64 x] hb67 (by kernel_rfl) (csegment_any c x _ (crvQ_sep hc S1) hv (by rw [show c.gX_l.length - 1 = ((c.gX_n : Int) - 1).toNat by omega]; omega)) ?_
      rintro _ w2 ⟨i, rfl, ⟨hsa, hsb, hsc⟩, T1⟩
      have S2 : Sep w [box b1 [.slice c.gX_a c.gX_n c.gX_c, .slice c.gY_a c.gY_n c.gY_c] 40] w2 := S1.trans T1
      have hA3 := axis_mono hv2 (show (i).toNat < (i + 1).toNat by omega) (by omega)
      have hA1 := hx2 (i).toNat (by omega)
      have hA2 := hx2 (i + 1).toNat (by omega)
      have hB1 := hv3 (i).toNat (by omega)
      have hB2 := hv3 (i + 1).toNat (by omega)
      have hpb := prod_bd (t := x - c.gX_l.getD (i).toNat 0) (k := c.gY_l.getD (i + 1).toNat 0 - c.gY_l.getD (i).toNat 0) (by omega) (by omega)
      have hbw := btw_bounds (x0 := c.gX_l.getD (i).toNat 0) (x1 := c.gX_l.getD (i + 1).toNat 0) (y0 := c.gY_l.getD (i).toNat 0) (y1 := c.gY_l.getD (i + 1).toNat 0) (x := x) (by omega) (by omega) (by omega)
      unfold btwF at hbw
      refine J.run 3 K59_14 [(6, .int .i64 i), (2, .pointer (some ⟨b1, 0, none⟩)), (1, .int .i64 x)] w2 (by kernel_rfl) ?_
      obtain ⟨p5, hp5, hc5⟩ := q5.at 0 (i).toNat (by omega)
      have hel5 := getD_Q q6 0 (n := (i).toNat) (by have := q5.len_eq; omega)
      obtain ⟨p6, hp6, hc6⟩ := q2.at 0 (i).toNat (by omega)
      have hel6 := getD_Q q3 0 (n := (i).toNat) (by have := q2.len_eq; omega)
      obtain ⟨p7, hp7, hc7⟩ := q5.at 0 (i + 1).toNat (by omega)
      have hel7 := getD_Q q6 0 (n := (i + 1).toNat) (by have := q5.len_eq; omega)
      obtain ⟨p8, hp8, hc8⟩ := q2.at 0 (i + 1).toNat (by omega)
      have hel8 := getD_Q q3 0 (n := (i + 1).toNat) (by have := q2.len_eq; omega)
      refine J.drawPlan (fun w_ => Sep w [box b1 [.slice c.gX_a c.gX_n c.gX_c, .slice c.gY_a c.gY_n c.gY_c] 40] w_) [(0, true), (1, true), (2, true), (3, true), (4, true), (5, true), (6, true), (7, true), (8, true), (9, true), (10, true), (11, true), (12, true), (13, true), (14, true), (15, true), (16, true), (17, true), (18, true), (19, true), (20, true), (21, true), (22, true), (23, true), (24, true), (25, true), (26, true), (27, true), (28, true), (29, true), (30, true), (31, true), (32, true), (33, true), (34, true), (35, true), (36, true), (37, false), (38, true), (39, true)] S2 Try.mixed (by kernel_rfl) (planOK_of (T := [(0, some 39, 4), (1, some 40, 549755813888), (0, some 41, 64), (6, some 42, 3298534883328), (8, some 43, 4398046511104), (0, some 44, 2), (0, some 45, 4), (64, some 46, 35184372088832), (0, some 47, 64), (384, some 48, 211106232532992), (512, some 49, 281474976710656), (1056, some 50, 580542139465728), (0, some 51, 4), (4096, some 52, 2251799813685248), (0, some 53, 64), (16384, some 54, 9007199254740992), (40960, some 55, 22517998136852480), (65536, some 56, 36028797018963968), (0, some 57, 4), (262144, some 58, 144115188075855872), (0, some 59, 64), (1572864, some 60, 864691128455135232), (2097152, some 61, 1152921504606846976), (4325376, some 62, 2377900603251621888), (8390656, some 63, 4612811918334230528), (0, some 64, 4), (33554432, some 65, 18446744073709551616), (0, some 66, 64), (134217728, some 67, 73786976294838206464), (335544320, some 68, 184467440737095516160), (536870912, some 69, 295147905179352825856), (0, some 70, 4), (2147483648, some 71, 1180591620717411303424), (0, some 72, 64), (12884901888, some 73, 7083549724304467820544), (17179869184, some 74, 9444732965739290427392), (35433480192, some 75, 19479761741837286506496), (68736253952, some 76, 37788155234994016485376), (137438953488, some 77, 75557863734710416441344), (549755813887, some 4, 151115727451828646838272)]) (by kernel_rfl) (by kernel_rfl)) ?_
      intro w3 S3
      refine PB.mk (S3.sub (.cons_cons _ (.slnil))) ?_
      refine PL.take 0 39 (.pointer (some ⟨b1, 1, none⟩)) (fun _ _ => by kernel_rfl) ?_
      refine PL.takeOK 1 (fun w_ S_ => OK.ldBox S_ 0 40 22 1 (.slice c.gY_a c.gY_n c.gY_c) (by kernel_rfl) rfl (by kernel_rfl)) rfl ?_
      refine PL.take 2 41 (.int .i64 i) (fun _ _ => by kernel_rfl) ?_
      refine PL.takeOK 3 (fun w_ S_ => OK.index 42 22 1 c.gY_a p5 c.gY_n (i).toNat i (p5.add (i).toNat) (by kernel_rfl) (by kernel_rfl) hp5 (by omega) (by omega) (by rw [Nat.mul_one])) rfl ?_
      refine PL.takeOK 4 (fun w_ S_ => OK.ldCell 43 3 (p5.add (i).toNat) (.int .i64 (c.gY_l.getD (i).toNat 0)) (by kernel_rfl) (by kernel_rfl) (S_.cell hc5)) rfl ?_
      refine PL.take 5 44 (.int .i64 x) (fun _ _ => by kernel_rfl) ?_
      refine PL.take 6 45 (.pointer (some ⟨b1, 0, none⟩)) (fun _ _ => by kernel_rfl) ?_
      refine PL.takeOK 7 (fun w_ S_ => OK.ldBox S_ 0 46 22 0 (.slice c.gX_a c.gX_n c.gX_c) (by kernel_rfl) rfl (by kernel_rfl)) rfl ?_
      refine PL.take 8 47 (.int .i64 i) (fun _ _ => by kernel_rfl) ?_
      refine PL.takeOK 9 (fun w_ S_ => OK.index 48 22 1 c.gX_a p6 c.gX_n (i).toNat i (p6.add (i).toNat) (by kernel_rfl) (by kernel_rfl) hp6 (by omega) (by omega) (by rw [Nat.mul_one])) rfl ?_
      refine PL.takeOK 10 (fun w_ S_ => OK.ldCell 49 3 (p6.add (i).toNat) (.int .i64 (c.gX_l.getD (i).toNat 0)) (by kernel_rfl) (by kernel_rfl) (S_.cell hc6)) rfl ?_
      refine PL.take 11 50 (.int .i64 (IntKind.wrap .i64 (x - (c.gX_l.getD (i).toNat 0)))) (fun _ _ => by kernel_rfl) ?_
      refine PL.head (.int .i64 (x - (c.gX_l.getD (i).toNat 0))) (congrArg (Value.int .i64) (IntWalk.i64_in _ (by omega))) ?_
      refine PL.take 12 51 (.pointer (some ⟨b1, 1, none⟩)) (fun _ _ => by kernel_rfl) ?_
      refine PL.takeOK 13 (fun w_ S_ => OK.ldBox S_ 0 52 22 1 (.slice c.gY_a c.gY_n c.gY_c) (by kernel_rfl) rfl (by kernel_rfl)) rfl ?_
      refine PL.take 14 53 (.int .i64 i) (fun _ _ => by kernel_rfl) ?_
      refine PL.take 15 54 (.int .i64 (IntKind.wrap .i64 (i + 1))) (fun _ _ => by kernel_rfl) ?_
      refine PL.head (.int .i64 (i + 1)) (congrArg (Value.int .i64) (IntWalk.i64_in _ (by omega))) ?_
      refine PL.takeOK 16 (fun w_ S_ => OK.index 55 22 1 c.gY_a p7 c.gY_n (i + 1).toNat (i + 1) (p7.add (i + 1).toNat) (by kernel_rfl) (by kernel_rfl) hp7 (by omega) (by omega) (by rw [Nat.mul_one])) rfl ?_
      refine PL.takeOK 17 (fun w_ S_ => OK.ldCell 56 3 (p7.add (i + 1).toNat) (.int .i64 (c.gY_l.getD (i + 1).toNat 0)) (by kernel_rfl) (by kernel_rfl) (S_.cell hc7)) rfl ?_
      refine PL.take 18 57 (.pointer (some ⟨b1, 1, none⟩)) (fun _ _ => by kernel_rfl) ?_
      refine PL.takeOK 19 (fun w_ S_ => OK.ldBox S_ 0 58 22 1 (.slice c.gY_a c.gY_n c.gY_c) (by kernel_rfl) rfl (by kernel_rfl)) rfl ?_
      refine PL.take 20 59 (.int .i64 i) (fun _ _ => by kernel_rfl) ?_
      refine PL.takeOK 21 (fun w_ S_ => OK.index 60 22 1 c.gY_a p5 c.gY_n (i).toNat i (p5.add (i).toNat) (by kernel_rfl) (by kernel_rfl) hp5 (by omega) (by omega) (by rw [Nat.mul_one])) rfl ?_
      refine PL.takeOK 22 (fun w_ S_ => OK.ldCell 61 3 (p5.add (i).toNat) (.int .i64 (c.gY_l.getD (i).toNat 0)) (by kernel_rfl) (by kernel_rfl) (S_.cell hc5)) rfl ?_
      refine PL.take 23 62 (.int .i64 (IntKind.wrap .i64 ((c.gY_l.getD (i + 1).toNat 0) - (c.gY_l.getD (i).toNat 0)))) (fun _ _ => by kernel_rfl) ?_
      refine PL.head (.int .i64 ((c.gY_l.getD (i + 1).toNat 0) - (c.gY_l.getD (i).toNat 0))) (congrArg (Value.int .i64) (IntWalk.i64_in _ (by omega))) ?_
      refine PL.take 24 63 (.int .i64 (IntKind.wrap .i64 ((x - (c.gX_l.getD (i).toNat 0)) * ((c.gY_l.getD (i + 1).toNat 0) - (c.gY_l.getD (i).toNat 0))))) (fun _ _ => by kernel_rfl) ?_
      refine PL.head (.int .i64 ((x - (c.gX_l.getD (i).toNat 0)) * ((c.gY_l.getD (i + 1).toNat 0) - (c.gY_l.getD (i).toNat 0)))) (congrArg (Value.int .i64) (IntWalk.i64_in _ (by omega))) ?_
      refine PL.take 25 64 (.pointer (some ⟨b1, 0, none⟩)) (fun _ _ => by kernel_rfl) ?_
      refine PL.takeOK 26 (fun w_ S_ => OK.ldBox S_ 0 65 22 0 (.slice c.gX_a c.gX_n c.gX_c) (by kernel_rfl) rfl (by kernel_rfl)) rfl ?_
      refine PL.take 27 66 (.int .i64 i) (fun _ _ => by kernel_rfl) ?_
      refine PL.take 28 67 (.int .i64 (IntKind.wrap .i64 (i + 1))) (fun _ _ => by kernel_rfl) ?_
      refine PL.head (.int .i64 (i + 1)) (congrArg (Value.int .i64) (IntWalk.i64_in _ (by omega))) ?_
      refine PL.takeOK 29 (fun w_ S_ => OK.index 68 22 1 c.gX_a p8 c.gX_n (i + 1).toNat (i + 1) (p8.add (i + 1).toNat) (by kernel_rfl) (by kernel_rfl) hp8 (by omega) (by omega) (by rw [Nat.mul_one])) rfl ?_
      refine PL.takeOK 30 (fun w_ S_ => OK.ldCell 69 3 (p8.add (i + 1).toNat) (.int .i64 (c.gX_l.getD (i + 1).toNat 0)) (by kernel_rfl) (by kernel_rfl) (S_.cell hc8)) rfl ?_
      refine PL.take 31 70 (.pointer (some ⟨b1, 0, none⟩)) (fun _ _ => by kernel_rfl) ?_
      refine PL.takeOK 32 (fun w_ S_ => OK.ldBox S_ 0 71 22 0 (.slice c.gX_a c.gX_n c.gX_c) (by kernel_rfl) rfl (by kernel_rfl)) rfl ?_
      refine PL.take 33 72 (.int .i64 i) (fun _ _ => by kernel_rfl) ?_
      refine PL.takeOK 34 (fun w_ S_ => OK.index 73 22 1 c.gX_a p6 c.gX_n (i).toNat i (p6.add (i).toNat) (by kernel_rfl) (by kernel_rfl) hp6 (by omega) (by omega) (by rw [Nat.mul_one])) rfl ?_
      refine PL.takeOK 35 (fun w_ S_ => OK.ldCell 74 3 (p6.add (i).toNat) (.int .i64 (c.gX_l.getD (i).toNat 0)) (by kernel_rfl) (by kernel_rfl) (S_.cell hc6)) rfl ?_
      refine PL.take 36 75 (.int .i64 (IntKind.wrap .i64 ((c.gX_l.getD (i + 1).toNat 0) - (c.gX_l.getD (i).toNat 0)))) (fun _ _ => by kernel_rfl) ?_
      refine PL.head (.int .i64 ((c.gX_l.getD (i + 1).toNat 0) - (c.gX_l.getD (i).toNat 0))) (congrArg (Value.int .i64) (IntWalk.i64_in _ (by omega))) ?_
      refine PL.callF 76 68 #[.int .i64 ((x - (c.gX_l.getD (i).toNat 0)) * ((c.gY_l.getD (i + 1).toNat 0) - (c.gY_l.getD (i).toNat 0))), .int .i64 ((c.gX_l.getD (i + 1).toNat 0) - (c.gX_l.getD (i).toNat 0))] hb68 (by kernel_rfl) (floor_any ((x - (c.gX_l.getD (i).toNat 0)) * ((c.gY_l.getD (i + 1).toNat 0) - (c.gY_l.getD (i).toNat 0))) ((c.gX_l.getD (i + 1).toNat 0) - (c.gX_l.getD (i).toNat 0)) _ (by omega) (by omega)) ?_
      rintro _ w4 ⟨rfl, T2⟩
      have S4 : Sep w [box b1 [.slice c.gX_a c.gX_n c.gX_c, .slice c.gY_a c.gY_n c.gY_c] 40] w4 := S3.trans T2
      clear T2 S3
      refine PB.head (.int .i64 (((x - (c.gX_l.getD (i).toNat 0)) * ((c.gY_l.getD (i + 1).toNat 0) - (c.gY_l.getD (i).toNat 0))) / ((c.gX_l.getD (i + 1).toNat 0) - (c.gX_l.getD (i).toNat 0)))) (congrArg (Value.int .i64) (floor_pos (by omega) (by omega))) ?_
      refine PB.mk (S4.sub (.cons_cons _ (.slnil))) ?_
      refine PL.take 38 77 (.int .i64 (IntKind.wrap .i64 ((c.gY_l.getD (i).toNat 0) + (((x - (c.gX_l.getD (i).toNat 0)) * ((c.gY_l.getD (i + 1).toNat 0) - (c.gY_l.getD (i).toNat 0))) / ((c.gX_l.getD (i + 1).toNat 0) - (c.gX_l.getD (i).toNat 0)))))) (fun _ _ => by kernel_rfl) ?_
      refine PL.head (.int .i64 ((c.gY_l.getD (i).toNat 0) + (((x - (c.gX_l.getD (i).toNat 0)) * ((c.gY_l.getD (i + 1).toNat 0) - (c.gY_l.getD (i).toNat 0))) / ((c.gX_l.getD (i + 1).toNat 0) - (c.gX_l.getD (i).toNat 0))))) (congrArg (Value.int .i64) (IntWalk.i64_in _ (by omega))) ?_
      refine PL.take 39 4 (.int .i64 ((c.gY_l.getD (i).toNat 0) + (((x - (c.gX_l.getD (i).toNat 0)) * ((c.gY_l.getD (i + 1).toNat 0) - (c.gY_l.getD (i).toNat 0))) / ((c.gX_l.getD (i + 1).toNat 0) - (c.gX_l.getD (i).toNat 0))))) (fun _ _ => by kernel_rfl) ?_
      refine PL.done ?_
      refine J.run 0 (rRest K59_14) [(4, .int .i64 ((c.gY_l.getD (i).toNat 0) + (((x - (c.gX_l.getD (i).toNat 0)) * ((c.gY_l.getD (i + 1).toNat 0) - (c.gY_l.getD (i).toNat 0))) / ((c.gX_l.getD (i + 1).toNat 0) - (c.gX_l.getD (i).toNat 0)))))] w4 (by kernel_rfl) ?_
      refine J.ret Try.f59 [.int .i64 ((c.gY_l.getD (i).toNat 0) + (((x - (c.gX_l.getD (i).toNat 0)) * ((c.gY_l.getD (i + 1).toNat 0) - (c.gY_l.getD (i).toNat 0))) / ((c.gX_l.getD (i + 1).toNat 0) - (c.gX_l.getD (i).toNat 0))))] Try.func59 ⟨by kernel_rfl, trivial⟩ ?_
      refine hR _ _ ?_
      have e := curve_mid (ys := c.gY_l) hv2 (x := x) (i := i) ⟨by omega, by rw [show c.gX_l.length - 1 = ((c.gX_n : Int) - 1).toNat by omega]; omega⟩ (by omega) hsb hsc
      exact ⟨congrArg (Value.int .i64) (by unfold valueV; rw [e]), S4.nil⟩

theorem hb31 : HasBody Try.prog 31 := fun _ _ => by kernel_rfl
noncomputable def K31_0 : List Item := adv 2 [] (bodyOf Try.f31)
noncomputable def K31_1 : List Item := adv 5 [] (popK K31_0)
noncomputable def K31_2 : List Item := adv 2 [] (popK (popK K31_1))
noncomputable def K31_3 : List Item := adv 4 [false] K31_2
noncomputable def K31_4 : List Item := adv 1 [] (popK K31_3)
noncomputable def K31_5 : List Item := adv 2 [] (popK K31_4)
noncomputable def K31_6 : List Item := adv 5 [true] K31_2
set_option maxRecDepth 20000 in
set_option maxHeartbeats 20000000 in
theorem cAt_any (c : Crv) (x : Int) (w : World) (hc : crvQ w c) : Ret Try.prog 31 #[.agg #[.slice c.gX_a c.gX_n c.gX_c, .slice c.gY_a c.gY_n c.gY_c], .int .i64 x] w (fun v w' => v = .int .i64 (atV c x) ∧ Sep w [] w') := by
  have S0 := Sep.refl w
  refine Ret.named fun R hR => ?_
  refine Ret.of_J (N := 11) [(0, .agg #[.slice c.gX_a c.gX_n c.gX_c, .slice c.gY_a c.gY_n c.gY_c]), (1, .int .i64 x)] Try.func31 rfl rfl (Nat.le_of_ble_eq_true (by kernel_rfl)) (by kernel_rfl) ?_
  obtain ⟨q1, q2, q3, q4, q5, q6, _⟩ := id hc
  have ql1 := q2.len_eq
  have ql2 := q5.len_eq
  refine J.run 2 K31_0 [(0, .agg #[.slice c.gX_a c.gX_n c.gX_c, .slice c.gY_a c.gY_n c.gY_c]), (1, .int .i64 x)] w (by kernel_rfl) ?_
  refine J.new S0 2 [.slice c.gX_a c.gX_n c.gX_c, .slice c.gY_a c.gY_n c.gY_c] 40 (by kernel_rfl) ?_
  intro b1 w1 S1
  refine J.run 5 K31_1 [(2, .pointer (some ⟨b1, 0, none⟩)), (1, .int .i64 x)] w1 (by kernel_rfl) ?_
  refine J.ok (OK.ldBox S1 0 5 40 0 (.agg #[.slice c.gX_a c.gX_n c.gX_c, .slice c.gY_a c.gY_n c.gY_c]) (by kernel_rfl) rfl (by kernel_rfl)) ?_
  refine J.callF 6 29 #[.agg #[.slice c.gX_a c.gX_n c.gX_c, .slice c.gY_a c.gY_n c.gY_c]] hb29 (by kernel_rfl) (cvalid_any c _ (crvQ_sep hc S1)) ?_
  rintro _ w2 ⟨rfl, T1⟩
  have S2 : Sep w [box b1 [.slice c.gX_a c.gX_n c.gX_c, .slice c.gY_a c.gY_n c.gY_c] 40] w2 := S1.trans T1
  clear T1 S1
  refine J.run 2 K31_2 [(7, .bool (!(validV c))), (2, .pointer (some ⟨b1, 0, none⟩)), (1, .int .i64 x)] w2 (by kernel_rfl) ?_
  rcases Bool.eq_false_or_eq_true (validV c) with fk1 | fk1
  · skip
    refine J.head (.bool false) (congrArg Value.bool (by rw [fk1]; rfl)) ?_
    have hv := fk1
    refine J.run 4 K31_3 [(2, .pointer (some ⟨b1, 0, none⟩)), (1, .int .i64 x)] w2 (by kernel_rfl) ?_
    refine J.ok (OK.ldBox S2 0 8 40 0 (.agg #[.slice c.gX_a c.gX_n c.gX_c, .slice c.gY_a c.gY_n c.gY_c]) (by kernel_rfl) rfl (by kernel_rfl)) ?_
    refine J.run 1 K31_4 [(9, .int .i64 x), (8, .agg #[.slice c.gX_a c.gX_n c.gX_c, .slice c.gY_a c.gY_n c.gY_c])] w2 (by kernel_rfl) ?_
    refine J.callF 10 59 #[.agg #[.slice c.gX_a c.gX_n c.gX_c, .slice c.gY_a c.gY_n c.gY_c], .int .i64 x] hb59 (by kernel_rfl) (cvalue_any c x _ (crvQ_sep hc S2) hv) ?_
    rintro _ w3 ⟨rfl, T2⟩
    have S3 : Sep w [box b1 [.slice c.gX_a c.gX_n c.gX_c, .slice c.gY_a c.gY_n c.gY_c] 40] w3 := S2.trans T2
    clear T2 S2
    refine J.run 2 K31_5 [(4, .int .i64 (valueV c x))] w3 (by kernel_rfl) ?_
    refine J.ret Try.f31 [.int .i64 (valueV c x)] Try.func31 ⟨by kernel_rfl, trivial⟩ ?_
    refine hR _ _ ?_
    exact ⟨congrArg (Value.int .i64) (by unfold atV; rw [fk1]; rfl), S3.nil⟩
  · skip
    refine J.head (.bool true) (congrArg Value.bool (by rw [fk1]; rfl)) ?_
    refine J.run 5 K31_6 [(4, .int .i64 0)] w2 (by kernel_rfl) ?_
    refine J.ret Try.f31 [.int .i64 0] Try.func31 ⟨by kernel_rfl, trivial⟩ ?_
    refine hR _ _ ?_
    exact ⟨congrArg (Value.int .i64) (by unfold atV; rw [fk1]; rfl), S2.nil⟩

theorem col_valid {m : Mp} {x : Int} (hX : m.gX_l.length = m.gX_n) (hY : m.gY_l.length = m.gY_n) (hv : validM m = true) (vm : Vm m) {c : Crv} (h1 : c.gX_l = colN m) (h2 : c.gY_l = colV m x) (h3 : c.gX_n = (colN m).length) (h4 : c.gY_n = (colV m x).length) : validV c = true := by
  rw [colN_yes hv] at h1 h3
  rw [colV_yes hv] at h2 h4
  refine validV_yes (by rw [h3, h4, List.length_map]) (by rw [h1]; exact vm.ay) ?_
  rw [h2, List.all_map, List.all_eq_true]
  intro y _
  exact elB_iff.2 (value_in hX hY vm x y)
theorem row_valid {m : Mp} {y : Int} (hX : m.gX_l.length = m.gX_n) (hY : m.gY_l.length = m.gY_n) (hv : validM m = true) (vm : Vm m) {c : Crv} (h1 : c.gX_l = rowN m) (h2 : c.gY_l = rowV m y) (h3 : c.gX_n = (rowN m).length) (h4 : c.gY_n = (rowV m y).length) : validV c = true := by
  rw [rowN_yes hv] at h1 h3
  rw [rowV_yes hv] at h2 h4
  refine validV_yes (by rw [h3, h4, List.length_map]) (by rw [h1]; exact vm.ax) ?_
  rw [h2, List.all_map, List.all_eq_true]
  intro x _
  exact elB_iff.2 (value_in hX hY vm x y)
theorem col_at {m : Mp} {x y : Int} (hX : m.gX_l.length = m.gX_n) (hY : m.gY_l.length = m.gY_n) (hv : validM m = true) (vm : Vm m) {c : Crv} (hc : validV c = true) (h1 : c.gX_l = colN m) (h2 : c.gY_l = colV m x) : atV c y = atF m x y := by
  unfold atV valueV
  rw [hc, h1, h2, atF_valid hv, colN_yes hv, colV_yes hv, ← colF_map hY vm.ay x]; rfl
theorem row_at {m : Mp} {x y : Int} (hX : m.gX_l.length = m.gX_n) (hY : m.gY_l.length = m.gY_n) (hv : validM m = true) (vm : Vm m) {c : Crv} (hc : validV c = true) (h1 : c.gX_l = rowN m) (h2 : c.gY_l = rowV m y) : atV c x = curveF m.gX_l (m.gX_l.map fun x => valueF m x y) x := by
  unfold atV valueV
  rw [hc, h1, h2, rowN_yes hv, rowV_yes hv]; rfl
theorem mem_bd {l : List Int} (h : ∀ j, j < l.length → -1073741824 ≤ l.getD j 0 ∧ l.getD j 0 ≤ 1073741824) : ∀ y ∈ l, -9223372036854775808 ≤ y ∧ y ≤ 9223372036854775807 := by
  intro y hy
  obtain ⟨j, hj, rfl⟩ := List.mem_iff_getElem.1 hy
  have := h j hj
  simp only [List.getD, List.getElem?_eq_getElem hj, Option.getD_some] at this
  omega
theorem colN_q {m : Mp} (hv : validM m = true) (vm : Vm m) : ∀ y ∈ colN m, -9223372036854775808 ≤ y ∧ y ≤ 9223372036854775807 := by rw [colN_yes hv]; exact mem_bd (axis_facts vm.ay).2.1
theorem rowN_q {m : Mp} (hv : validM m = true) (vm : Vm m) : ∀ y ∈ rowN m, -9223372036854775808 ≤ y ∧ y ≤ 9223372036854775807 := by rw [rowN_yes hv]; exact mem_bd (axis_facts vm.ax).2.1
theorem colV_q {m : Mp} (hX : m.gX_l.length = m.gX_n) (hY : m.gY_l.length = m.gY_n) (hv : validM m = true) (vm : Vm m) (x : Int) : ∀ y ∈ colV m x, -9223372036854775808 ≤ y ∧ y ≤ 9223372036854775807 := by
  rw [colV_yes hv]
  intro y hy
  obtain ⟨z, _, rfl⟩ := List.mem_map.1 hy
  have := value_in hX hY vm x z; omega
theorem rowV_q {m : Mp} (hX : m.gX_l.length = m.gX_n) (hY : m.gY_l.length = m.gY_n) (hv : validM m = true) (vm : Vm m) (y : Int) : ∀ u ∈ rowV m y, -9223372036854775808 ≤ u ∧ u ≤ 9223372036854775807 := by
  rw [rowV_yes hv]
  intro u hu
  obtain ⟨z, _, rfl⟩ := List.mem_map.1 hu
  have := value_in hX hY vm z y; omega

theorem hb10 : HasBody Try.prog 10 := fun _ _ => by kernel_rfl
noncomputable def K10_0 : List Item := adv 2 [] (bodyOf Try.f10)
noncomputable def K10_1 : List Item := adv 5 [] (popK K10_0)
noncomputable def K10_2 : List Item := adv 7 [false] (popK K10_1)
noncomputable def K10_3 : List Item := adv 2 [] (popK (popK K10_2))
noncomputable def K10_4 : List Item := adv 3 [] (popK (popK K10_3))
noncomputable def K10_5 : List Item := adv 4 [false] K10_4
noncomputable def K10_6 : List Item := adv 1 [] (popK K10_5)
noncomputable def K10_7 : List Item := adv 3 [] (popK K10_6)
noncomputable def K10_8 : List Item := adv 4 [] (popK (popK K10_7))
noncomputable def K10_9 : List Item := adv 1 [] (popK K10_8)
noncomputable def K10_10 : List Item := adv 3 [] (popK K10_9)
noncomputable def K10_11 : List Item := adv 8 [] (popK (popK K10_10))
noncomputable def K10_12 : List Item := adv 4 [] K10_11
noncomputable def K10_13 : List Item := adv 3 [] (popK (popK K10_12))
noncomputable def K10_14 : List Item := adv 3 [] (popK (popK K10_13))
noncomputable def K10_15 : List Item := adv 1 [] K10_14
noncomputable def K10_16 : List Item := adv 1 [] (popK K10_15)
noncomputable def K10_17 : List Item := adv 3 [] (popK (popK K10_16))
noncomputable def K10_18 : List Item := adv 1 [] K10_17
noncomputable def K10_19 : List Item := adv 1 [] (popK K10_18)
noncomputable def K10_20 : List Item := adv 3 [] (popK (popK K10_19))
noncomputable def K10_21 : List Item := adv 4 [false] K10_20
noncomputable def K10_22 : List Item := adv 2 [] (popK K10_21)
noncomputable def K10_23 : List Item := adv 4 [] (popK K10_22)
noncomputable def K10_24 : List Item := adv 1 [] (popK K10_23)
noncomputable def K10_25 : List Item := adv 2 [] (popK K10_24)
noncomputable def K10_26 : List Item := adv 4 [] K10_25
noncomputable def K10_27 : List Item := adv 1 [] (popK K10_26)
noncomputable def K10_28 : List Item := adv 3 [] (popK K10_27)
noncomputable def K10_29 : List Item := adv 4 [] K10_28
noncomputable def K10_30 : List Item := adv 5 [] K10_29
noncomputable def K10_31 : List Item := adv 5 [true] K10_4
noncomputable def K10_32 : List Item := adv 10 [true] K10_3
set_option maxRecDepth 20000 in
set_option maxHeartbeats 20000000 in
theorem lawcolumns_any (m : Mp) (x y : Int) (w : World) (hm : mpQ w m) : Ret Try.prog 10 #[.agg #[.slice m.gX_a m.gX_n m.gX_c, .slice m.gY_a m.gY_n m.gY_c, .slice m.gZ_a m.gZ_n m.gZ_c], .int .i64 x, .int .i64 y] w (fun v w' => v = .bool true ∧ Sep w [] w') := by
  have S0 := Sep.refl w
  refine Ret.named fun R hR => ?_
  refine Ret.of_J (N := 89) [(0, .agg #[.slice m.gX_a m.gX_n m.gX_c, .slice m.gY_a m.gY_n m.gY_c, .slice m.gZ_a m.gZ_n m.gZ_c]), (1, .int .i64 x), (2, .int .i64 y)] Try.func10 rfl rfl (Nat.le_of_ble_eq_true (by kernel_rfl)) (by kernel_rfl) ?_
  obtain ⟨q1, q2, q3, q4, q5, q6, q7, q8, q9, _⟩ := id hm
  have ql1 := q2.len_eq
  have ql2 := q5.len_eq
  have ql3 := q8.len_eq
  refine J.run 2 K10_0 [(0, .agg #[.slice m.gX_a m.gX_n m.gX_c, .slice m.gY_a m.gY_n m.gY_c, .slice m.gZ_a m.gZ_n m.gZ_c]), (1, .int .i64 x), (2, .int .i64 y)] w (by kernel_rfl) ?_
  refine J.new S0 3 [.slice m.gX_a m.gX_n m.gX_c, .slice m.gY_a m.gY_n m.gY_c, .slice m.gZ_a m.gZ_n m.gZ_c] 25 (by kernel_rfl) ?_
  intro b1 w1 S1
  refine J.run 5 K10_1 [(3, .pointer (some ⟨b1, 0, none⟩)), (1, .int .i64 x), (2, .int .i64 y)] w1 (by kernel_rfl) ?_
  refine J.callF 13 11 #[] hb11 (by kernel_rfl) (awake_any  _) ?_
  rintro _ w2 ⟨rfl, T1⟩
  have S2 : Sep w [box b1 [.slice m.gX_a m.gX_n m.gX_c, .slice m.gY_a m.gY_n m.gY_c, .slice m.gZ_a m.gZ_n m.gZ_c] 25] w2 := S1.trans T1
  clear T1 S1
  refine J.run 7 K10_2 [(3, .pointer (some ⟨b1, 0, none⟩)), (1, .int .i64 x), (2, .int .i64 y)] w2 (by kernel_rfl) ?_
  refine J.ok (OK.ldBox S2 0 15 25 0 (.agg #[.slice m.gX_a m.gX_n m.gX_c, .slice m.gY_a m.gY_n m.gY_c, .slice m.gZ_a m.gZ_n m.gZ_c]) (by kernel_rfl) rfl (by kernel_rfl)) ?_
  refine J.callF 16 12 #[.agg #[.slice m.gX_a m.gX_n m.gX_c, .slice m.gY_a m.gY_n m.gY_c, .slice m.gZ_a m.gZ_n m.gZ_c]] hb12 (by kernel_rfl) (few_any m _ (mpQ_sep hm S2)) ?_
  rintro _ w3 ⟨rfl, T2⟩
  have S3 : Sep w [box b1 [.slice m.gX_a m.gX_n m.gX_c, .slice m.gY_a m.gY_n m.gY_c, .slice m.gZ_a m.gZ_n m.gZ_c] 25] w3 := S2.trans T2
  clear T2 S2
  refine J.run 2 K10_3 [(18, .bool (!(fewB m))), (3, .pointer (some ⟨b1, 0, none⟩)), (1, .int .i64 x), (2, .int .i64 y)] w3 (by kernel_rfl) ?_
  rcases Bool.eq_false_or_eq_true (fewB m) with fk1 | fk1
  · skip
    refine J.head (.bool false) (congrArg Value.bool (by rw [fk1]; rfl)) ?_
    refine J.ok (OK.ldBox S3 0 19 25 0 (.agg #[.slice m.gX_a m.gX_n m.gX_c, .slice m.gY_a m.gY_n m.gY_c, .slice m.gZ_a m.gZ_n m.gZ_c]) (by kernel_rfl) rfl (by kernel_rfl)) ?_
    refine J.callF 20 15 #[.agg #[.slice m.gX_a m.gX_n m.gX_c, .slice m.gY_a m.gY_n m.gY_c, .slice m.gZ_a m.gZ_n m.gZ_c]] hb15 (by kernel_rfl) (valid_any m _ (mpQ_sep hm S3)) ?_
    rintro _ w4 ⟨rfl, T3⟩
    have S4 : Sep w [box b1 [.slice m.gX_a m.gX_n m.gX_c, .slice m.gY_a m.gY_n m.gY_c, .slice m.gZ_a m.gZ_n m.gZ_c] 25] w4 := S3.trans T3
    clear T3 S3
    refine J.run 3 K10_4 [(22, .bool (!(validM m))), (3, .pointer (some ⟨b1, 0, none⟩)), (1, .int .i64 x), (2, .int .i64 y)] w4 (by kernel_rfl) ?_
    rcases Bool.eq_false_or_eq_true (validM m) with fk2 | fk2
    · skip
      refine J.head (.bool false) (congrArg Value.bool (by rw [fk2]; rfl)) ?_
      have hv := fk2
      obtain ⟨hv1, hv2, hv3, hv4⟩ := valid_facts hv
      obtain ⟨hx1, hx2, hx3⟩ := axis_facts hv1
      obtain ⟨hy1, hy2, hy3⟩ := axis_facts hv2
      have hX : m.gX_l.length = m.gX_n := by omega
      have hY : m.gY_l.length = m.gY_n := by omega
      have vm := vm_of hv (by omega) fun i hi => row_len hm hi
      obtain ⟨hvr1, hvr2⟩ := value_rows hX hY vm x y
      refine J.run 4 K10_5 [(3, .pointer (some ⟨b1, 0, none⟩)), (1, .int .i64 x), (2, .int .i64 y)] w4 (by kernel_rfl) ?_
      refine J.ok (OK.ldBox S4 0 24 25 0 (.agg #[.slice m.gX_a m.gX_n m.gX_c, .slice m.gY_a m.gY_n m.gY_c, .slice m.gZ_a m.gZ_n m.gZ_c]) (by kernel_rfl) rfl (by kernel_rfl)) ?_
      refine J.run 1 K10_6 [(25, .int .i64 x), (24, .agg #[.slice m.gX_a m.gX_n m.gX_c, .slice m.gY_a m.gY_n m.gY_c, .slice m.gZ_a m.gZ_n m.gZ_c]), (3, .pointer (some ⟨b1, 0, none⟩)), (1, .int .i64 x), (2, .int .i64 y)] w4 (by kernel_rfl) ?_
      refine J.callF 26 21 #[.agg #[.slice m.gX_a m.gX_n m.gX_c, .slice m.gY_a m.gY_n m.gY_c, .slice m.gZ_a m.gZ_n m.gZ_c], .int .i64 x] hb21 (by kernel_rfl) (Column_any m x _ (mpQ_sep hm S4)) ?_
      rintro _ w5 ⟨ra1, rc1, ra2, rc2, rfl, T4⟩
      have S5 : Sep w [rowOf encI ra2 rc2 3 1 (colV m x), rowOf encI ra1 rc1 3 1 (colN m), box b1 [.slice m.gX_a m.gX_n m.gX_c, .slice m.gY_a m.gY_n m.gY_c, .slice m.gZ_a m.gZ_n m.gZ_c] 25] w5 := S4.trans T4
      refine J.run 3 K10_7 [(28, .int .i64 (errM m)), (27, .agg #[.slice ra1 ((colN m).length) rc1, .slice ra2 ((colV m x).length) rc2]), (3, .pointer (some ⟨b1, 0, none⟩)), (1, .int .i64 x), (2, .int .i64 y)] w5 (by kernel_rfl) ?_
      refine J.new S5 7 [.slice none 0 0, .slice none 0 0] 40 (by kernel_rfl) ?_
      intro b2 w6 S6
      refine J.stBox S6 0 40 0 (.agg #[.slice ra1 ((colN m).length) rc1, .slice ra2 ((colV m x).length) rc2]) [.slice ra1 ((colN m).length) rc1, .slice ra2 ((colV m x).length) rc2] [box b2 [.slice ra1 ((colN m).length) rc1, .slice ra2 ((colV m x).length) rc2] 40, rowOf encI ra2 rc2 3 1 (colV m x), rowOf encI ra1 rc1 3 1 (colN m), box b1 [.slice m.gX_a m.gX_n m.gX_c, .slice m.gY_a m.gY_n m.gY_c, .slice m.gZ_a m.gZ_n m.gZ_c] 25] (by kernel_rfl) rfl (by kernel_rfl) (by kernel_rfl) rfl ?_
      intro w7 S7
      refine J.run 4 K10_8 [(8, .int .i64 (errM m)), (7, .pointer (some ⟨b2, 0, none⟩)), (3, .pointer (some ⟨b1, 0, none⟩)), (1, .int .i64 x), (2, .int .i64 y)] w7 (by kernel_rfl) ?_
      refine J.ok (OK.ldBox S7 3 30 25 0 (.agg #[.slice m.gX_a m.gX_n m.gX_c, .slice m.gY_a m.gY_n m.gY_c, .slice m.gZ_a m.gZ_n m.gZ_c]) (by kernel_rfl) rfl (by kernel_rfl)) ?_
      refine J.run 1 K10_9 [(31, .int .i64 y), (30, .agg #[.slice m.gX_a m.gX_n m.gX_c, .slice m.gY_a m.gY_n m.gY_c, .slice m.gZ_a m.gZ_n m.gZ_c]), (8, .int .i64 (errM m)), (7, .pointer (some ⟨b2, 0, none⟩)), (3, .pointer (some ⟨b1, 0, none⟩)), (1, .int .i64 x), (2, .int .i64 y)] w7 (by kernel_rfl) ?_
      refine J.callF 32 22 #[.agg #[.slice m.gX_a m.gX_n m.gX_c, .slice m.gY_a m.gY_n m.gY_c, .slice m.gZ_a m.gZ_n m.gZ_c], .int .i64 y] hb22 (by kernel_rfl) (Row_any m y _ (mpQ_sep hm S7)) ?_
      rintro _ w8 ⟨ra3, rc3, ra4, rc4, rfl, T5⟩
      have S8 : Sep w [rowOf encI ra4 rc4 3 1 (rowV m y), rowOf encI ra3 rc3 3 1 (rowN m), box b2 [.slice ra1 ((colN m).length) rc1, .slice ra2 ((colV m x).length) rc2] 40, rowOf encI ra2 rc2 3 1 (colV m x), rowOf encI ra1 rc1 3 1 (colN m), box b1 [.slice m.gX_a m.gX_n m.gX_c, .slice m.gY_a m.gY_n m.gY_c, .slice m.gZ_a m.gZ_n m.gZ_c] 25] w8 := S7.trans T5
      refine J.run 3 K10_10 [(34, .int .i64 (errM m)), (33, .agg #[.slice ra3 ((rowN m).length) rc3, .slice ra4 ((rowV m y).length) rc4]), (8, .int .i64 (errM m)), (7, .pointer (some ⟨b2, 0, none⟩)), (3, .pointer (some ⟨b1, 0, none⟩)), (1, .int .i64 x), (2, .int .i64 y)] w8 (by kernel_rfl) ?_
      refine J.new S8 9 [.slice none 0 0, .slice none 0 0] 40 (by kernel_rfl) ?_
      intro b3 w9 S9
      refine J.stBox S9 0 40 0 (.agg #[.slice ra3 ((rowN m).length) rc3, .slice ra4 ((rowV m y).length) rc4]) [.slice ra3 ((rowN m).length) rc3, .slice ra4 ((rowV m y).length) rc4] [box b3 [.slice ra3 ((rowN m).length) rc3, .slice ra4 ((rowV m y).length) rc4] 40, rowOf encI ra4 rc4 3 1 (rowV m y), rowOf encI ra3 rc3 3 1 (rowN m), box b2 [.slice ra1 ((colN m).length) rc1, .slice ra2 ((colV m x).length) rc2] 40, rowOf encI ra2 rc2 3 1 (colV m x), rowOf encI ra1 rc1 3 1 (colN m), box b1 [.slice m.gX_a m.gX_n m.gX_c, .slice m.gY_a m.gY_n m.gY_c, .slice m.gZ_a m.gZ_n m.gZ_c] 25] (by kernel_rfl) rfl (by kernel_rfl) (by kernel_rfl) rfl ?_
      intro w10 S10
      refine J.run 8 K10_11 [(37, .bool ((errM m) != 0)), (10, .int .i64 (errM m)), (9, .pointer (some ⟨b3, 0, none⟩)), (7, .pointer (some ⟨b2, 0, none⟩)), (3, .pointer (some ⟨b1, 0, none⟩)), (1, .int .i64 x), (2, .int .i64 y)] w10 (by kernel_rfl) ?_
      have fk4 : (errM m) = 0 := errM_yes hv
      refine J.head (.bool false) (congrArg Value.bool (bne_eq_false_iff_eq.2 fk4)) ?_
      refine J.run 4 K10_12 [(41, .bool ((errM m) != 0)), (9, .pointer (some ⟨b3, 0, none⟩)), (7, .pointer (some ⟨b2, 0, none⟩)), (3, .pointer (some ⟨b1, 0, none⟩)), (1, .int .i64 x), (2, .int .i64 y)] w10 (by kernel_rfl) ?_
      refine J.head (.bool false) (congrArg Value.bool (bne_eq_false_iff_eq.2 fk4)) ?_
      refine J.ok (OK.ldBox S10 3 42 40 0 (.agg #[.slice ra1 ((colN m).length) rc1, .slice ra2 ((colV m x).length) rc2]) (by kernel_rfl) rfl (by kernel_rfl)) ?_
      refine J.callF 43 29 #[.agg #[.slice ra1 ((colN m).length) rc1, .slice ra2 ((colV m x).length) rc2]] hb29 (by kernel_rfl) (cvalid_any (⟨ra1, (colN m).length, rc1, colN m, ra2, (colV m x).length, rc2, colV m x⟩ : Crv) _ (show crvQ _ (⟨ra1, (colN m).length, rc1, colN m, ra2, (colV m x).length, rc2, colV m x⟩ : Crv) from ⟨⟨(rowOf_cells (S10.nth 5 rfl)).2.2, rowOf_cap (S10.nth 5 rfl)⟩, (row1_ones (S10.nth 5 rfl) _ rfl), by exact colN_q hv vm, ⟨(rowOf_cells (S10.nth 4 rfl)).2.2, rowOf_cap (S10.nth 4 rfl)⟩, (row1_ones (S10.nth 4 rfl) _ rfl), by exact colV_q hX hY hv vm x, trivial⟩)) ?_
      rintro _ w11 ⟨rfl, T6⟩
      have S11 : Sep w [box b3 [.slice ra3 ((rowN m).length) rc3, .slice ra4 ((rowV m y).length) rc4] 40, rowOf encI ra4 rc4 3 1 (rowV m y), rowOf encI ra3 rc3 3 1 (rowN m), box b2 [.slice ra1 ((colN m).length) rc1, .slice ra2 ((colV m x).length) rc2] 40, rowOf encI ra2 rc2 3 1 (colV m x), rowOf encI ra1 rc1 3 1 (colN m), box b1 [.slice m.gX_a m.gX_n m.gX_c, .slice m.gY_a m.gY_n m.gY_c, .slice m.gZ_a m.gZ_n m.gZ_c] 25] w11 := S10.trans T6
      clear T6 S10
      refine J.run 3 K10_13 [(46, .bool (!(validV (⟨ra1, (colN m).length, rc1, colN m, ra2, (colV m x).length, rc2, colV m x⟩ : Crv)))), (9, .pointer (some ⟨b3, 0, none⟩)), (7, .pointer (some ⟨b2, 0, none⟩)), (3, .pointer (some ⟨b1, 0, none⟩)), (1, .int .i64 x), (2, .int .i64 y)] w11 (by kernel_rfl) ?_
      have fk7 : (validV (⟨ra1, (colN m).length, rc1, colN m, ra2, (colV m x).length, rc2, colV m x⟩ : Crv)) = true := col_valid hX hY hv vm rfl rfl rfl rfl
      refine J.head (.bool false) (congrArg Value.bool (by rw [fk7]; rfl)) ?_
      refine J.ok (OK.ldBox S11 0 47 40 0 (.agg #[.slice ra3 ((rowN m).length) rc3, .slice ra4 ((rowV m y).length) rc4]) (by kernel_rfl) rfl (by kernel_rfl)) ?_
      refine J.callF 48 29 #[.agg #[.slice ra3 ((rowN m).length) rc3, .slice ra4 ((rowV m y).length) rc4]] hb29 (by kernel_rfl) (cvalid_any (⟨ra3, (rowN m).length, rc3, rowN m, ra4, (rowV m y).length, rc4, rowV m y⟩ : Crv) _ (show crvQ _ (⟨ra3, (rowN m).length, rc3, rowN m, ra4, (rowV m y).length, rc4, rowV m y⟩ : Crv) from ⟨⟨(rowOf_cells (S11.nth 2 rfl)).2.2, rowOf_cap (S11.nth 2 rfl)⟩, (row1_ones (S11.nth 2 rfl) _ rfl), by exact rowN_q hv vm, ⟨(rowOf_cells (S11.nth 1 rfl)).2.2, rowOf_cap (S11.nth 1 rfl)⟩, (row1_ones (S11.nth 1 rfl) _ rfl), by exact rowV_q hX hY hv vm y, trivial⟩)) ?_
      rintro _ w12 ⟨rfl, T7⟩
      have S12 : Sep w [box b3 [.slice ra3 ((rowN m).length) rc3, .slice ra4 ((rowV m y).length) rc4] 40, rowOf encI ra4 rc4 3 1 (rowV m y), rowOf encI ra3 rc3 3 1 (rowN m), box b2 [.slice ra1 ((colN m).length) rc1, .slice ra2 ((colV m x).length) rc2] 40, rowOf encI ra2 rc2 3 1 (colV m x), rowOf encI ra1 rc1 3 1 (colN m), box b1 [.slice m.gX_a m.gX_n m.gX_c, .slice m.gY_a m.gY_n m.gY_c, .slice m.gZ_a m.gZ_n m.gZ_c] 25] w12 := S11.trans T7
      clear T7 S11
      refine J.run 3 K10_14 [(51, .bool (!(validV (⟨ra3, (rowN m).length, rc3, rowN m, ra4, (rowV m y).length, rc4, rowV m y⟩ : Crv)))), (9, .pointer (some ⟨b3, 0, none⟩)), (7, .pointer (some ⟨b2, 0, none⟩)), (3, .pointer (some ⟨b1, 0, none⟩)), (1, .int .i64 x), (2, .int .i64 y)] w12 (by kernel_rfl) ?_
      have fk9 : (validV (⟨ra3, (rowN m).length, rc3, rowN m, ra4, (rowV m y).length, rc4, rowV m y⟩ : Crv)) = true := row_valid hX hY hv vm rfl rfl rfl rfl
      refine J.head (.bool false) (congrArg Value.bool (by rw [fk9]; rfl)) ?_
      refine J.run 1 K10_15 [(52, .pointer (some ⟨b2, 0, none⟩)), (51, .bool false), (9, .pointer (some ⟨b3, 0, none⟩)), (7, .pointer (some ⟨b2, 0, none⟩)), (3, .pointer (some ⟨b1, 0, none⟩)), (1, .int .i64 x), (2, .int .i64 y)] w12 (by kernel_rfl) ?_
      refine J.ok (OK.ldBox S12 3 53 22 0 (.slice ra1 ((colN m).length) rc1) (by kernel_rfl) rfl (by kernel_rfl)) ?_
      refine J.run 1 K10_16 [(54, .pointer (some ⟨b1, 1, none⟩)), (53, .slice ra1 ((colN m).length) rc1), (51, .bool false), (9, .pointer (some ⟨b3, 0, none⟩)), (7, .pointer (some ⟨b2, 0, none⟩)), (3, .pointer (some ⟨b1, 0, none⟩)), (1, .int .i64 x), (2, .int .i64 y)] w12 (by kernel_rfl) ?_
      refine J.ok (OK.ldBox S12 6 55 22 1 (.slice m.gY_a m.gY_n m.gY_c) (by kernel_rfl) rfl (by kernel_rfl)) ?_
      have := rowOf_len (S12.nth 5 rfl)
      refine J.callF 56 30 #[.slice ra1 ((colN m).length) rc1, .slice m.gY_a m.gY_n m.gY_c] hb30 (by kernel_rfl) (equal_any ra1 ((colN m).length) rc1 (colN m) m.gY_a m.gY_n m.gY_c m.gY_l _ ((row1_ones (S12.nth 5 rfl) ((colN m).length) (by first | rfl | omega | simp))) (q5.sep S12) (by first | omega | (simp; omega))) ?_
      rintro _ w13 ⟨rfl, T8⟩
      have S13 : Sep w [box b3 [.slice ra3 ((rowN m).length) rc3, .slice ra4 ((rowV m y).length) rc4] 40, rowOf encI ra4 rc4 3 1 (rowV m y), rowOf encI ra3 rc3 3 1 (rowN m), box b2 [.slice ra1 ((colN m).length) rc1, .slice ra2 ((colV m x).length) rc2] 40, rowOf encI ra2 rc2 3 1 (colV m x), rowOf encI ra1 rc1 3 1 (colN m), box b1 [.slice m.gX_a m.gX_n m.gX_c, .slice m.gY_a m.gY_n m.gY_c, .slice m.gZ_a m.gZ_n m.gZ_c] 25] w13 := S12.trans T8
      clear T8 S12
      refine J.run 3 K10_17 [(59, .bool (!((colN m) == m.gY_l))), (9, .pointer (some ⟨b3, 0, none⟩)), (7, .pointer (some ⟨b2, 0, none⟩)), (3, .pointer (some ⟨b1, 0, none⟩)), (1, .int .i64 x), (2, .int .i64 y)] w13 (by kernel_rfl) ?_
      have fk11 : ((colN m) == m.gY_l) = true := by rw [colN_yes hv]; exact beq_self_eq_true _
      refine J.head (.bool false) (congrArg Value.bool (by rw [fk11]; rfl)) ?_
      refine J.run 1 K10_18 [(60, .pointer (some ⟨b3, 0, none⟩)), (59, .bool false), (9, .pointer (some ⟨b3, 0, none⟩)), (7, .pointer (some ⟨b2, 0, none⟩)), (3, .pointer (some ⟨b1, 0, none⟩)), (1, .int .i64 x), (2, .int .i64 y)] w13 (by kernel_rfl) ?_
      refine J.ok (OK.ldBox S13 0 61 22 0 (.slice ra3 ((rowN m).length) rc3) (by kernel_rfl) rfl (by kernel_rfl)) ?_
      refine J.run 1 K10_19 [(62, .pointer (some ⟨b1, 0, none⟩)), (61, .slice ra3 ((rowN m).length) rc3), (59, .bool false), (9, .pointer (some ⟨b3, 0, none⟩)), (7, .pointer (some ⟨b2, 0, none⟩)), (3, .pointer (some ⟨b1, 0, none⟩)), (1, .int .i64 x), (2, .int .i64 y)] w13 (by kernel_rfl) ?_
      refine J.ok (OK.ldBox S13 6 63 22 0 (.slice m.gX_a m.gX_n m.gX_c) (by kernel_rfl) rfl (by kernel_rfl)) ?_
      have := rowOf_len (S13.nth 2 rfl)
      refine J.callF 64 30 #[.slice ra3 ((rowN m).length) rc3, .slice m.gX_a m.gX_n m.gX_c] hb30 (by kernel_rfl) (equal_any ra3 ((rowN m).length) rc3 (rowN m) m.gX_a m.gX_n m.gX_c m.gX_l _ ((row1_ones (S13.nth 2 rfl) ((rowN m).length) (by first | rfl | omega | simp))) (q2.sep S13) (by first | omega | (simp; omega))) ?_
      rintro _ w14 ⟨rfl, T9⟩
      have S14 : Sep w [box b3 [.slice ra3 ((rowN m).length) rc3, .slice ra4 ((rowV m y).length) rc4] 40, rowOf encI ra4 rc4 3 1 (rowV m y), rowOf encI ra3 rc3 3 1 (rowN m), box b2 [.slice ra1 ((colN m).length) rc1, .slice ra2 ((colV m x).length) rc2] 40, rowOf encI ra2 rc2 3 1 (colV m x), rowOf encI ra1 rc1 3 1 (colN m), box b1 [.slice m.gX_a m.gX_n m.gX_c, .slice m.gY_a m.gY_n m.gY_c, .slice m.gZ_a m.gZ_n m.gZ_c] 25] w14 := S13.trans T9
      clear T9 S13
      refine J.run 3 K10_20 [(66, .bool (!((rowN m) == m.gX_l))), (9, .pointer (some ⟨b3, 0, none⟩)), (7, .pointer (some ⟨b2, 0, none⟩)), (3, .pointer (some ⟨b1, 0, none⟩)), (1, .int .i64 x), (2, .int .i64 y)] w14 (by kernel_rfl) ?_
      have fk13 : ((rowN m) == m.gX_l) = true := by rw [rowN_yes hv]; exact beq_self_eq_true _
      refine J.head (.bool false) (congrArg Value.bool (by rw [fk13]; rfl)) ?_
      refine J.run 4 K10_21 [(9, .pointer (some ⟨b3, 0, none⟩)), (7, .pointer (some ⟨b2, 0, none⟩)), (3, .pointer (some ⟨b1, 0, none⟩)), (1, .int .i64 x), (2, .int .i64 y)] w14 (by kernel_rfl) ?_
      refine J.ok (OK.ldBox S14 6 67 25 0 (.agg #[.slice m.gX_a m.gX_n m.gX_c, .slice m.gY_a m.gY_n m.gY_c, .slice m.gZ_a m.gZ_n m.gZ_c]) (by kernel_rfl) rfl (by kernel_rfl)) ?_
      refine J.run 2 K10_22 [(69, .int .i64 y), (68, .int .i64 x), (67, .agg #[.slice m.gX_a m.gX_n m.gX_c, .slice m.gY_a m.gY_n m.gY_c, .slice m.gZ_a m.gZ_n m.gZ_c]), (9, .pointer (some ⟨b3, 0, none⟩)), (7, .pointer (some ⟨b2, 0, none⟩)), (1, .int .i64 x), (2, .int .i64 y)] w14 (by kernel_rfl) ?_
      refine J.callF 70 13 #[.agg #[.slice m.gX_a m.gX_n m.gX_c, .slice m.gY_a m.gY_n m.gY_c, .slice m.gZ_a m.gZ_n m.gZ_c], .int .i64 x, .int .i64 y] hb13 (by kernel_rfl) (At_any m x y _ (mpQ_sep hm S14)) ?_
      rintro _ w15 ⟨rfl, T10⟩
      have S15 : Sep w [box b3 [.slice ra3 ((rowN m).length) rc3, .slice ra4 ((rowV m y).length) rc4] 40, rowOf encI ra4 rc4 3 1 (rowV m y), rowOf encI ra3 rc3 3 1 (rowN m), box b2 [.slice ra1 ((colN m).length) rc1, .slice ra2 ((colV m x).length) rc2] 40, rowOf encI ra2 rc2 3 1 (colV m x), rowOf encI ra1 rc1 3 1 (colN m), box b1 [.slice m.gX_a m.gX_n m.gX_c, .slice m.gY_a m.gY_n m.gY_c, .slice m.gZ_a m.gZ_n m.gZ_c] 25] w15 := S14.trans T10
      clear T10 S14
      refine J.run 4 K10_23 [(11, .int .i64 (atF m x y)), (9, .pointer (some ⟨b3, 0, none⟩)), (7, .pointer (some ⟨b2, 0, none⟩)), (1, .int .i64 x), (2, .int .i64 y)] w15 (by kernel_rfl) ?_
      refine J.ok (OK.ldBox S15 0 71 40 0 (.agg #[.slice ra3 ((rowN m).length) rc3, .slice ra4 ((rowV m y).length) rc4]) (by kernel_rfl) rfl (by kernel_rfl)) ?_
      refine J.run 1 K10_24 [(72, .int .i64 x), (71, .agg #[.slice ra3 ((rowN m).length) rc3, .slice ra4 ((rowV m y).length) rc4]), (11, .int .i64 (atF m x y)), (7, .pointer (some ⟨b2, 0, none⟩)), (2, .int .i64 y)] w15 (by kernel_rfl) ?_
      refine J.callF 73 31 #[.agg #[.slice ra3 ((rowN m).length) rc3, .slice ra4 ((rowV m y).length) rc4], .int .i64 x] hb31 (by kernel_rfl) (cAt_any (⟨ra3, (rowN m).length, rc3, rowN m, ra4, (rowV m y).length, rc4, rowV m y⟩ : Crv) x _ (show crvQ _ (⟨ra3, (rowN m).length, rc3, rowN m, ra4, (rowV m y).length, rc4, rowV m y⟩ : Crv) from ⟨⟨(rowOf_cells (S15.nth 2 rfl)).2.2, rowOf_cap (S15.nth 2 rfl)⟩, (row1_ones (S15.nth 2 rfl) _ rfl), by exact rowN_q hv vm, ⟨(rowOf_cells (S15.nth 1 rfl)).2.2, rowOf_cap (S15.nth 1 rfl)⟩, (row1_ones (S15.nth 1 rfl) _ rfl), by exact rowV_q hX hY hv vm y, trivial⟩)) ?_
      rintro _ w16 ⟨rfl, T11⟩
      have S16 : Sep w [box b3 [.slice ra3 ((rowN m).length) rc3, .slice ra4 ((rowV m y).length) rc4] 40, rowOf encI ra4 rc4 3 1 (rowV m y), rowOf encI ra3 rc3 3 1 (rowN m), box b2 [.slice ra1 ((colN m).length) rc1, .slice ra2 ((colV m x).length) rc2] 40, rowOf encI ra2 rc2 3 1 (colV m x), rowOf encI ra1 rc1 3 1 (colN m), box b1 [.slice m.gX_a m.gX_n m.gX_c, .slice m.gY_a m.gY_n m.gY_c, .slice m.gZ_a m.gZ_n m.gZ_c] 25] w16 := S15.trans T11
      clear T11 S15
      have hra : atV (⟨ra3, (rowN m).length, rc3, rowN m, ra4, (rowV m y).length, rc4, rowV m y⟩ : Crv) x = curveF m.gX_l (m.gX_l.map fun x => valueF m x y) x := row_at hX hY hv vm (row_valid hX hY hv vm rfl rfl rfl rfl) rfl rfl
      have hab := atF_valid hv x y
      have hvi := value_in hX hY vm x y
      refine J.run 2 K10_25 [(75, .int .i64 (IntKind.wrap .i64 ((atV (⟨ra3, (rowN m).length, rc3, rowN m, ra4, (rowV m y).length, rc4, rowV m y⟩ : Crv) x) - (atF m x y)))), (11, .int .i64 (atF m x y)), (7, .pointer (some ⟨b2, 0, none⟩)), (2, .int .i64 y)] w16 (by kernel_rfl) ?_
      refine J.head (.int .i64 ((atV (⟨ra3, (rowN m).length, rc3, rowN m, ra4, (rowV m y).length, rc4, rowV m y⟩ : Crv) x) - (atF m x y))) (congrArg (Value.int .i64) (IntWalk.i64_in _ (by omega))) ?_
      refine J.run 4 K10_26 [(12, .int .i64 ((atV (⟨ra3, (rowN m).length, rc3, rowN m, ra4, (rowV m y).length, rc4, rowV m y⟩ : Crv) x) - (atF m x y))), (11, .int .i64 (atF m x y)), (7, .pointer (some ⟨b2, 0, none⟩)), (2, .int .i64 y)] w16 (by kernel_rfl) ?_
      refine J.ok (OK.ldBox S16 3 76 40 0 (.agg #[.slice ra1 ((colN m).length) rc1, .slice ra2 ((colV m x).length) rc2]) (by kernel_rfl) rfl (by kernel_rfl)) ?_
      refine J.run 1 K10_27 [(77, .int .i64 y), (76, .agg #[.slice ra1 ((colN m).length) rc1, .slice ra2 ((colV m x).length) rc2]), (12, .int .i64 ((atV (⟨ra3, (rowN m).length, rc3, rowN m, ra4, (rowV m y).length, rc4, rowV m y⟩ : Crv) x) - (atF m x y))), (11, .int .i64 (atF m x y))] w16 (by kernel_rfl) ?_
      refine J.callF 78 31 #[.agg #[.slice ra1 ((colN m).length) rc1, .slice ra2 ((colV m x).length) rc2], .int .i64 y] hb31 (by kernel_rfl) (cAt_any (⟨ra1, (colN m).length, rc1, colN m, ra2, (colV m x).length, rc2, colV m x⟩ : Crv) y _ (show crvQ _ (⟨ra1, (colN m).length, rc1, colN m, ra2, (colV m x).length, rc2, colV m x⟩ : Crv) from ⟨⟨(rowOf_cells (S16.nth 5 rfl)).2.2, rowOf_cap (S16.nth 5 rfl)⟩, (row1_ones (S16.nth 5 rfl) _ rfl), by exact colN_q hv vm, ⟨(rowOf_cells (S16.nth 4 rfl)).2.2, rowOf_cap (S16.nth 4 rfl)⟩, (row1_ones (S16.nth 4 rfl) _ rfl), by exact colV_q hX hY hv vm x, trivial⟩)) ?_
      rintro _ w17 ⟨rfl, T12⟩
      have S17 : Sep w [box b3 [.slice ra3 ((rowN m).length) rc3, .slice ra4 ((rowV m y).length) rc4] 40, rowOf encI ra4 rc4 3 1 (rowV m y), rowOf encI ra3 rc3 3 1 (rowN m), box b2 [.slice ra1 ((colN m).length) rc1, .slice ra2 ((colV m x).length) rc2] 40, rowOf encI ra2 rc2 3 1 (colV m x), rowOf encI ra1 rc1 3 1 (colN m), box b1 [.slice m.gX_a m.gX_n m.gX_c, .slice m.gY_a m.gY_n m.gY_c, .slice m.gZ_a m.gZ_n m.gZ_c] 25] w17 := S16.trans T12
      clear T12 S16
      refine J.run 3 K10_28 [(81, .bool ((atV (⟨ra1, (colN m).length, rc1, colN m, ra2, (colV m x).length, rc2, colV m x⟩ : Crv) y) == (atF m x y))), (12, .int .i64 ((atV (⟨ra3, (rowN m).length, rc3, rowN m, ra4, (rowV m y).length, rc4, rowV m y⟩ : Crv) x) - (atF m x y)))] w17 (by kernel_rfl) ?_
      have fk15 : (atV (⟨ra1, (colN m).length, rc1, colN m, ra2, (colV m x).length, rc2, colV m x⟩ : Crv) y) = (atF m x y) := col_at hX hY hv vm (col_valid hX hY hv vm rfl rfl rfl rfl) rfl rfl
      refine J.head (.bool true) (congrArg Value.bool (beq_iff_eq.2 fk15)) ?_
      refine J.run 4 K10_29 [(85, .bool (decide (((atV (⟨ra3, (rowN m).length, rc3, rowN m, ra4, (rowV m y).length, rc4, rowV m y⟩ : Crv) x) - (atF m x y)) ≥ (-1)))), (12, .int .i64 ((atV (⟨ra3, (rowN m).length, rc3, rowN m, ra4, (rowV m y).length, rc4, rowV m y⟩ : Crv) x) - (atF m x y)))] w17 (by kernel_rfl) ?_
      have fk17 : ((atV (⟨ra3, (rowN m).length, rc3, rowN m, ra4, (rowV m y).length, rc4, rowV m y⟩ : Crv) x) - (atF m x y)) ≥ (-1) := by omega
      refine J.head (.bool true) (congrArg Value.bool (decide_eq_true fk17)) ?_
      refine J.run 5 K10_30 [(6, .bool (decide (((atV (⟨ra3, (rowN m).length, rc3, rowN m, ra4, (rowV m y).length, rc4, rowV m y⟩ : Crv) x) - (atF m x y)) ≤ 1)))] w17 (by kernel_rfl) ?_
      refine J.ret Try.f10 [.bool (decide (((atV (⟨ra3, (rowN m).length, rc3, rowN m, ra4, (rowV m y).length, rc4, rowV m y⟩ : Crv) x) - (atF m x y)) ≤ 1))] Try.func10 ⟨by kernel_rfl, trivial⟩ ?_
      refine hR _ _ ?_
      have fk18 : ((atV (⟨ra3, (rowN m).length, rc3, rowN m, ra4, (rowV m y).length, rc4, rowV m y⟩ : Crv) x) - (atF m x y)) ≤ 1 := by omega
      exact ⟨congrArg Value.bool (decide_eq_true fk18), S17.nil⟩
    · skip
      refine J.head (.bool true) (congrArg Value.bool (by rw [fk2]; rfl)) ?_
      refine J.run 5 K10_31 [(6, .bool true)] w4 (by kernel_rfl) ?_
      refine J.ret Try.f10 [.bool true] Try.func10 ⟨by kernel_rfl, trivial⟩ ?_
      refine hR _ _ ?_
      exact ⟨rfl, S4.nil⟩
  · skip
    refine J.head (.bool true) (congrArg Value.bool (by rw [fk1]; rfl)) ?_
    refine J.run 10 K10_32 [(6, .bool true)] w3 (by kernel_rfl) ?_
    refine J.ret Try.f10 [.bool true] Try.func10 ⟨by kernel_rfl, trivial⟩ ?_
    refine hR _ _ ?_
    exact ⟨rfl, S3.nil⟩

end Go.Proofs.Ytempepmfifljmaa
