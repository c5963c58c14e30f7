/- Walks of functions of this seat, printed by a program over the engine. Conditions: as each theorem says. -/
import Derived.Test.YtdilhoibcbihlaaDoorZV8
namespace Go.Proofs.YtdilhoibcbihlaaDoor
open Go.Eng Go.RowKit
set_option linter.unusedSimpArgs false
set_option linter.unusedVariables false
noncomputable def K35b_0 : List Item := adv 13 [] (bodyOf Tryd.f35)
noncomputable def K35b_1 : List Item := adv 7 [] K35b_0
noncomputable def K35b_2 : List Item := adv 8 [true] K35b_1
noncomputable def K35b_3 : List Item := adv 1 [] K35b_2
noncomputable def K35b_4 : List Item := adv 1 [] K35b_3
noncomputable def K35b_5 : List Item := adv 1 [] K35b_4
noncomputable def K35b_6 : List Item := adv 6 [] K35b_5
noncomputable def K35b_7 : List Item := adv 2 [] (popK K35b_6)
noncomputable def K35b_8 : List Item := adv 4 [true] K35b_7
noncomputable def K35b_9 : List Item := adv 7 [false] K35b_1
set_option maxRecDepth 20000 in
set_option maxHeartbeats 20000000 in
theorem search3 (n : Int) (g : FuncId) (c1 : Value) (c2 : Value) (c3 : Value) (q : Int → Bool) (w : World) (hn : 0 ≤ n ∧ n ≤ 4611686018427387903) (hbg : HasBody Tryd.prog g) (hcall : ∀ (i : Int) (w2 : World), 0 ≤ i → i < n → Sep w [] w2 → Ret Tryd.prog g #[.int .i64 i, c1, c2, c3] w2 (fun v w3 => v = .bool (q i) ∧ Sep w2 [] w3)) : Ret Tryd.prog 35 #[.int .i64 n, .func (.func g) #[] #[c1, c2, c3]] w (fun v w' => ∃ r, v = .int .i64 r ∧ (0 ≤ r ∧ r ≤ n) ∧ (r = 0 ∨ q (r - 1) = false) ∧ (r = n ∨ q r = true) ∧ Sep w [] w') := by
  have S0 := Sep.refl w
  refine Ret.named fun R hR => ?_
  refine Ret.of_J (N := 26) [(0, .int .i64 n), (1, .func (.func g) #[] #[c1, c2, c3])] Tryd.func35 rfl rfl (Nat.le_of_ble_eq_true (by kernel_rfl)) (by kernel_rfl) ?_
  refine J.run 13 K35b_0 [(6, .int .i64 n), (5, .int .i64 0), (1, .func (.func g) #[] #[c1, c2, c3])] w (by kernel_rfl) ?_
  have L35_1 : ∀ (mm_ : Nat) (i : Int) (j : Int) (w1 : World), (0 ≤ i ∧ i ≤ j ∧ j ≤ n) → (i = 0 ∨ q (i - 1) = false) → (j = n ∨ q j = true) → Sep w [] w1 → (j - i).toNat = mm_ → J Tryd.prog 35 26 R K35b_0 [(6, .int .i64 j), (5, .int .i64 i), (1, .func (.func g) #[] #[c1, c2, c3])] w1 := by
    intro mm1
    induction mm1 using Nat.strongRecOn with
    | _ mm1 ih1 =>
    intro i j w1 hb hi hj S1 hm1
    refine J.run 7 K35b_1 [(11, .bool (decide (i < j))), (6, .int .i64 j), (5, .int .i64 i), (1, .func (.func g) #[] #[c1, c2, c3])] w1 (by kernel_rfl) ?_
    by_cases fk1 : i < j
    · skip
      refine J.head (.bool true) (congrArg Value.bool (decide_eq_true fk1)) ?_
      refine J.run 8 K35b_2 [(14, .int .i64 (IntKind.wrap .i64 (i + j))), (6, .int .i64 j), (5, .int .i64 i), (1, .func (.func g) #[] #[c1, c2, c3])] w1 (by kernel_rfl) ?_
      refine J.head (.int .i64 (i + j)) (congrArg (Value.int .i64) (IntWalk.i64_in _ (by omega))) ?_
      refine J.run 1 K35b_3 [(15, .int .u64 (IntKind.wrap .u64 (i + j))), (6, .int .i64 j), (5, .int .i64 i), (1, .func (.func g) #[] #[c1, c2, c3])] w1 (by kernel_rfl) ?_
      refine J.head (.int .u64 (i + j)) (congrArg (Value.int .u64) (IntWalk.u64_in _ (by omega))) ?_
      refine J.run 1 K35b_4 [(16, .int .u64 (Int.fdiv (i + j) (2 ^ 1))), (6, .int .i64 j), (5, .int .i64 i), (1, .func (.func g) #[] #[c1, c2, c3])] w1 (by kernel_rfl) ?_
      refine J.head (.int .u64 ((i + j) / 2)) (congrArg (Value.int .u64) (shr_lit _ _ (by decide))) ?_
      refine J.run 1 K35b_5 [(17, .int .i64 (IntKind.wrap .i64 ((i + j) / 2))), (6, .int .i64 j), (5, .int .i64 i), (1, .func (.func g) #[] #[c1, c2, c3])] w1 (by kernel_rfl) ?_
      refine J.head (.int .i64 ((i + j) / 2)) (congrArg (Value.int .i64) (IntWalk.i64_in _ (by omega))) ?_
      obtain ⟨mid, hmid⟩ : ∃ x : Int, x = (i + j) / 2 := ⟨_, rfl⟩
      refine J.head (.int .i64 mid) (congrArg (Value.int .i64) hmid.symm) ?_
      refine J.run 6 K35b_6 [(19, .int .i64 mid), (18, .func (.func g) #[] #[c1, c2, c3]), (7, .int .i64 mid), (6, .int .i64 j), (5, .int .i64 i), (1, .func (.func g) #[] #[c1, c2, c3])] w1 (by kernel_rfl) ?_
      refine J.callF 20 g #[.int .i64 mid, c1, c2, c3] hbg (by kernel_rfl) (hcall mid w1 (by omega) (by omega) S1.nil) ?_
      rintro _ w2 ⟨rfl, T1⟩
      have S2 : Sep w [] w2 := S1.trans T1
      refine J.run 2 K35b_7 [(21, .bool (!(q mid))), (7, .int .i64 mid), (6, .int .i64 j), (5, .int .i64 i), (1, .func (.func g) #[] #[c1, c2, c3])] w2 (by kernel_rfl) ?_
      rcases Bool.eq_false_or_eq_true (q mid) with fk2 | fk2
      · skip
        refine J.head (.bool false) (congrArg Value.bool (by rw [fk2]; rfl)) ?_
        refine J.run 7 K35b_0 [(6, .int .i64 mid), (5, .int .i64 i), (1, .func (.func g) #[] #[c1, c2, c3])] w2 (by kernel_rfl) ?_
        refine J.run 0 K35b_0 [(6, .int .i64 mid), (5, .int .i64 i), (1, .func (.func g) #[] #[c1, c2, c3])] w2 (by kernel_rfl) ?_
        exact ih1 _ (show (mid - i).toNat < mm1 from by omega) i mid w2 (by omega) (hi) (.inr fk2) S2 rfl
      · skip
        refine J.head (.bool true) (congrArg Value.bool (by rw [fk2]; rfl)) ?_
        refine J.run 4 K35b_8 [(23, .int .i64 (IntKind.wrap .i64 (mid + 1))), (6, .int .i64 j), (1, .func (.func g) #[] #[c1, c2, c3])] w2 (by kernel_rfl) ?_
        refine J.head (.int .i64 (mid + 1)) (congrArg (Value.int .i64) (IntWalk.i64_in _ (by omega))) ?_
        refine J.run 4 K35b_0 [(5, .int .i64 (mid + 1)), (6, .int .i64 j), (1, .func (.func g) #[] #[c1, c2, c3])] w2 (by kernel_rfl) ?_
        refine J.run 0 K35b_0 [(6, .int .i64 j), (5, .int .i64 (mid + 1)), (1, .func (.func g) #[] #[c1, c2, c3])] w2 (by kernel_rfl) ?_
        exact ih1 _ (show (j - (mid + 1)).toNat < mm1 from by omega) (mid + 1) j w2 (by omega) (.inr (by rw [show mid + 1 - 1 = mid by omega]; exact fk2)) (hj) S2 rfl
    · skip
      refine J.head (.bool false) (congrArg Value.bool (decide_eq_false fk1)) ?_
      refine J.run 7 K35b_9 [(4, .int .i64 i)] w1 (by kernel_rfl) ?_
      refine J.ret Tryd.f35 [.int .i64 i] Tryd.func35 ⟨by kernel_rfl, trivial⟩ ?_
      refine hR _ _ ?_
      exact ⟨i, rfl, by omega, hi, by rw [show i = j by omega]; exact hj, S1.nil⟩
  exact L35_1 _ 0 n w (by omega) (.inl rfl) (.inl rfl) S0 rfl

theorem hb36 : HasBody Tryd.prog 36 := fun _ _ => by kernel_rfl
noncomputable def K36_0 : List Item := adv 5 [] (bodyOf Tryd.f36)
set_option maxRecDepth 20000 in
set_option maxHeartbeats 20000000 in
theorem cinv1_any (c : Crv) (y i : Int) (bx1 bx2 bx3 : Nat) (w : World) (hc : crvQ w c) (hv : validV c = true) (hi : 0 ≤ i ∧ i ≤ 2147483648) (hb1 : (box bx1 [.slice c.gX_a c.gX_n c.gX_c, .slice c.gY_a c.gY_n c.gY_c] 24).holds w) (hb2 : (box bx2 [.int .i64 (c.gX_l.getD 0 0)] 3).holds w) (hb3 : (box bx3 [.int .i64 y] 3).holds w) : Ret Tryd.prog 36 #[.int .i64 i, .pointer (some ⟨bx1, 0, none⟩), .pointer (some ⟨bx2, 0, none⟩), .pointer (some ⟨bx3, 0, none⟩)] w (fun v w' => v = .bool (civQ c y i) ∧ Sep w [] w') := by
  have S0 := Sep.refl w
  refine Ret.named fun R hR => ?_
  refine Ret.of_J (N := 13) [(0, .int .i64 i), (1, .pointer (some ⟨bx1, 0, none⟩)), (2, .pointer (some ⟨bx2, 0, none⟩)), (3, .pointer (some ⟨bx3, 0, none⟩))] Tryd.func36 rfl rfl (Nat.le_of_ble_eq_true (by kernel_rfl)) (by kernel_rfl) ?_
  obtain ⟨q1, q2, q3, q4, q5, q6, _⟩ := id hc
  have ql1 := q2.len_eq
  have ql2 := q5.len_eq
  obtain ⟨hv1, hv2, hv3⟩ := validV_facts hv
  obtain ⟨hx1, hx2, hx3⟩ := axis_facts hv2
  have hX : c.gX_l.length = c.gX_n := by omega
  have hY : c.gY_l.length = c.gX_n := by omega
  have hxm := axis_mono hv2 (show 0 < ((c.gX_n : Int) - 1).toNat by omega) (by omega)
  have hx0 := hx2 0 (by omega)
  have hxl := hx2 ((c.gX_n : Int) - 1).toNat (by omega)
  refine J.run 5 K36_0 [(0, .int .i64 i), (1, .pointer (some ⟨bx1, 0, none⟩)), (2, .pointer (some ⟨bx2, 0, none⟩)), (3, .pointer (some ⟨bx3, 0, none⟩))] w (by kernel_rfl) ?_
  refine J.drawPlan (fun w_ => Sep w [] w_) [(0, true), (1, true), (2, true), (3, true), (5, true), (4, false), (6, true), (7, true)] S0 Tryd.mixed (by kernel_rfl) (planOK_of (T := [(0, some 6, 2), (0, some 7, 4), (0, some 8, 1), (6, some 9, 384), (9, some 10, 576), (0, some 11, 8), (48, some 12, 3072), (127, some 5, 4096)]) (by kernel_rfl) (by kernel_rfl)) ?_
  intro w1 S1
  refine PB.mk (S1.sub (.slnil)) ?_
  refine PL.takeOK 0 (fun w_ S_ => OK.ldRo S_ hb1 6 24 0 (.agg #[.slice c.gX_a c.gX_n c.gX_c, .slice c.gY_a c.gY_n c.gY_c]) (by kernel_rfl) (by kernel_rfl)) rfl ?_
  refine PL.takeOK 1 (fun w_ S_ => OK.ldRo S_ hb2 7 3 0 (.int .i64 (c.gX_l.getD 0 0)) (by kernel_rfl) (by kernel_rfl)) rfl ?_
  refine PL.take 2 8 (.int .i64 i) (fun _ _ => by kernel_rfl) ?_
  refine PL.take 3 9 (.int .i64 (IntKind.wrap .i64 ((c.gX_l.getD 0 0) + i))) (fun _ _ => by kernel_rfl) ?_
  refine PL.head (.int .i64 ((c.gX_l.getD 0 0) + i)) (congrArg (Value.int .i64) (IntWalk.i64_in _ (by omega))) ?_
  refine PL.takeOK 5 (fun w_ S_ => OK.ldRo S_ hb3 11 3 0 (.int .i64 y) (by kernel_rfl) (by kernel_rfl)) rfl ?_
  refine PL.callF 10 37 #[.agg #[.slice c.gX_a c.gX_n c.gX_c, .slice c.gY_a c.gY_n c.gY_c], .int .i64 ((c.gX_l.getD 0 0) + i)] hb37 (by kernel_rfl) (cvalue_any c ((c.gX_l.getD 0 0) + i) _ (crvQ_sep hc S1) hv) ?_
  rintro _ w2 ⟨rfl, T1⟩
  have S2 : Sep w [] w2 := S1.trans T1
  clear T1 S1
  refine PB.mk (S2.sub (.slnil)) ?_
  refine PL.take 6 12 (.bool (decide ((valueV c ((c.gX_l.getD 0 0) + i)) ≥ y))) (fun _ _ => by kernel_rfl) ?_
  refine PL.take 7 5 (.bool (decide ((valueV c ((c.gX_l.getD 0 0) + i)) ≥ y))) (fun _ _ => by kernel_rfl) ?_
  refine PL.done ?_
  refine J.run 0 (rRest K36_0) [(5, .bool (decide ((valueV c ((c.gX_l.getD 0 0) + i)) ≥ y)))] w2 (by kernel_rfl) ?_
  refine J.ret Tryd.f36 [.bool (decide ((valueV c ((c.gX_l.getD 0 0) + i)) ≥ y))] Tryd.func36 ⟨by kernel_rfl, trivial⟩ ?_
  refine hR _ _ ?_
  exact ⟨rfl, S2.nil⟩

theorem hb12 : HasBody Tryd.prog 12 := fun _ _ => by kernel_rfl
noncomputable def K12_0 : List Item := adv 2 [] (bodyOf Tryd.f12)
noncomputable def K12_1 : List Item := adv 7 [] (popK (popK K12_0))
noncomputable def K12_2 : List Item := adv 3 [] (popK (popK K12_1))
noncomputable def K12_3 : List Item := adv 3 [false] K12_2
noncomputable def K12_4 : List Item := adv 3 [] (popK (popK K12_3))
noncomputable def K12_5 : List Item := adv 2 [false] K12_4
noncomputable def K12_6 : List Item := adv 6 [true] (rRest K12_5)
noncomputable def K12_7 : List Item := adv 4 [false] (rRest K12_5)
noncomputable def K12_8 : List Item := adv 1 [] (rRest K12_7)
noncomputable def K12_9 : List Item := adv 6 [true] K12_4
noncomputable def K12_10 : List Item := adv 6 [true] K12_2
set_option maxRecDepth 20000 in
set_option maxHeartbeats 20000000 in
theorem cinverse_any (c : Crv) (y : Int) (w : World) (hc : crvQ w c) : Ret Tryd.prog 12 #[.agg #[.slice c.gX_a c.gX_n c.gX_c, .slice c.gY_a c.gY_n c.gY_c], .int .i64 y] w (fun v w' => v = .tuple #[.int .i64 (civX c y), .int .i64 (civE c y)] ∧ Sep w [] w') := by
  have S0 := Sep.refl w
  refine Ret.named fun R hR => ?_
  refine Ret.of_J (N := 46) [(0, .agg #[.slice c.gX_a c.gX_n c.gX_c, .slice c.gY_a c.gY_n c.gY_c]), (1, .int .i64 y)] Tryd.func12 rfl rfl (Nat.le_of_ble_eq_true (by kernel_rfl)) (by kernel_rfl) ?_
  obtain ⟨q1, q2, q3, q4, q5, q6, _⟩ := id hc
  have ql1 := q2.len_eq
  have ql2 := q5.len_eq
  refine J.run 2 K12_0 [(0, .agg #[.slice c.gX_a c.gX_n c.gX_c, .slice c.gY_a c.gY_n c.gY_c]), (1, .int .i64 y)] w (by kernel_rfl) ?_
  refine J.new S0 2 [.slice c.gX_a c.gX_n c.gX_c, .slice c.gY_a c.gY_n c.gY_c] 24 (by kernel_rfl) ?_
  intro b1 w1 S1
  refine J.new S1 3 [.int .i64 y] 3 (by kernel_rfl) ?_
  intro b2 w2 S2
  refine J.run 7 K12_1 [(3, .pointer (some ⟨b2, 0, none⟩)), (2, .pointer (some ⟨b1, 0, none⟩))] w2 (by kernel_rfl) ?_
  refine J.ok (OK.ldBox S2 1 9 24 0 (.agg #[.slice c.gX_a c.gX_n c.gX_c, .slice c.gY_a c.gY_n c.gY_c]) (by kernel_rfl) rfl (by kernel_rfl)) ?_
  refine J.callF 10 16 #[.agg #[.slice c.gX_a c.gX_n c.gX_c, .slice c.gY_a c.gY_n c.gY_c]] hb16 (by kernel_rfl) (cvalid_any c _ (crvQ_sep hc S2)) ?_
  rintro _ w3 ⟨rfl, T1⟩
  have S3 : Sep w [box b2 [.int .i64 y] 3, box b1 [.slice c.gX_a c.gX_n c.gX_c, .slice c.gY_a c.gY_n c.gY_c] 24] w3 := S2.trans T1
  clear T1 S2
  refine J.run 3 K12_2 [(8, .bool (!(validV c))), (3, .pointer (some ⟨b2, 0, none⟩)), (2, .pointer (some ⟨b1, 0, none⟩))] w3 (by kernel_rfl) ?_
  rcases Bool.eq_false_or_eq_true (validV c) with fk1 | fk1
  · skip
    refine J.head (.bool false) (congrArg Value.bool (by rw [fk1]; rfl)) ?_
    have hv := fk1
    obtain ⟨hv1, hv2, hv3⟩ := validV_facts hv
    obtain ⟨hx1, hx2, hx3⟩ := axis_facts hv2
    have hX : c.gX_l.length = c.gX_n := by omega
    have hY : c.gY_l.length = c.gX_n := by omega
    have hxm := axis_mono hv2 (show 0 < ((c.gX_n : Int) - 1).toNat by omega) (by omega)
    have hx0 := hx2 0 (by omega)
    have hxl := hx2 ((c.gX_n : Int) - 1).toNat (by omega)
    have hdv : dirV c = dirL c.gY_l := by unfold dirV; rw [hv]; rfl
    have hyn : ((c.gY_n : Int) - 1).toNat = ((c.gX_n : Int) - 1).toNat := by omega
    refine J.run 3 K12_3 [(3, .pointer (some ⟨b2, 0, none⟩)), (2, .pointer (some ⟨b1, 0, none⟩))] w3 (by kernel_rfl) ?_
    refine J.ok (OK.ldBox S3 1 13 24 0 (.agg #[.slice c.gX_a c.gX_n c.gX_c, .slice c.gY_a c.gY_n c.gY_c]) (by kernel_rfl) rfl (by kernel_rfl)) ?_
    refine J.callF 14 18 #[.agg #[.slice c.gX_a c.gX_n c.gX_c, .slice c.gY_a c.gY_n c.gY_c]] hb18 (by kernel_rfl) (cdir_any c _ (crvQ_sep hc S3)) ?_
    rintro _ w4 ⟨rfl, T2⟩
    have S4 : Sep w [box b2 [.int .i64 y] 3, box b1 [.slice c.gX_a c.gX_n c.gX_c, .slice c.gY_a c.gY_n c.gY_c] 24] w4 := S3.trans T2
    clear T2 S3
    refine J.run 3 K12_4 [(12, .bool ((dirV c) != 1)), (3, .pointer (some ⟨b2, 0, none⟩)), (2, .pointer (some ⟨b1, 0, none⟩))] w4 (by kernel_rfl) ?_
    by_cases fk2 : (dirV c) = 1
    · skip
      refine J.head (.bool false) (congrArg Value.bool (bne_eq_false_iff_eq.2 fk2)) ?_
      refine J.run 2 K12_5 [(3, .pointer (some ⟨b2, 0, none⟩)), (2, .pointer (some ⟨b1, 0, none⟩))] w4 (by kernel_rfl) ?_
      obtain ⟨p1, hp1, hc1⟩ := q5.at 0 ((c.gY_n : Int) - 1).toNat (by omega)
      have hel1 := getD_Q q6 0 (n := ((c.gY_n : Int) - 1).toNat) (by have := q5.len_eq; omega)
      refine J.drawStill S4 11 Tryd.mixed (by kernel_rfl) (by kernel_rfl) (by kernel_rfl) ?_
      intro w5 S5
      refine SL.ok (by decide) (OK.run 17 (.pointer (some ⟨b1, 1, none⟩)) (by kernel_rfl)) ?_
      refine SL.ok (by decide) (OK.ldBox S5 1 18 22 1 (.slice c.gY_a c.gY_n c.gY_c) (by kernel_rfl) rfl (by kernel_rfl)) ?_
      refine SL.ok (by decide) (OK.run 19 (.pointer (some ⟨b1, 1, none⟩)) (by kernel_rfl)) ?_
      refine SL.ok (by decide) (OK.ldBox S5 1 20 22 1 (.slice c.gY_a c.gY_n c.gY_c) (by kernel_rfl) rfl (by kernel_rfl)) ?_
      refine SL.ok (by decide) (OK.run 21 (.int .i64 (c.gY_n : Int)) (by kernel_rfl)) ?_
      refine SL.ok (by decide) (OK.run 22 (.int .i64 (IntKind.wrap .i64 ((c.gY_n : Int) - 1))) (by kernel_rfl)) ?_
      refine SL.head (.int .i64 ((c.gY_n : Int) - 1)) (congrArg (Value.int .i64) (IntWalk.i64_in _ (by omega))) ?_
      refine SL.ok (by decide) (OK.index 23 22 1 c.gY_a p1 c.gY_n ((c.gY_n : Int) - 1).toNat ((c.gY_n : Int) - 1) (p1.add ((c.gY_n : Int) - 1).toNat) (by kernel_rfl) (by kernel_rfl) hp1 (by omega) (by omega) (by rw [Nat.mul_one])) ?_
      refine SL.ok (by decide) (OK.ldCell 24 3 (p1.add ((c.gY_n : Int) - 1).toNat) (.int .i64 (c.gY_l.getD ((c.gY_n : Int) - 1).toNat 0)) (by kernel_rfl) (by kernel_rfl) (S5.cell hc1)) ?_
      refine SL.ok (by decide) (OK.ldBox S5 0 25 3 0 (.int .i64 y) (by kernel_rfl) rfl (by kernel_rfl)) ?_
      refine SL.ok (by decide) (OK.run 26 (.bool (decide ((c.gY_l.getD ((c.gY_n : Int) - 1).toNat 0) < y))) (by kernel_rfl)) ?_
      refine SL.ok (by decide) (OK.run 16 (.bool (decide ((c.gY_l.getD ((c.gY_n : Int) - 1).toNat 0) < y))) (by kernel_rfl)) ?_
      refine SL.done ?_
      refine TL.done (by kernel_rfl) ?_
      refine J.run 0 (rRest K12_5) [(16, .bool (decide ((c.gY_l.getD ((c.gY_n : Int) - 1).toNat 0) < y))), (3, .pointer (some ⟨b2, 0, none⟩)), (2, .pointer (some ⟨b1, 0, none⟩))] w5 (by kernel_rfl) ?_
      by_cases fk3 : (c.gY_l.getD ((c.gY_n : Int) - 1).toNat 0) < y
      · skip
        refine J.head (.bool true) (congrArg Value.bool (decide_eq_true fk3)) ?_
        refine J.run 6 K12_6 [(5, .int .i64 2), (4, .int .i64 0)] w5 (by kernel_rfl) ?_
        refine J.ret Tryd.f12 [.int .i64 0, .int .i64 2] Tryd.func12 ⟨by kernel_rfl, by kernel_rfl, trivial⟩ ?_
        refine hR _ _ ?_
        try rw [hyn] at fk3
        try rw [value_last hX hv] at fk3
        obtain ⟨eE, eX⟩ := civ3 (c := c) (y := y) hv (by omega) fk3
        exact ⟨by rw [tup_two, eE, eX], S5.nil⟩
      · skip
        refine J.head (.bool false) (congrArg Value.bool (decide_eq_false fk3)) ?_
        refine J.run 4 K12_7 [(3, .pointer (some ⟨b2, 0, none⟩)), (2, .pointer (some ⟨b1, 0, none⟩))] w5 (by kernel_rfl) ?_
        obtain ⟨p2, hp2, hc2⟩ := q2.at 0 0 (by omega)
        have hel2 := getD_Q q3 0 (n := 0) (by have := q2.len_eq; omega)
        obtain ⟨p3, hp3, hc3⟩ := q2.at 0 ((c.gX_n : Int) - 1).toNat (by omega)
        have hel3 := getD_Q q3 0 (n := ((c.gX_n : Int) - 1).toNat) (by have := q2.len_eq; omega)
        refine J.drawPlan (fun w_ => Sep w [box b2 [.int .i64 y] 3, box b1 [.slice c.gX_a c.gX_n c.gX_c, .slice c.gY_a c.gY_n c.gY_c] 24] w_) [(0, true), (1, true), (2, true), (3, true), (4, true), (5, true), (6, true), (7, true), (8, true), (9, true), (10, true), (11, true), (12, false), (13, false), (14, true)] S5 Tryd.mixed (by kernel_rfl) (planOK_of (T := [(0, some 27, 4), (1, some 28, 134217728), (2, some 29, 268435456), (4, some 30, 536870912), (0, some 31, 4), (16, some 32, 2147483648), (0, some 33, 4), (64, some 34, 8589934592), (128, some 35, 17179869184), (256, some 36, 34359738368), (544, some 37, 73014444032), (1024, some 38, 137438953472), (0, some 6, 0), (4111, none, 1073741888), (16383, some 7, 274877906944)]) (by kernel_rfl) (by kernel_rfl)) ?_
        intro w6 S6
        refine PB.mk (S6.sub (.cons_cons _ (.cons_cons _ (.slnil)))) ?_
        refine PL.take 0 27 (.pointer (some ⟨b1, 0, none⟩)) (fun _ _ => by kernel_rfl) ?_
        refine PL.takeOK 1 (fun w_ S_ => OK.ldBox S_ 1 28 22 0 (.slice c.gX_a c.gX_n c.gX_c) (by kernel_rfl) rfl (by kernel_rfl)) rfl ?_
        refine PL.takeOK 2 (fun w_ S_ => OK.index 29 22 1 c.gX_a p2 c.gX_n 0 0 (p2.add 0) (by kernel_rfl) (by kernel_rfl) hp2 (by omega) (by omega) (by rw [Nat.mul_one])) rfl ?_
        refine PL.takeOK 3 (fun w_ S_ => OK.ldCell 30 3 (p2.add 0) (.int .i64 (c.gX_l.getD 0 0)) (by kernel_rfl) (by kernel_rfl) (S_.cell hc2)) rfl ?_
        refine PL.take 4 31 (.pointer (some ⟨b1, 0, none⟩)) (fun _ _ => by kernel_rfl) ?_
        refine PL.takeOK 5 (fun w_ S_ => OK.ldBox S_ 1 32 22 0 (.slice c.gX_a c.gX_n c.gX_c) (by kernel_rfl) rfl (by kernel_rfl)) rfl ?_
        refine PL.take 6 33 (.pointer (some ⟨b1, 0, none⟩)) (fun _ _ => by kernel_rfl) ?_
        refine PL.takeOK 7 (fun w_ S_ => OK.ldBox S_ 1 34 22 0 (.slice c.gX_a c.gX_n c.gX_c) (by kernel_rfl) rfl (by kernel_rfl)) rfl ?_
        refine PL.take 8 35 (.int .i64 (c.gX_n : Int)) (fun _ _ => by kernel_rfl) ?_
        refine PL.take 9 36 (.int .i64 (IntKind.wrap .i64 ((c.gX_n : Int) - 1))) (fun _ _ => by kernel_rfl) ?_
        refine PL.head (.int .i64 ((c.gX_n : Int) - 1)) (congrArg (Value.int .i64) (IntWalk.i64_in _ (by omega))) ?_
        refine PL.takeOK 10 (fun w_ S_ => OK.index 37 22 1 c.gX_a p3 c.gX_n ((c.gX_n : Int) - 1).toNat ((c.gX_n : Int) - 1) (p3.add ((c.gX_n : Int) - 1).toNat) (by kernel_rfl) (by kernel_rfl) hp3 (by omega) (by omega) (by rw [Nat.mul_one])) rfl ?_
        refine PL.takeOK 11 (fun w_ S_ => OK.ldCell 38 3 (p3.add ((c.gX_n : Int) - 1).toNat) (.int .i64 (c.gX_l.getD ((c.gX_n : Int) - 1).toNat 0)) (by kernel_rfl) (by kernel_rfl) (S_.cell hc3)) rfl ?_
        refine PL.new S6 6 [.int .i64 0] 3 (by kernel_rfl) ?_
        intro b3 w7 S7
        refine PB.mk (S7.sub (.cons _ (.cons_cons _ (.cons_cons _ (.slnil))))) ?_
        refine PL.stBox S7 0 3 0 (.int .i64 (c.gX_l.getD 0 0)) [.int .i64 (c.gX_l.getD 0 0)] [box b3 [.int .i64 (c.gX_l.getD 0 0)] 3, box b2 [.int .i64 y] 3, box b1 [.slice c.gX_a c.gX_n c.gX_c, .slice c.gY_a c.gY_n c.gY_c] 24] (by kernel_rfl) rfl (by kernel_rfl) (by kernel_rfl) rfl ?_
        intro w8 S8
        refine PB.mk (S8.sub (.cons _ (.cons_cons _ (.cons_cons _ (.slnil))))) ?_
        refine PL.take 14 7 (.int .i64 (c.gX_l.getD ((c.gX_n : Int) - 1).toNat 0)) (fun _ _ => by kernel_rfl) ?_
        refine PL.done ?_
        refine J.run 0 (rRest K12_7) [(7, .int .i64 (c.gX_l.getD ((c.gX_n : Int) - 1).toNat 0)), (6, .pointer (some ⟨b3, 0, none⟩)), (3, .pointer (some ⟨b2, 0, none⟩)), (2, .pointer (some ⟨b1, 0, none⟩))] w8 (by kernel_rfl) ?_
        refine J.run 1 K12_8 [(7, .int .i64 (c.gX_l.getD ((c.gX_n : Int) - 1).toNat 0)), (6, .pointer (some ⟨b3, 0, none⟩)), (3, .pointer (some ⟨b2, 0, none⟩)), (2, .pointer (some ⟨b1, 0, none⟩))] w8 (by kernel_rfl) ?_
        refine J.drawPlan (fun w_ => Sep w [box b3 [.int .i64 (c.gX_l.getD 0 0)] 3, box b2 [.int .i64 y] 3, box b1 [.slice c.gX_a c.gX_n c.gX_c, .slice c.gY_a c.gY_n c.gY_c] 24] w_) [(0, true), (1, true), (2, true), (3, true), (4, true), (5, false), (6, true), (7, true), (8, true)] S8 Tryd.mixed (by kernel_rfl) (planOK_of (T := [(0, some 39, 64), (0, some 40, 128), (0, some 41, 64), (6, some 42, 3298534883328), (0, some 43, 76), (24, some 44, 13194139533312), (33, some 45, 18141941858304), (127, some 4, 35184372088832), (255, some 5, 0)]) (by kernel_rfl) (by kernel_rfl)) ?_
        intro w9 S9
        refine PB.mk (S9.sub (.cons_cons _ (.cons_cons _ (.cons_cons _ (.slnil))))) ?_
        refine PL.takeOK 0 (fun w_ S_ => OK.ldBox S_ 0 39 3 0 (.int .i64 (c.gX_l.getD 0 0)) (by kernel_rfl) rfl (by kernel_rfl)) rfl ?_
        refine PL.take 1 40 (.int .i64 (c.gX_l.getD ((c.gX_n : Int) - 1).toNat 0)) (fun _ _ => by kernel_rfl) ?_
        refine PL.takeOK 2 (fun w_ S_ => OK.ldBox S_ 0 41 3 0 (.int .i64 (c.gX_l.getD 0 0)) (by kernel_rfl) rfl (by kernel_rfl)) rfl ?_
        refine PL.take 3 42 (.int .i64 (IntKind.wrap .i64 ((c.gX_l.getD ((c.gX_n : Int) - 1).toNat 0) - (c.gX_l.getD 0 0)))) (fun _ _ => by kernel_rfl) ?_
        refine PL.head (.int .i64 ((c.gX_l.getD ((c.gX_n : Int) - 1).toNat 0) - (c.gX_l.getD 0 0))) (congrArg (Value.int .i64) (IntWalk.i64_in _ (by omega))) ?_
        refine PL.take 4 43 (.func (.func 36) #[] #[.pointer (some ⟨b1, 0, none⟩), .pointer (some ⟨b3, 0, none⟩), .pointer (some ⟨b2, 0, none⟩)]) (fun _ _ => by kernel_rfl) ?_
        refine PL.callF 44 35 #[.int .i64 ((c.gX_l.getD ((c.gX_n : Int) - 1).toNat 0) - (c.gX_l.getD 0 0)), .func (.func 36) #[] #[.pointer (some ⟨b1, 0, none⟩), .pointer (some ⟨b3, 0, none⟩), .pointer (some ⟨b2, 0, none⟩)]] hb35 (by kernel_rfl) (search3 ((c.gX_l.getD ((c.gX_n : Int) - 1).toNat 0) - (c.gX_l.getD 0 0)) 36 (.pointer (some ⟨b1, 0, none⟩)) (.pointer (some ⟨b3, 0, none⟩)) (.pointer (some ⟨b2, 0, none⟩)) (civQ c y) _ (by omega) hb36 (fun i_ w_ h0_ h1_ S_ => cinv1_any c y i_ b1 b3 b2 w_ (crvQ_sep (crvQ_sep hc S9) S_) hv (by omega) (box_keep (S9.nth 2 rfl) S_) (box_keep (S9.nth 0 rfl) S_) (box_keep (S9.nth 1 rfl) S_))) ?_
        rintro _ w10 ⟨r1, rfl, hr11, hr12, hr13, T3⟩
        have S10 : Sep w [box b3 [.int .i64 (c.gX_l.getD 0 0)] 3, box b2 [.int .i64 y] 3, box b1 [.slice c.gX_a c.gX_n c.gX_c, .slice c.gY_a c.gY_n c.gY_c] 24] w10 := S9.trans T3
        refine PB.mk (S10.sub (.cons_cons _ (.cons_cons _ (.cons_cons _ (.slnil))))) ?_
        refine PL.take 6 45 (.int .i64 (IntKind.wrap .i64 ((c.gX_l.getD 0 0) + r1))) (fun _ _ => by kernel_rfl) ?_
        refine PL.head (.int .i64 ((c.gX_l.getD 0 0) + r1)) (congrArg (Value.int .i64) (IntWalk.i64_in _ (by omega))) ?_
        refine PL.take 7 4 (.int .i64 ((c.gX_l.getD 0 0) + r1)) (fun _ _ => by kernel_rfl) ?_
        refine PL.take 8 5 (.int .i64 0) (fun _ _ => by kernel_rfl) ?_
        refine PL.done ?_
        refine J.run 0 (rRest K12_8) [(5, .int .i64 0), (4, .int .i64 ((c.gX_l.getD 0 0) + r1))] w10 (by kernel_rfl) ?_
        refine J.ret Tryd.f12 [.int .i64 ((c.gX_l.getD 0 0) + r1), .int .i64 0] Tryd.func12 ⟨by kernel_rfl, by kernel_rfl, trivial⟩ ?_
        refine hR _ _ ?_
        try rw [hyn] at fk3
        try rw [value_last hX hv] at fk3
        obtain ⟨eE, eX⟩ := civ4 (c := c) (y := y) (x := (c.gX_l.getD 0 0) + r1) (r := r1) hX hY hv (by omega) fk3 rfl ⟨by omega, by unfold civN; omega⟩ hr12 (by rcases hr13 with h_ | h_; exact .inl (by unfold civN; omega); exact .inr h_)
        exact ⟨by rw [tup_two, eE, eX], S10.nil⟩
    · skip
      refine J.head (.bool true) (congrArg Value.bool (bne_iff_ne.2 fk2)) ?_
      refine J.run 6 K12_9 [(5, .int .i64 6), (4, .int .i64 0)] w4 (by kernel_rfl) ?_
      refine J.ret Tryd.f12 [.int .i64 0, .int .i64 6] Tryd.func12 ⟨by kernel_rfl, by kernel_rfl, trivial⟩ ?_
      refine hR _ _ ?_
      obtain ⟨eE, eX⟩ := civ2 (c := c) (y := y) hv (by omega)
      exact ⟨by rw [tup_two, eE, eX], S4.nil⟩
  · skip
    refine J.head (.bool true) (congrArg Value.bool (by rw [fk1]; rfl)) ?_
    refine J.run 6 K12_10 [(5, .int .i64 1), (4, .int .i64 0)] w3 (by kernel_rfl) ?_
    refine J.ret Tryd.f12 [.int .i64 0, .int .i64 1] Tryd.func12 ⟨by kernel_rfl, by kernel_rfl, trivial⟩ ?_
    refine hR _ _ ?_
    obtain ⟨eE, eX⟩ := civ1 (c := c) (y := y) fk1
    exact ⟨by rw [tup_two, eE, eX], S3.nil⟩

end Go.Proofs.YtdilhoibcbihlaaDoor

