/- Walks of functions of this seat, printed by a program over the engine. Conditions: as each theorem says. -/
import Derived.Test.YtempepmfifljmaaF13
namespace Go.Proofs.Ytempepmfifljmaa
open Go.Eng Go.RowKit
set_option linter.unusedSimpArgs false
set_option linter.unusedVariables false
noncomputable def K43a_0 : List Item := adv 13 [] (bodyOf Try.f43)
noncomputable def K43a_1 : List Item := adv 7 [] K43a_0
noncomputable def K43a_2 : List Item := adv 8 [true] K43a_1
noncomputable def K43a_3 : List Item := adv 1 [] K43a_2
noncomputable def K43a_4 : List Item := adv 1 [] K43a_3
noncomputable def K43a_5 : List Item := adv 1 [] K43a_4
noncomputable def K43a_6 : List Item := adv 6 [] K43a_5
noncomputable def K43a_7 : List Item := adv 2 [] (popK K43a_6)
noncomputable def K43a_8 : List Item := adv 4 [true] K43a_7
noncomputable def K43a_9 : List Item := adv 7 [false] K43a_1
set_option maxRecDepth 20000 in
set_option maxHeartbeats 20000000 in
theorem search4 (n : Int) (g : FuncId) (c1 : Value) (c2 : Value) (c3 : Value) (c4 : Value) (q : Int → Bool) (w : World) (hn : 0 ≤ n ∧ n ≤ 4611686018427387903) (hbg : HasBody Try.prog g) (hcall : ∀ (i : Int) (w2 : World), 0 ≤ i → i < n → Sep w [] w2 → Ret Try.prog g #[.int .i64 i, c1, c2, c3, c4] w2 (fun v w3 => v = .bool (q i) ∧ Sep w2 [] w3)) : Ret Try.prog 43 #[.int .i64 n, .func (.func g) #[] #[c1, c2, c3, c4]] w (fun v w' => ∃ r, v = .int .i64 r ∧ (0 ≤ r ∧ r ≤ n) ∧ (r = 0 ∨ q (r - 1) = false) ∧ (r = n ∨ q r = true) ∧ Sep w [] w') := by
  have S0 := Sep.refl w
  refine Ret.named fun R hR => ?_
  refine Ret.of_J (N := 26) [(0, .int .i64 n), (1, .func (.func g) #[] #[c1, c2, c3, c4])] Try.func43 rfl rfl (Nat.le_of_ble_eq_true (by kernel_rfl)) (by kernel_rfl) ?_
  refine J.run 13 K43a_0 [(6, .int .i64 n), (5, .int .i64 0), (1, .func (.func g) #[] #[c1, c2, c3, c4])] w (by kernel_rfl) ?_
  have L43_1 : ∀ (mm_ : Nat) (i : Int) (j : Int) (w1 : World), (0 ≤ i ∧ i ≤ j ∧ j ≤ n) → (i = 0 ∨ q (i - 1) = false) → (j = n ∨ q j = true) → Sep w [] w1 → (j - i).toNat = mm_ → J Try.prog 43 26 R K43a_0 [(6, .int .i64 j), (5, .int .i64 i), (1, .func (.func g) #[] #[c1, c2, c3, c4])] w1 := by
    intro mm1
    induction mm1 using Nat.strongRecOn with
    | _ mm1 ih1 =>
    intro i j w1 hb hi hj S1 hm1
    refine J.run 7 K43a_1 [(11, .bool (decide (i < j))), (6, .int .i64 j), (5, .int .i64 i), (1, .func (.func g) #[] #[c1, c2, c3, c4])] w1 (by kernel_rfl) ?_
    by_cases fk1 : i < j
    · skip
      refine J.head (.bool true) (congrArg Value.bool (decide_eq_true fk1)) ?_
      refine J.run 8 K43a_2 [(14, .int .i64 (IntKind.wrap .i64 (i + j))), (6, .int .i64 j), (5, .int .i64 i), (1, .func (.func g) #[] #[c1, c2, c3, c4])] w1 (by kernel_rfl) ?_
      refine J.head (.int .i64 (i + j)) (congrArg (Value.int .i64) (IntWalk.i64_in _ (by omega))) ?_
      refine J.run 1 K43a_3 [(15, .int .u64 (IntKind.wrap .u64 (i + j))), (6, .int .i64 j), (5, .int .i64 i), (1, .func (.func g) #[] #[c1, c2, c3, c4])] w1 (by kernel_rfl) ?_
      refine J.head (.int .u64 (i + j)) (congrArg (Value.int .u64) (IntWalk.u64_in _ (by omega))) ?_
      refine J.run 1 K43a_4 [(16, .int .u64 (Int.fdiv (i + j) (2 ^ 1))), (6, .int .i64 j), (5, .int .i64 i), (1, .func (.func g) #[] #[c1, c2, c3, c4])] w1 (by kernel_rfl) ?_
      refine J.head (.int .u64 ((i + j) / 2)) (congrArg (Value.int .u64) (shr_lit _ _ (by decide))) ?_
      refine J.run 1 K43a_5 [(17, .int .i64 (IntKind.wrap .i64 ((i + j) / 2))), (6, .int .i64 j), (5, .int .i64 i), (1, .func (.func g) #[] #[c1, c2, c3, c4])] w1 (by kernel_rfl) ?_
      refine J.head (.int .i64 ((i + j) / 2)) (congrArg (Value.int .i64) (IntWalk.i64_in _ (by omega))) ?_
      obtain ⟨mid, hmid⟩ : ∃ x : Int, x = (i + j) / 2 := ⟨_, rfl⟩
      refine J.head (.int .i64 mid) (congrArg (Value.int .i64) hmid.symm) ?_
      refine J.run 6 K43a_6 [(19, .int .i64 mid), (18, .func (.func g) #[] #[c1, c2, c3, c4]), (7, .int .i64 mid), (6, .int .i64 j), (5, .int .i64 i), (1, .func (.func g) #[] #[c1, c2, c3, c4])] w1 (by kernel_rfl) ?_
      refine J.callF 20 g #[.int .i64 mid, c1, c2, c3, c4] hbg (by kernel_rfl) (hcall mid w1 (by omega) (by omega) S1.nil) ?_
      rintro _ w2 ⟨rfl, T1⟩
      have S2 : Sep w [] w2 := S1.trans T1
      refine J.run 2 K43a_7 [(21, .bool (!(q mid))), (7, .int .i64 mid), (6, .int .i64 j), (5, .int .i64 i), (1, .func (.func g) #[] #[c1, c2, c3, c4])] w2 (by kernel_rfl) ?_
      rcases Bool.eq_false_or_eq_true (q mid) with fk2 | fk2
      · skip
        refine J.head (.bool false) (congrArg Value.bool (by rw [fk2]; rfl)) ?_
        refine J.run 7 K43a_0 [(6, .int .i64 mid), (5, .int .i64 i), (1, .func (.func g) #[] #[c1, c2, c3, c4])] w2 (by kernel_rfl) ?_
        refine J.run 0 K43a_0 [(6, .int .i64 mid), (5, .int .i64 i), (1, .func (.func g) #[] #[c1, c2, c3, c4])] w2 (by kernel_rfl) ?_
        exact ih1 _ (show (mid - i).toNat < mm1 from by omega) i mid w2 (by omega) (hi) (.inr fk2) S2 rfl
      · skip
        refine J.head (.bool true) (congrArg Value.bool (by rw [fk2]; rfl)) ?_
        refine J.run 4 K43a_8 [(23, .int .i64 (IntKind.wrap .i64 (mid + 1))), (6, .int .i64 j), (1, .func (.func g) #[] #[c1, c2, c3, c4])] w2 (by kernel_rfl) ?_
        refine J.head (.int .i64 (mid + 1)) (congrArg (Value.int .i64) (IntWalk.i64_in _ (by omega))) ?_
        refine J.run 4 K43a_0 [(5, .int .i64 (mid + 1)), (6, .int .i64 j), (1, .func (.func g) #[] #[c1, c2, c3, c4])] w2 (by kernel_rfl) ?_
        refine J.run 0 K43a_0 [(6, .int .i64 j), (5, .int .i64 (mid + 1)), (1, .func (.func g) #[] #[c1, c2, c3, c4])] w2 (by kernel_rfl) ?_
        exact ih1 _ (show (j - (mid + 1)).toNat < mm1 from by omega) (mid + 1) j w2 (by omega) (.inr (by rw [show mid + 1 - 1 = mid by omega]; exact fk2)) (hj) S2 rfl
    · skip
      refine J.head (.bool false) (congrArg Value.bool (decide_eq_false fk1)) ?_
      refine J.run 7 K43a_9 [(4, .int .i64 i)] w1 (by kernel_rfl) ?_
      refine J.ret Try.f43 [.int .i64 i] Try.func43 ⟨by kernel_rfl, trivial⟩ ?_
      refine hR _ _ ?_
      exact ⟨i, rfl, by omega, hi, by rw [show i = j by omega]; exact hj, S1.nil⟩
  exact L43_1 _ 0 n w (by omega) (.inl rfl) (.inl rfl) S0 rfl

theorem hb44 : HasBody Try.prog 44 := fun _ _ => by kernel_rfl
noncomputable def K44_0 : List Item := adv 5 [] (bodyOf Try.f44)
set_option maxRecDepth 20000 in
set_option maxHeartbeats 20000000 in
theorem inverse1_any (m : Mp) (y z i : Int) (bx1 bx2 bx3 bx4 : Nat) (w : World) (hm : mpQ w m) (hv : validM m = true) (hi : 0 ≤ i ∧ i ≤ 2147483648) (hb1 : (box bx1 [.slice m.gX_a m.gX_n m.gX_c, .slice m.gY_a m.gY_n m.gY_c, .slice m.gZ_a m.gZ_n m.gZ_c] 25).holds w) (hb2 : (box bx2 [.int .i64 (m.gX_l.getD 0 0)] 3).holds w) (hb3 : (box bx3 [.int .i64 y] 3).holds w) (hb4 : (box bx4 [.int .i64 z] 3).holds w) : Ret Try.prog 44 #[.int .i64 i, .pointer (some ⟨bx1, 0, none⟩), .pointer (some ⟨bx2, 0, none⟩), .pointer (some ⟨bx3, 0, none⟩), .pointer (some ⟨bx4, 0, none⟩)] w (fun v w' => v = .bool (invQ m y z i) ∧ Sep w [] w') := by
  have S0 := Sep.refl w
  refine Ret.named fun R hR => ?_
  refine Ret.of_J (N := 15) [(0, .int .i64 i), (1, .pointer (some ⟨bx1, 0, none⟩)), (2, .pointer (some ⟨bx2, 0, none⟩)), (3, .pointer (some ⟨bx3, 0, none⟩)), (4, .pointer (some ⟨bx4, 0, none⟩))] Try.func44 rfl rfl (Nat.le_of_ble_eq_true (by kernel_rfl)) (by kernel_rfl) ?_
  obtain ⟨q1, q2, q3, q4, q5, q6, q7, q8, q9, _⟩ := id hm
  have ql1 := q2.len_eq
  have ql2 := q5.len_eq
  have ql3 := q8.len_eq
  obtain ⟨hv1, hv2, hv3, hv4⟩ := valid_facts hv
  obtain ⟨hx1, hx2, hx3⟩ := axis_facts hv1
  obtain ⟨hy1, hy2, hy3⟩ := axis_facts hv2
  have hx0 := hx2 0 (by omega)
  refine J.run 5 K44_0 [(0, .int .i64 i), (1, .pointer (some ⟨bx1, 0, none⟩)), (2, .pointer (some ⟨bx2, 0, none⟩)), (3, .pointer (some ⟨bx3, 0, none⟩)), (4, .pointer (some ⟨bx4, 0, none⟩))] w (by kernel_rfl) ?_
  refine J.drawPlan (fun w_ => Sep w [] w_) [(0, true), (1, true), (2, true), (3, true), (4, true), (6, true), (5, false), (7, true), (8, true)] S0 Try.mixed (by kernel_rfl) (planOK_of (T := [(0, some 7, 2), (0, some 8, 4), (0, some 9, 1), (6, some 10, 768), (0, some 11, 8), (25, some 12, 3200), (0, some 13, 16), (96, some 14, 12288), (255, some 6, 16384)]) (by kernel_rfl) (by kernel_rfl)) ?_
  intro w1 S1
  refine PB.mk (S1.sub (.slnil)) ?_
  refine PL.takeOK 0 (fun w_ S_ => OK.ldRo S_ hb1 7 25 0 (.agg #[.slice m.gX_a m.gX_n m.gX_c, .slice m.gY_a m.gY_n m.gY_c, .slice m.gZ_a m.gZ_n m.gZ_c]) (by kernel_rfl) (by kernel_rfl)) rfl ?_
  refine PL.takeOK 1 (fun w_ S_ => OK.ldRo S_ hb2 8 3 0 (.int .i64 (m.gX_l.getD 0 0)) (by kernel_rfl) (by kernel_rfl)) rfl ?_
  refine PL.take 2 9 (.int .i64 i) (fun _ _ => by kernel_rfl) ?_
  refine PL.take 3 10 (.int .i64 (IntKind.wrap .i64 ((m.gX_l.getD 0 0) + i))) (fun _ _ => by kernel_rfl) ?_
  refine PL.head (.int .i64 ((m.gX_l.getD 0 0) + i)) (congrArg (Value.int .i64) (IntWalk.i64_in _ (by omega))) ?_
  refine PL.takeOK 4 (fun w_ S_ => OK.ldRo S_ hb3 11 3 0 (.int .i64 y) (by kernel_rfl) (by kernel_rfl)) rfl ?_
  refine PL.takeOK 6 (fun w_ S_ => OK.ldRo S_ hb4 13 3 0 (.int .i64 z) (by kernel_rfl) (by kernel_rfl)) rfl ?_
  refine PL.callF 12 35 #[.agg #[.slice m.gX_a m.gX_n m.gX_c, .slice m.gY_a m.gY_n m.gY_c, .slice m.gZ_a m.gZ_n m.gZ_c], .int .i64 ((m.gX_l.getD 0 0) + i), .int .i64 y] hb35 (by kernel_rfl) (at_any m ((m.gX_l.getD 0 0) + i) y _ (mpQ_sep hm S1) hv) ?_
  rintro _ w2 ⟨rfl, T1⟩
  have S2 : Sep w [] w2 := S1.trans T1
  clear T1 S1
  refine PB.mk (S2.sub (.slnil)) ?_
  refine PL.take 7 14 (.bool (decide ((valueF m ((m.gX_l.getD 0 0) + i) y) ≥ z))) (fun _ _ => by kernel_rfl) ?_
  refine PL.take 8 6 (.bool (decide ((valueF m ((m.gX_l.getD 0 0) + i) y) ≥ z))) (fun _ _ => by kernel_rfl) ?_
  refine PL.done ?_
  refine J.run 0 (rRest K44_0) [(6, .bool (decide ((valueF m ((m.gX_l.getD 0 0) + i) y) ≥ z)))] w2 (by kernel_rfl) ?_
  refine J.ret Try.f44 [.bool (decide ((valueF m ((m.gX_l.getD 0 0) + i) y) ≥ z))] Try.func44 ⟨by kernel_rfl, trivial⟩ ?_
  refine hR _ _ ?_
  exact ⟨rfl, S2.nil⟩

theorem hb19 : HasBody Try.prog 19 := fun _ _ => by kernel_rfl
noncomputable def K19_0 : List Item := adv 2 [] (bodyOf Try.f19)
noncomputable def K19_1 : List Item := adv 6 [] (popK (popK (popK K19_0)))
noncomputable def K19_2 : List Item := adv 2 [] (popK (popK K19_1))
noncomputable def K19_3 : List Item := adv 5 [false] K19_2
noncomputable def K19_4 : List Item := adv 2 [] (popK (popK K19_3))
noncomputable def K19_5 : List Item := adv 3 [false] K19_4
noncomputable def K19_6 : List Item := adv 2 [] (rRest K19_5)
noncomputable def K19_7 : List Item := adv 6 [true] (rRest K19_6)
noncomputable def K19_8 : List Item := adv 3 [false] (rRest K19_6)
noncomputable def K19_9 : List Item := adv 6 [true] K19_4
noncomputable def K19_10 : List Item := adv 6 [true] K19_2
set_option maxRecDepth 20000 in
set_option maxHeartbeats 20000000 in
theorem inverse_any (m : Mp) (y z : Int) (w : World) (hm : mpQ w m) : Ret Try.prog 19 #[.agg #[.slice m.gX_a m.gX_n m.gX_c, .slice m.gY_a m.gY_n m.gY_c, .slice m.gZ_a m.gZ_n m.gZ_c], .int .i64 y, .int .i64 z] w (fun v w' => v = .tuple #[.int .i64 (invX m y z), .int .i64 (invE m y z)] ∧ Sep w [] w') := by
  have S0 := Sep.refl w
  refine Ret.named fun R hR => ?_
  refine Ret.of_J (N := 41) [(0, .agg #[.slice m.gX_a m.gX_n m.gX_c, .slice m.gY_a m.gY_n m.gY_c, .slice m.gZ_a m.gZ_n m.gZ_c]), (1, .int .i64 y), (2, .int .i64 z)] Try.func19 rfl rfl (Nat.le_of_ble_eq_true (by kernel_rfl)) (by kernel_rfl) ?_
  obtain ⟨q1, q2, q3, q4, q5, q6, q7, q8, q9, _⟩ := id hm
  have ql1 := q2.len_eq
  have ql2 := q5.len_eq
  have ql3 := q8.len_eq
  refine J.run 2 K19_0 [(0, .agg #[.slice m.gX_a m.gX_n m.gX_c, .slice m.gY_a m.gY_n m.gY_c, .slice m.gZ_a m.gZ_n m.gZ_c]), (1, .int .i64 y), (2, .int .i64 z)] w (by kernel_rfl) ?_
  refine J.new S0 3 [.slice m.gX_a m.gX_n m.gX_c, .slice m.gY_a m.gY_n m.gY_c, .slice m.gZ_a m.gZ_n m.gZ_c] 25 (by kernel_rfl) ?_
  intro b1 w1 S1
  refine J.new S1 4 [.int .i64 y] 3 (by kernel_rfl) ?_
  intro b2 w2 S2
  refine J.new S2 5 [.int .i64 z] 3 (by kernel_rfl) ?_
  intro b3 w3 S3
  refine J.run 6 K19_1 [(5, .pointer (some ⟨b3, 0, none⟩)), (4, .pointer (some ⟨b2, 0, none⟩)), (3, .pointer (some ⟨b1, 0, none⟩))] w3 (by kernel_rfl) ?_
  refine J.ok (OK.ldBox S3 2 10 25 0 (.agg #[.slice m.gX_a m.gX_n m.gX_c, .slice m.gY_a m.gY_n m.gY_c, .slice m.gZ_a m.gZ_n m.gZ_c]) (by kernel_rfl) rfl (by kernel_rfl)) ?_
  refine J.callF 11 15 #[.agg #[.slice m.gX_a m.gX_n m.gX_c, .slice m.gY_a m.gY_n m.gY_c, .slice m.gZ_a m.gZ_n m.gZ_c]] hb15 (by kernel_rfl) (valid_any m _ (mpQ_sep hm S3)) ?_
  rintro _ w4 ⟨rfl, T1⟩
  have S4 : Sep w [box b3 [.int .i64 z] 3, box b2 [.int .i64 y] 3, box b1 [.slice m.gX_a m.gX_n m.gX_c, .slice m.gY_a m.gY_n m.gY_c, .slice m.gZ_a m.gZ_n m.gZ_c] 25] w4 := S3.trans T1
  clear T1 S3
  refine J.run 2 K19_2 [(12, .bool (!(validM m))), (5, .pointer (some ⟨b3, 0, none⟩)), (4, .pointer (some ⟨b2, 0, none⟩)), (3, .pointer (some ⟨b1, 0, none⟩))] w4 (by kernel_rfl) ?_
  rcases Bool.eq_false_or_eq_true (validM m) with fk1 | fk1
  · skip
    refine J.head (.bool false) (congrArg Value.bool (by rw [fk1]; rfl)) ?_
    have hv := fk1
    obtain ⟨hv1, hv2, hv3, hv4⟩ := valid_facts hv
    obtain ⟨hx1, hx2, hx3⟩ := axis_facts hv1
    obtain ⟨hy1, hy2, hy3⟩ := axis_facts hv2
    have hX : m.gX_l.length = m.gX_n := by omega
    have hY : m.gY_l.length = m.gY_n := by omega
    have vm := vm_of hv (by omega) fun i hi => row_len hm hi
    have hX0 := hx2 0 (by omega)
    have hX1 := hx2 ((m.gX_n : Int) - 1).toNat (by omega)
    have hXm := axis_mono hv1 (show 0 < ((m.gX_n : Int) - 1).toNat by omega) (by omega)
    refine J.run 5 K19_3 [(5, .pointer (some ⟨b3, 0, none⟩)), (4, .pointer (some ⟨b2, 0, none⟩)), (3, .pointer (some ⟨b1, 0, none⟩))] w4 (by kernel_rfl) ?_
    refine J.ok (OK.ldBox S4 2 13 25 0 (.agg #[.slice m.gX_a m.gX_n m.gX_c, .slice m.gY_a m.gY_n m.gY_c, .slice m.gZ_a m.gZ_n m.gZ_c]) (by kernel_rfl) rfl (by kernel_rfl)) ?_
    refine J.callF 14 17 #[.agg #[.slice m.gX_a m.gX_n m.gX_c, .slice m.gY_a m.gY_n m.gY_c, .slice m.gZ_a m.gZ_n m.gZ_c]] hb17 (by kernel_rfl) (rising_any m _ (mpQ_sep hm S4)) ?_
    rintro _ w5 ⟨rfl, T2⟩
    have S5 : Sep w [box b3 [.int .i64 z] 3, box b2 [.int .i64 y] 3, box b1 [.slice m.gX_a m.gX_n m.gX_c, .slice m.gY_a m.gY_n m.gY_c, .slice m.gZ_a m.gZ_n m.gZ_c] 25] w5 := S4.trans T2
    clear T2 S4
    refine J.run 2 K19_4 [(15, .bool (!(risesM m))), (5, .pointer (some ⟨b3, 0, none⟩)), (4, .pointer (some ⟨b2, 0, none⟩)), (3, .pointer (some ⟨b1, 0, none⟩))] w5 (by kernel_rfl) ?_
    rcases Bool.eq_false_or_eq_true (risesM m) with fk2 | fk2
    · skip
      refine J.head (.bool false) (congrArg Value.bool (by rw [fk2]; rfl)) ?_
      refine J.run 3 K19_5 [(5, .pointer (some ⟨b3, 0, none⟩)), (4, .pointer (some ⟨b2, 0, none⟩)), (3, .pointer (some ⟨b1, 0, none⟩))] w5 (by kernel_rfl) ?_
      obtain ⟨p1, hp1, hc1⟩ := q2.at 0 0 (by omega)
      have hel1 := getD_Q q3 0 (n := 0) (by have := q2.len_eq; omega)
      obtain ⟨p2, hp2, hc2⟩ := q2.at 0 ((m.gX_n : Int) - 1).toNat (by omega)
      have hel2 := getD_Q q3 0 (n := ((m.gX_n : Int) - 1).toNat) (by have := q2.len_eq; omega)
      refine J.drawPlan (fun w_ => Sep w [box b3 [.int .i64 z] 3, box b2 [.int .i64 y] 3, box b1 [.slice m.gX_a m.gX_n m.gX_c, .slice m.gY_a m.gY_n m.gY_c, .slice m.gZ_a m.gZ_n m.gZ_c] 25] w_) [(0, true), (1, true), (2, true), (3, true), (4, true), (5, true), (6, true), (7, true), (8, true), (9, true), (10, true), (11, true), (12, false), (13, false), (14, true)] S5 Try.mixed (by kernel_rfl) (planOK_of (T := [(0, some 16, 8), (1, some 17, 65536), (2, some 18, 131072), (4, some 19, 262144), (0, some 20, 8), (16, some 21, 1048576), (0, some 22, 8), (64, some 23, 4194304), (128, some 24, 8388608), (256, some 25, 16777216), (544, some 26, 35651584), (1024, some 27, 67108864), (0, some 8, 0), (4111, none, 524544), (16383, some 9, 134217728)]) (by kernel_rfl) (by kernel_rfl)) ?_
      intro w6 S6
      refine PB.mk (S6.sub (.cons_cons _ (.cons_cons _ (.cons_cons _ (.slnil))))) ?_
      refine PL.take 0 16 (.pointer (some ⟨b1, 0, none⟩)) (fun _ _ => by kernel_rfl) ?_
      refine PL.takeOK 1 (fun w_ S_ => OK.ldBox S_ 2 17 22 0 (.slice m.gX_a m.gX_n m.gX_c) (by kernel_rfl) rfl (by kernel_rfl)) rfl ?_
      refine PL.takeOK 2 (fun w_ S_ => OK.index 18 22 1 m.gX_a p1 m.gX_n 0 0 (p1.add 0) (by kernel_rfl) (by kernel_rfl) hp1 (by omega) (by omega) (by rw [Nat.mul_one])) rfl ?_
      refine PL.takeOK 3 (fun w_ S_ => OK.ldCell 19 3 (p1.add 0) (.int .i64 (m.gX_l.getD 0 0)) (by kernel_rfl) (by kernel_rfl) (S_.cell hc1)) rfl ?_
      refine PL.take 4 20 (.pointer (some ⟨b1, 0, none⟩)) (fun _ _ => by kernel_rfl) ?_
      refine PL.takeOK 5 (fun w_ S_ => OK.ldBox S_ 2 21 22 0 (.slice m.gX_a m.gX_n m.gX_c) (by kernel_rfl) rfl (by kernel_rfl)) rfl ?_
      refine PL.take 6 22 (.pointer (some ⟨b1, 0, none⟩)) (fun _ _ => by kernel_rfl) ?_
      refine PL.takeOK 7 (fun w_ S_ => OK.ldBox S_ 2 23 22 0 (.slice m.gX_a m.gX_n m.gX_c) (by kernel_rfl) rfl (by kernel_rfl)) rfl ?_
      refine PL.take 8 24 (.int .i64 (m.gX_n : Int)) (fun _ _ => by kernel_rfl) ?_
      refine PL.take 9 25 (.int .i64 (IntKind.wrap .i64 ((m.gX_n : Int) - 1))) (fun _ _ => by kernel_rfl) ?_
      refine PL.head (.int .i64 ((m.gX_n : Int) - 1)) (congrArg (Value.int .i64) (IntWalk.i64_in _ (by omega))) ?_
      refine PL.takeOK 10 (fun w_ S_ => OK.index 26 22 1 m.gX_a p2 m.gX_n ((m.gX_n : Int) - 1).toNat ((m.gX_n : Int) - 1) (p2.add ((m.gX_n : Int) - 1).toNat) (by kernel_rfl) (by kernel_rfl) hp2 (by omega) (by omega) (by rw [Nat.mul_one])) rfl ?_
      refine PL.takeOK 11 (fun w_ S_ => OK.ldCell 27 3 (p2.add ((m.gX_n : Int) - 1).toNat) (.int .i64 (m.gX_l.getD ((m.gX_n : Int) - 1).toNat 0)) (by kernel_rfl) (by kernel_rfl) (S_.cell hc2)) rfl ?_
      refine PL.new S6 8 [.int .i64 0] 3 (by kernel_rfl) ?_
      intro b4 w7 S7
      refine PB.mk (S7.sub (.cons _ (.cons_cons _ (.cons_cons _ (.cons_cons _ (.slnil)))))) ?_
      refine PL.stBox S7 0 3 0 (.int .i64 (m.gX_l.getD 0 0)) [.int .i64 (m.gX_l.getD 0 0)] [box b4 [.int .i64 (m.gX_l.getD 0 0)] 3, box b3 [.int .i64 z] 3, box b2 [.int .i64 y] 3, box b1 [.slice m.gX_a m.gX_n m.gX_c, .slice m.gY_a m.gY_n m.gY_c, .slice m.gZ_a m.gZ_n m.gZ_c] 25] (by kernel_rfl) rfl (by kernel_rfl) (by kernel_rfl) rfl ?_
      intro w8 S8
      refine PB.mk (S8.sub (.cons _ (.cons_cons _ (.cons_cons _ (.cons_cons _ (.slnil)))))) ?_
      refine PL.take 14 9 (.int .i64 (m.gX_l.getD ((m.gX_n : Int) - 1).toNat 0)) (fun _ _ => by kernel_rfl) ?_
      refine PL.done ?_
      refine J.run 0 (rRest K19_5) [(9, .int .i64 (m.gX_l.getD ((m.gX_n : Int) - 1).toNat 0)), (8, .pointer (some ⟨b4, 0, none⟩)), (5, .pointer (some ⟨b3, 0, none⟩)), (4, .pointer (some ⟨b2, 0, none⟩)), (3, .pointer (some ⟨b1, 0, none⟩))] w8 (by kernel_rfl) ?_
      refine J.run 2 K19_6 [(9, .int .i64 (m.gX_l.getD ((m.gX_n : Int) - 1).toNat 0)), (8, .pointer (some ⟨b4, 0, none⟩)), (5, .pointer (some ⟨b3, 0, none⟩)), (4, .pointer (some ⟨b2, 0, none⟩)), (3, .pointer (some ⟨b1, 0, none⟩))] w8 (by kernel_rfl) ?_
      refine J.drawPlan (fun w_ => Sep w [box b4 [.int .i64 (m.gX_l.getD 0 0)] 3, box b3 [.int .i64 z] 3, box b2 [.int .i64 y] 3, box b1 [.slice m.gX_a m.gX_n m.gX_c, .slice m.gY_a m.gY_n m.gY_c, .slice m.gZ_a m.gZ_n m.gZ_c] 25] w_) [(0, true), (1, true), (2, true), (4, true), (3, false), (5, true)] S8 Try.mixed (by kernel_rfl) (planOK_of (T := [(0, some 28, 8), (0, some 29, 512), (0, some 30, 16), (7, some 31, 1879048192), (0, some 32, 32), (24, some 33, 6442450944)]) (by kernel_rfl) (by kernel_rfl)) ?_
      intro w9 S9
      refine PB.mk (S9.sub (.cons_cons _ (.cons_cons _ (.cons_cons _ (.cons_cons _ (.slnil)))))) ?_
      refine PL.takeOK 0 (fun w_ S_ => OK.ldBox S_ 3 28 25 0 (.agg #[.slice m.gX_a m.gX_n m.gX_c, .slice m.gY_a m.gY_n m.gY_c, .slice m.gZ_a m.gZ_n m.gZ_c]) (by kernel_rfl) rfl (by kernel_rfl)) rfl ?_
      refine PL.take 1 29 (.int .i64 (m.gX_l.getD ((m.gX_n : Int) - 1).toNat 0)) (fun _ _ => by kernel_rfl) ?_
      refine PL.takeOK 2 (fun w_ S_ => OK.ldBox S_ 2 30 3 0 (.int .i64 y) (by kernel_rfl) rfl (by kernel_rfl)) rfl ?_
      refine PL.takeOK 4 (fun w_ S_ => OK.ldBox S_ 1 32 3 0 (.int .i64 z) (by kernel_rfl) rfl (by kernel_rfl)) rfl ?_
      refine PL.callF 31 35 #[.agg #[.slice m.gX_a m.gX_n m.gX_c, .slice m.gY_a m.gY_n m.gY_c, .slice m.gZ_a m.gZ_n m.gZ_c], .int .i64 (m.gX_l.getD ((m.gX_n : Int) - 1).toNat 0), .int .i64 y] hb35 (by kernel_rfl) (at_any m (m.gX_l.getD ((m.gX_n : Int) - 1).toNat 0) y _ (mpQ_sep hm S9) hv) ?_
      rintro _ w10 ⟨rfl, T3⟩
      have S10 : Sep w [box b4 [.int .i64 (m.gX_l.getD 0 0)] 3, box b3 [.int .i64 z] 3, box b2 [.int .i64 y] 3, box b1 [.slice m.gX_a m.gX_n m.gX_c, .slice m.gY_a m.gY_n m.gY_c, .slice m.gZ_a m.gZ_n m.gZ_c] 25] w10 := S9.trans T3
      clear T3 S9
      refine PB.mk (S10.sub (.cons_cons _ (.cons_cons _ (.cons_cons _ (.cons_cons _ (.slnil)))))) ?_
      refine PL.take 5 33 (.bool (decide ((valueF m (m.gX_l.getD ((m.gX_n : Int) - 1).toNat 0) y) < z))) (fun _ _ => by kernel_rfl) ?_
      refine PL.done ?_
      refine J.run 0 (rRest K19_6) [(33, .bool (decide ((valueF m (m.gX_l.getD ((m.gX_n : Int) - 1).toNat 0) y) < z))), (9, .int .i64 (m.gX_l.getD ((m.gX_n : Int) - 1).toNat 0)), (8, .pointer (some ⟨b4, 0, none⟩)), (5, .pointer (some ⟨b3, 0, none⟩)), (4, .pointer (some ⟨b2, 0, none⟩)), (3, .pointer (some ⟨b1, 0, none⟩))] w10 (by kernel_rfl) ?_
      by_cases fk3 : (valueF m (m.gX_l.getD ((m.gX_n : Int) - 1).toNat 0) y) < z
      · skip
        refine J.head (.bool true) (congrArg Value.bool (decide_eq_true fk3)) ?_
        refine J.run 6 K19_7 [(7, .int .i64 2), (6, .int .i64 0)] w10 (by kernel_rfl) ?_
        refine J.ret Try.f19 [.int .i64 0, .int .i64 2] Try.func19 ⟨by kernel_rfl, by kernel_rfl, trivial⟩ ?_
        refine hR _ _ ?_
        obtain ⟨eE, eX⟩ := inv3 (m := m) (y := y) (z := z) fk1 fk2 fk3
        exact ⟨by rw [tup_two, eE, eX], S10.nil⟩
      · skip
        refine J.head (.bool false) (congrArg Value.bool (decide_eq_false fk3)) ?_
        refine J.run 3 K19_8 [(9, .int .i64 (m.gX_l.getD ((m.gX_n : Int) - 1).toNat 0)), (8, .pointer (some ⟨b4, 0, none⟩)), (5, .pointer (some ⟨b3, 0, none⟩)), (4, .pointer (some ⟨b2, 0, none⟩)), (3, .pointer (some ⟨b1, 0, none⟩))] w10 (by kernel_rfl) ?_
        refine J.drawPlan (fun w_ => Sep w [box b4 [.int .i64 (m.gX_l.getD 0 0)] 3, box b3 [.int .i64 z] 3, box b2 [.int .i64 y] 3, box b1 [.slice m.gX_a m.gX_n m.gX_c, .slice m.gY_a m.gY_n m.gY_c, .slice m.gZ_a m.gZ_n m.gZ_c] 25] w_) [(0, true), (1, true), (2, true), (3, true), (4, true), (5, false), (6, true), (7, true), (8, true)] S10 Try.mixed (by kernel_rfl) (planOK_of (T := [(0, some 34, 256), (0, some 35, 512), (0, some 36, 256), (6, some 37, 103079215104), (0, some 38, 312), (24, some 39, 412316860416), (33, some 40, 566935683072), (127, some 6, 1099511627776), (255, some 7, 0)]) (by kernel_rfl) (by kernel_rfl)) ?_
        intro w11 S11
        refine PB.mk (S11.sub (.cons_cons _ (.cons_cons _ (.cons_cons _ (.cons_cons _ (.slnil)))))) ?_
        refine PL.takeOK 0 (fun w_ S_ => OK.ldBox S_ 0 34 3 0 (.int .i64 (m.gX_l.getD 0 0)) (by kernel_rfl) rfl (by kernel_rfl)) rfl ?_
        refine PL.take 1 35 (.int .i64 (m.gX_l.getD ((m.gX_n : Int) - 1).toNat 0)) (fun _ _ => by kernel_rfl) ?_
        refine PL.takeOK 2 (fun w_ S_ => OK.ldBox S_ 0 36 3 0 (.int .i64 (m.gX_l.getD 0 0)) (by kernel_rfl) rfl (by kernel_rfl)) rfl ?_
        refine PL.take 3 37 (.int .i64 (IntKind.wrap .i64 ((m.gX_l.getD ((m.gX_n : Int) - 1).toNat 0) - (m.gX_l.getD 0 0)))) (fun _ _ => by kernel_rfl) ?_
        refine PL.head (.int .i64 ((m.gX_l.getD ((m.gX_n : Int) - 1).toNat 0) - (m.gX_l.getD 0 0))) (congrArg (Value.int .i64) (IntWalk.i64_in _ (by omega))) ?_
        refine PL.take 4 38 (.func (.func 44) #[] #[.pointer (some ⟨b1, 0, none⟩), .pointer (some ⟨b4, 0, none⟩), .pointer (some ⟨b2, 0, none⟩), .pointer (some ⟨b3, 0, none⟩)]) (fun _ _ => by kernel_rfl) ?_
        refine PL.callF 39 43 #[.int .i64 ((m.gX_l.getD ((m.gX_n : Int) - 1).toNat 0) - (m.gX_l.getD 0 0)), .func (.func 44) #[] #[.pointer (some ⟨b1, 0, none⟩), .pointer (some ⟨b4, 0, none⟩), .pointer (some ⟨b2, 0, none⟩), .pointer (some ⟨b3, 0, none⟩)]] hb43 (by kernel_rfl) (search4 ((m.gX_l.getD ((m.gX_n : Int) - 1).toNat 0) - (m.gX_l.getD 0 0)) 44 (.pointer (some ⟨b1, 0, none⟩)) (.pointer (some ⟨b4, 0, none⟩)) (.pointer (some ⟨b2, 0, none⟩)) (.pointer (some ⟨b3, 0, none⟩)) (invQ m y z) _ (by omega) hb44 (fun i_ w_ h0_ h1_ S_ => inverse1_any m y z i_ b1 b4 b2 b3 w_ (mpQ_sep (mpQ_sep hm S11) S_) hv (by omega) (box_keep (S11.nth 3 rfl) S_) (box_keep (S11.nth 0 rfl) S_) (box_keep (S11.nth 2 rfl) S_) (box_keep (S11.nth 1 rfl) S_))) ?_
        rintro _ w12 ⟨r1, rfl, hr11, hr12, hr13, T4⟩
        have S12 : Sep w [box b4 [.int .i64 (m.gX_l.getD 0 0)] 3, box b3 [.int .i64 z] 3, box b2 [.int .i64 y] 3, box b1 [.slice m.gX_a m.gX_n m.gX_c, .slice m.gY_a m.gY_n m.gY_c, .slice m.gZ_a m.gZ_n m.gZ_c] 25] w12 := S11.trans T4
        refine PB.mk (S12.sub (.cons_cons _ (.cons_cons _ (.cons_cons _ (.cons_cons _ (.slnil)))))) ?_
        refine PL.take 6 40 (.int .i64 (IntKind.wrap .i64 ((m.gX_l.getD 0 0) + r1))) (fun _ _ => by kernel_rfl) ?_
        refine PL.head (.int .i64 ((m.gX_l.getD 0 0) + r1)) (congrArg (Value.int .i64) (IntWalk.i64_in _ (by omega))) ?_
        refine PL.take 7 6 (.int .i64 ((m.gX_l.getD 0 0) + r1)) (fun _ _ => by kernel_rfl) ?_
        refine PL.take 8 7 (.int .i64 0) (fun _ _ => by kernel_rfl) ?_
        refine PL.done ?_
        refine J.run 0 (rRest K19_8) [(7, .int .i64 0), (6, .int .i64 ((m.gX_l.getD 0 0) + r1))] w12 (by kernel_rfl) ?_
        refine J.ret Try.f19 [.int .i64 ((m.gX_l.getD 0 0) + r1), .int .i64 0] Try.func19 ⟨by kernel_rfl, by kernel_rfl, trivial⟩ ?_
        refine hR _ _ ?_
        obtain ⟨eE, eX⟩ := inv4 (m := m) (y := y) (z := z) (x := (m.gX_l.getD 0 0) + r1) (r := r1) hX hY fk1 fk2 fk3 rfl ⟨by omega, by unfold invN; omega⟩ hr12 (by first | exact hr13 | (rcases hr13 with h_ | h_; exact .inl (by unfold invN; omega); exact .inr h_))
        exact ⟨by rw [tup_two, eE, eX], S12.nil⟩
    · skip
      refine J.head (.bool true) (congrArg Value.bool (by rw [fk2]; rfl)) ?_
      refine J.run 6 K19_9 [(7, .int .i64 6), (6, .int .i64 0)] w5 (by kernel_rfl) ?_
      refine J.ret Try.f19 [.int .i64 0, .int .i64 6] Try.func19 ⟨by kernel_rfl, by kernel_rfl, trivial⟩ ?_
      refine hR _ _ ?_
      obtain ⟨eE, eX⟩ := inv2 (m := m) (y := y) (z := z) fk1 fk2
      exact ⟨by rw [tup_two, eE, eX], S5.nil⟩
  · skip
    refine J.head (.bool true) (congrArg Value.bool (by rw [fk1]; rfl)) ?_
    refine J.run 6 K19_10 [(7, .int .i64 1), (6, .int .i64 0)] w4 (by kernel_rfl) ?_
    refine J.ret Try.f19 [.int .i64 0, .int .i64 1] Try.func19 ⟨by kernel_rfl, by kernel_rfl, trivial⟩ ?_
    refine hR _ _ ?_
    obtain ⟨eE, eX⟩ := inv1 (m := m) (y := y) (z := z) fk1
    exact ⟨by rw [tup_two, eE, eX], S4.nil⟩

theorem hb20 : HasBody Try.prog 20 := fun _ _ => by kernel_rfl
noncomputable def K20_0 : List Item := adv 2 [] (bodyOf Try.f20)
noncomputable def K20_1 : List Item := adv 6 [] (popK K20_0)
noncomputable def K20_2 : List Item := adv 2 [] (popK (popK K20_1))
noncomputable def K20_3 : List Item := adv 5 [false] K20_2
noncomputable def K20_4 : List Item := adv 2 [] (popK (popK K20_3))
noncomputable def K20_5 : List Item := adv 3 [false] K20_4
noncomputable def K20_6 : List Item := adv 3 [] (rRest K20_5)
noncomputable def K20_7 : List Item := adv 2 [] (popK K20_6)
noncomputable def K20_8 : List Item := adv 3 [] (popK K20_7)
noncomputable def K20_9 : List Item := adv 6 [true] K20_8
noncomputable def K20_10 : List Item := adv 5 [false] K20_8
noncomputable def K20_11 : List Item := adv 7 [] K20_10
noncomputable def K20_12 : List Item := adv 8 [true] K20_11
noncomputable def K20_13 : List Item := adv 4 [] (popK K20_12)
noncomputable def K20_14 : List Item := adv 2 [] (popK K20_13)
noncomputable def K20_15 : List Item := adv 3 [] (popK K20_14)
noncomputable def K20_16 : List Item := adv 4 [false] K20_15
noncomputable def K20_17 : List Item := adv 8 [false] K20_11
noncomputable def K20_18 : List Item := adv 6 [true] K20_4
noncomputable def K20_19 : List Item := adv 6 [true] K20_2
set_option maxRecDepth 20000 in
set_option maxHeartbeats 20000000 in
theorem rinverse_any (m : Mp) (y z : Int) (w : World) (hm : mpQ w m) : Ret Try.prog 20 #[.agg #[.slice m.gX_a m.gX_n m.gX_c, .slice m.gY_a m.gY_n m.gY_c, .slice m.gZ_a m.gZ_n m.gZ_c], .int .i64 y, .int .i64 z] w (fun v w' => v = .tuple #[.int .i64 (invX m y z), .int .i64 (invE m y z)] ∧ Sep w [] w') := by
  have S0 := Sep.refl w
  refine Ret.named fun R hR => ?_
  refine Ret.of_J (N := 52) [(0, .agg #[.slice m.gX_a m.gX_n m.gX_c, .slice m.gY_a m.gY_n m.gY_c, .slice m.gZ_a m.gZ_n m.gZ_c]), (1, .int .i64 y), (2, .int .i64 z)] Try.func20 rfl rfl (Nat.le_of_ble_eq_true (by kernel_rfl)) (by kernel_rfl) ?_
  obtain ⟨q1, q2, q3, q4, q5, q6, q7, q8, q9, _⟩ := id hm
  have ql1 := q2.len_eq
  have ql2 := q5.len_eq
  have ql3 := q8.len_eq
  refine J.run 2 K20_0 [(0, .agg #[.slice m.gX_a m.gX_n m.gX_c, .slice m.gY_a m.gY_n m.gY_c, .slice m.gZ_a m.gZ_n m.gZ_c]), (1, .int .i64 y), (2, .int .i64 z)] w (by kernel_rfl) ?_
  refine J.new S0 3 [.slice m.gX_a m.gX_n m.gX_c, .slice m.gY_a m.gY_n m.gY_c, .slice m.gZ_a m.gZ_n m.gZ_c] 25 (by kernel_rfl) ?_
  intro b1 w1 S1
  refine J.run 6 K20_1 [(3, .pointer (some ⟨b1, 0, none⟩)), (1, .int .i64 y), (2, .int .i64 z)] w1 (by kernel_rfl) ?_
  refine J.ok (OK.ldBox S1 0 11 25 0 (.agg #[.slice m.gX_a m.gX_n m.gX_c, .slice m.gY_a m.gY_n m.gY_c, .slice m.gZ_a m.gZ_n m.gZ_c]) (by kernel_rfl) rfl (by kernel_rfl)) ?_
  refine J.callF 12 16 #[.agg #[.slice m.gX_a m.gX_n m.gX_c, .slice m.gY_a m.gY_n m.gY_c, .slice m.gZ_a m.gZ_n m.gZ_c]] hb16 (by kernel_rfl) (rvalid_any m _ (mpQ_sep hm S1)) ?_
  rintro _ w2 ⟨rfl, T1⟩
  have S2 : Sep w [box b1 [.slice m.gX_a m.gX_n m.gX_c, .slice m.gY_a m.gY_n m.gY_c, .slice m.gZ_a m.gZ_n m.gZ_c] 25] w2 := S1.trans T1
  clear T1 S1
  refine J.run 2 K20_2 [(13, .bool (!(validM m))), (3, .pointer (some ⟨b1, 0, none⟩)), (1, .int .i64 y), (2, .int .i64 z)] w2 (by kernel_rfl) ?_
  rcases Bool.eq_false_or_eq_true (validM m) with fk1 | fk1
  · skip
    refine J.head (.bool false) (congrArg Value.bool (by rw [fk1]; rfl)) ?_
    have hv := fk1
    obtain ⟨hv1, hv2, hv3, hv4⟩ := valid_facts hv
    obtain ⟨hx1, hx2, hx3⟩ := axis_facts hv1
    obtain ⟨hy1, hy2, hy3⟩ := axis_facts hv2
    have hX : m.gX_l.length = m.gX_n := by omega
    have hY : m.gY_l.length = m.gY_n := by omega
    have vm := vm_of hv (by omega) fun i hi => row_len hm hi
    have hX0 := hx2 0 (by omega)
    have hX1 := hx2 ((m.gX_n : Int) - 1).toNat (by omega)
    have hXm := axis_mono hv1 (show 0 < ((m.gX_n : Int) - 1).toNat by omega) (by omega)
    refine J.run 5 K20_3 [(3, .pointer (some ⟨b1, 0, none⟩)), (1, .int .i64 y), (2, .int .i64 z)] w2 (by kernel_rfl) ?_
    refine J.ok (OK.ldBox S2 0 14 25 0 (.agg #[.slice m.gX_a m.gX_n m.gX_c, .slice m.gY_a m.gY_n m.gY_c, .slice m.gZ_a m.gZ_n m.gZ_c]) (by kernel_rfl) rfl (by kernel_rfl)) ?_
    refine J.callF 15 18 #[.agg #[.slice m.gX_a m.gX_n m.gX_c, .slice m.gY_a m.gY_n m.gY_c, .slice m.gZ_a m.gZ_n m.gZ_c]] hb18 (by kernel_rfl) (rrising_any m _ (mpQ_sep hm S2)) ?_
    rintro _ w3 ⟨rfl, T2⟩
    have S3 : Sep w [box b1 [.slice m.gX_a m.gX_n m.gX_c, .slice m.gY_a m.gY_n m.gY_c, .slice m.gZ_a m.gZ_n m.gZ_c] 25] w3 := S2.trans T2
    clear T2 S2
    refine J.run 2 K20_4 [(16, .bool (!(risesM m))), (3, .pointer (some ⟨b1, 0, none⟩)), (1, .int .i64 y), (2, .int .i64 z)] w3 (by kernel_rfl) ?_
    rcases Bool.eq_false_or_eq_true (risesM m) with fk2 | fk2
    · skip
      refine J.head (.bool false) (congrArg Value.bool (by rw [fk2]; rfl)) ?_
      refine J.run 3 K20_5 [(3, .pointer (some ⟨b1, 0, none⟩)), (1, .int .i64 y), (2, .int .i64 z)] w3 (by kernel_rfl) ?_
      obtain ⟨p1, hp1, hc1⟩ := q2.at 0 0 (by omega)
      have hel1 := getD_Q q3 0 (n := 0) (by have := q2.len_eq; omega)
      obtain ⟨p2, hp2, hc2⟩ := q2.at 0 ((m.gX_n : Int) - 1).toNat (by omega)
      have hel2 := getD_Q q3 0 (n := ((m.gX_n : Int) - 1).toNat) (by have := q2.len_eq; omega)
      refine J.drawStill S3 14 Try.mixed (by kernel_rfl) (by kernel_rfl) (by kernel_rfl) ?_
      intro w4 S4
      refine SL.ok (by decide) (OK.run 17 (.pointer (some ⟨b1, 0, none⟩)) (by kernel_rfl)) ?_
      refine SL.ok (by decide) (OK.ldBox S4 0 18 22 0 (.slice m.gX_a m.gX_n m.gX_c) (by kernel_rfl) rfl (by kernel_rfl)) ?_
      refine SL.ok (by decide) (OK.index 19 22 1 m.gX_a p1 m.gX_n 0 0 (p1.add 0) (by kernel_rfl) (by kernel_rfl) hp1 (by omega) (by omega) (by rw [Nat.mul_one])) ?_
      refine SL.ok (by decide) (OK.ldCell 20 3 (p1.add 0) (.int .i64 (m.gX_l.getD 0 0)) (by kernel_rfl) (by kernel_rfl) (S4.cell hc1)) ?_
      refine SL.ok (by decide) (OK.run 21 (.pointer (some ⟨b1, 0, none⟩)) (by kernel_rfl)) ?_
      refine SL.ok (by decide) (OK.ldBox S4 0 22 22 0 (.slice m.gX_a m.gX_n m.gX_c) (by kernel_rfl) rfl (by kernel_rfl)) ?_
      refine SL.ok (by decide) (OK.run 23 (.pointer (some ⟨b1, 0, none⟩)) (by kernel_rfl)) ?_
      refine SL.ok (by decide) (OK.ldBox S4 0 24 22 0 (.slice m.gX_a m.gX_n m.gX_c) (by kernel_rfl) rfl (by kernel_rfl)) ?_
      refine SL.ok (by decide) (OK.run 25 (.int .i64 (m.gX_n : Int)) (by kernel_rfl)) ?_
      refine SL.ok (by decide) (OK.run 26 (.int .i64 (IntKind.wrap .i64 ((m.gX_n : Int) - 1))) (by kernel_rfl)) ?_
      refine SL.head (.int .i64 ((m.gX_n : Int) - 1)) (congrArg (Value.int .i64) (IntWalk.i64_in _ (by omega))) ?_
      refine SL.ok (by decide) (OK.index 27 22 1 m.gX_a p2 m.gX_n ((m.gX_n : Int) - 1).toNat ((m.gX_n : Int) - 1) (p2.add ((m.gX_n : Int) - 1).toNat) (by kernel_rfl) (by kernel_rfl) hp2 (by omega) (by omega) (by rw [Nat.mul_one])) ?_
      refine SL.ok (by decide) (OK.ldCell 28 3 (p2.add ((m.gX_n : Int) - 1).toNat) (.int .i64 (m.gX_l.getD ((m.gX_n : Int) - 1).toNat 0)) (by kernel_rfl) (by kernel_rfl) (S4.cell hc2)) ?_
      refine SL.ok (by decide) (OK.run 8 (.int .i64 (m.gX_l.getD 0 0)) (by kernel_rfl)) ?_
      refine SL.ok (by decide) (OK.run 9 (.int .i64 (m.gX_l.getD ((m.gX_n : Int) - 1).toNat 0)) (by kernel_rfl)) ?_
      refine SL.done ?_
      refine TL.done (by kernel_rfl) ?_
      refine J.run 0 (rRest K20_5) [(9, .int .i64 (m.gX_l.getD ((m.gX_n : Int) - 1).toNat 0)), (8, .int .i64 (m.gX_l.getD 0 0)), (3, .pointer (some ⟨b1, 0, none⟩)), (1, .int .i64 y), (2, .int .i64 z)] w4 (by kernel_rfl) ?_
      refine J.run 3 K20_6 [(9, .int .i64 (m.gX_l.getD ((m.gX_n : Int) - 1).toNat 0)), (8, .int .i64 (m.gX_l.getD 0 0)), (3, .pointer (some ⟨b1, 0, none⟩)), (1, .int .i64 y), (2, .int .i64 z)] w4 (by kernel_rfl) ?_
      refine J.ok (OK.ldBox S4 0 29 25 0 (.agg #[.slice m.gX_a m.gX_n m.gX_c, .slice m.gY_a m.gY_n m.gY_c, .slice m.gZ_a m.gZ_n m.gZ_c]) (by kernel_rfl) rfl (by kernel_rfl)) ?_
      refine J.run 2 K20_7 [(31, .int .i64 y), (30, .int .i64 (m.gX_l.getD ((m.gX_n : Int) - 1).toNat 0)), (29, .agg #[.slice m.gX_a m.gX_n m.gX_c, .slice m.gY_a m.gY_n m.gY_c, .slice m.gZ_a m.gZ_n m.gZ_c]), (9, .int .i64 (m.gX_l.getD ((m.gX_n : Int) - 1).toNat 0)), (8, .int .i64 (m.gX_l.getD 0 0)), (3, .pointer (some ⟨b1, 0, none⟩)), (1, .int .i64 y), (2, .int .i64 z)] w4 (by kernel_rfl) ?_
      refine J.callF 32 36 #[.agg #[.slice m.gX_a m.gX_n m.gX_c, .slice m.gY_a m.gY_n m.gY_c, .slice m.gZ_a m.gZ_n m.gZ_c], .int .i64 (m.gX_l.getD ((m.gX_n : Int) - 1).toNat 0), .int .i64 y] hb36 (by kernel_rfl) (rvalue_any m (m.gX_l.getD ((m.gX_n : Int) - 1).toNat 0) y _ (mpQ_sep hm S4) hv) ?_
      rintro _ w5 ⟨rfl, T3⟩
      have S5 : Sep w [box b1 [.slice m.gX_a m.gX_n m.gX_c, .slice m.gY_a m.gY_n m.gY_c, .slice m.gZ_a m.gZ_n m.gZ_c] 25] w5 := S4.trans T3
      clear T3 S4
      refine J.run 3 K20_8 [(34, .bool (decide ((valueF m (m.gX_l.getD ((m.gX_n : Int) - 1).toNat 0) y) < z))), (9, .int .i64 (m.gX_l.getD ((m.gX_n : Int) - 1).toNat 0)), (8, .int .i64 (m.gX_l.getD 0 0)), (3, .pointer (some ⟨b1, 0, none⟩)), (1, .int .i64 y), (2, .int .i64 z)] w5 (by kernel_rfl) ?_
      by_cases fk3 : (valueF m (m.gX_l.getD ((m.gX_n : Int) - 1).toNat 0) y) < z
      · skip
        refine J.head (.bool true) (congrArg Value.bool (decide_eq_true fk3)) ?_
        refine J.run 6 K20_9 [(7, .int .i64 2), (6, .int .i64 0)] w5 (by kernel_rfl) ?_
        refine J.ret Try.f20 [.int .i64 0, .int .i64 2] Try.func20 ⟨by kernel_rfl, by kernel_rfl, trivial⟩ ?_
        refine hR _ _ ?_
        obtain ⟨eE, eX⟩ := inv3 (m := m) (y := y) (z := z) fk1 fk2 fk3
        exact ⟨by rw [tup_two, eE, eX], S5.nil⟩
      · skip
        refine J.head (.bool false) (congrArg Value.bool (decide_eq_false fk3)) ?_
        refine J.run 5 K20_10 [(9, .int .i64 (m.gX_l.getD ((m.gX_n : Int) - 1).toNat 0)), (8, .int .i64 (m.gX_l.getD 0 0)), (3, .pointer (some ⟨b1, 0, none⟩)), (1, .int .i64 y), (2, .int .i64 z)] w5 (by kernel_rfl) ?_
        have L20_1 : ∀ (mm_ : Nat) (lo : Int) (hi_ : Int) (w6 : World), (m.gX_l.getD 0 0 ≤ lo ∧ lo ≤ hi_ ∧ hi_ ≤ m.gX_l.getD ((m.gX_n : Int) - 1).toNat 0) → (lo = m.gX_l.getD 0 0 ∨ invQ m y z (lo - 1 - m.gX_l.getD 0 0) = false) → (hi_ = m.gX_l.getD ((m.gX_n : Int) - 1).toNat 0 ∨ invQ m y z (hi_ - m.gX_l.getD 0 0) = true) → Sep w [box b1 [.slice m.gX_a m.gX_n m.gX_c, .slice m.gY_a m.gY_n m.gY_c, .slice m.gZ_a m.gZ_n m.gZ_c] 25] w6 → (hi_ - lo).toNat = mm_ → J Try.prog 20 52 R K20_10 [(9, .int .i64 hi_), (8, .int .i64 lo), (3, .pointer (some ⟨b1, 0, none⟩)), (1, .int .i64 y), (2, .int .i64 z)] w6 := by
          intro mm1
          induction mm1 using Nat.strongRecOn with
          | _ mm1 ih1 =>
          intro lo hi_ w6 hb hlo hhi S6 hm1
          refine J.run 7 K20_11 [(37, .bool (decide (lo < hi_))), (9, .int .i64 hi_), (8, .int .i64 lo), (3, .pointer (some ⟨b1, 0, none⟩)), (1, .int .i64 y), (2, .int .i64 z)] w6 (by kernel_rfl) ?_
          by_cases fk4 : lo < hi_
          · skip
            refine J.head (.bool true) (congrArg Value.bool (decide_eq_true fk4)) ?_
            refine J.run 8 K20_12 [(40, .int .i64 (IntKind.wrap .i64 (lo + hi_))), (9, .int .i64 hi_), (8, .int .i64 lo), (3, .pointer (some ⟨b1, 0, none⟩)), (1, .int .i64 y), (2, .int .i64 z)] w6 (by kernel_rfl) ?_
            refine J.head (.int .i64 (lo + hi_)) (congrArg (Value.int .i64) (IntWalk.i64_in _ (by omega))) ?_
            refine J.callF 41 45 #[.int .i64 (lo + hi_), .int .i64 2] hb45 (by kernel_rfl) (rfloor_any (lo + hi_) 2 _ (by omega) (by omega)) ?_
            rintro _ w7 ⟨rfl, T4⟩
            have S7 : Sep w [box b1 [.slice m.gX_a m.gX_n m.gX_c, .slice m.gY_a m.gY_n m.gY_c, .slice m.gZ_a m.gZ_n m.gZ_c] 25] w7 := S6.trans T4
            clear T4 S6
            obtain ⟨mid, hmid⟩ : ∃ x : Int, x = (lo + hi_) / 2 := ⟨_, rfl⟩
            refine J.head (.int .i64 mid) (congrArg (Value.int .i64) hmid.symm) ?_
            refine J.run 4 K20_13 [(10, .int .i64 mid), (9, .int .i64 hi_), (8, .int .i64 lo), (3, .pointer (some ⟨b1, 0, none⟩)), (1, .int .i64 y), (2, .int .i64 z)] w7 (by kernel_rfl) ?_
            refine J.ok (OK.ldBox S7 0 42 25 0 (.agg #[.slice m.gX_a m.gX_n m.gX_c, .slice m.gY_a m.gY_n m.gY_c, .slice m.gZ_a m.gZ_n m.gZ_c]) (by kernel_rfl) rfl (by kernel_rfl)) ?_
            refine J.run 2 K20_14 [(44, .int .i64 y), (43, .int .i64 mid), (42, .agg #[.slice m.gX_a m.gX_n m.gX_c, .slice m.gY_a m.gY_n m.gY_c, .slice m.gZ_a m.gZ_n m.gZ_c]), (10, .int .i64 mid), (9, .int .i64 hi_), (8, .int .i64 lo), (3, .pointer (some ⟨b1, 0, none⟩)), (1, .int .i64 y), (2, .int .i64 z)] w7 (by kernel_rfl) ?_
            refine J.callF 45 36 #[.agg #[.slice m.gX_a m.gX_n m.gX_c, .slice m.gY_a m.gY_n m.gY_c, .slice m.gZ_a m.gZ_n m.gZ_c], .int .i64 mid, .int .i64 y] hb36 (by kernel_rfl) (rvalue_any m mid y _ (mpQ_sep hm S7) hv) ?_
            rintro _ w8 ⟨rfl, T5⟩
            have S8 : Sep w [box b1 [.slice m.gX_a m.gX_n m.gX_c, .slice m.gY_a m.gY_n m.gY_c, .slice m.gZ_a m.gZ_n m.gZ_c] 25] w8 := S7.trans T5
            clear T5 S7
            refine J.run 3 K20_15 [(47, .bool (decide ((valueF m mid y) ≥ z))), (10, .int .i64 mid), (9, .int .i64 hi_), (8, .int .i64 lo), (3, .pointer (some ⟨b1, 0, none⟩)), (1, .int .i64 y), (2, .int .i64 z)] w8 (by kernel_rfl) ?_
            by_cases fk5 : (valueF m mid y) ≥ z
            · skip
              refine J.head (.bool true) (congrArg Value.bool (decide_eq_true fk5)) ?_
              refine J.run 7 K20_10 [(9, .int .i64 mid), (8, .int .i64 lo), (3, .pointer (some ⟨b1, 0, none⟩)), (1, .int .i64 y), (2, .int .i64 z)] w8 (by kernel_rfl) ?_
              refine J.run 0 K20_10 [(9, .int .i64 mid), (8, .int .i64 lo), (3, .pointer (some ⟨b1, 0, none⟩)), (1, .int .i64 y), (2, .int .i64 z)] w8 (by kernel_rfl) ?_
              exact ih1 _ (show (mid - lo).toNat < mm1 from by omega) lo mid w8 (by omega) (hlo) (.inr (by unfold invQ; rw [show m.gX_l.getD 0 0 + (mid - m.gX_l.getD 0 0) = mid by omega]; exact decide_eq_true fk5)) S8 rfl
            · skip
              refine J.head (.bool false) (congrArg Value.bool (decide_eq_false fk5)) ?_
              refine J.run 4 K20_16 [(50, .int .i64 (IntKind.wrap .i64 (mid + 1))), (9, .int .i64 hi_), (3, .pointer (some ⟨b1, 0, none⟩)), (1, .int .i64 y), (2, .int .i64 z)] w8 (by kernel_rfl) ?_
              refine J.head (.int .i64 (mid + 1)) (congrArg (Value.int .i64) (IntWalk.i64_in _ (by omega))) ?_
              refine J.run 4 K20_10 [(8, .int .i64 (mid + 1)), (9, .int .i64 hi_), (3, .pointer (some ⟨b1, 0, none⟩)), (1, .int .i64 y), (2, .int .i64 z)] w8 (by kernel_rfl) ?_
              refine J.run 0 K20_10 [(9, .int .i64 hi_), (8, .int .i64 (mid + 1)), (3, .pointer (some ⟨b1, 0, none⟩)), (1, .int .i64 y), (2, .int .i64 z)] w8 (by kernel_rfl) ?_
              exact ih1 _ (show (hi_ - (mid + 1)).toNat < mm1 from by omega) (mid + 1) hi_ w8 (by omega) (.inr (by unfold invQ; rw [show m.gX_l.getD 0 0 + (mid + 1 - 1 - m.gX_l.getD 0 0) = mid by omega]; exact decide_eq_false fk5)) (hhi) S8 rfl
          · skip
            refine J.head (.bool false) (congrArg Value.bool (decide_eq_false fk4)) ?_
            refine J.run 8 K20_17 [(7, .int .i64 0), (6, .int .i64 hi_)] w6 (by kernel_rfl) ?_
            refine J.ret Try.f20 [.int .i64 hi_, .int .i64 0] Try.func20 ⟨by kernel_rfl, by kernel_rfl, trivial⟩ ?_
            refine hR _ _ ?_
            obtain ⟨eE, eX⟩ := inv4 (m := m) (y := y) (z := z) (x := hi_) (r := hi_ - m.gX_l.getD 0 0) hX hY fk1 fk2 fk3 (by omega) ⟨by omega, by unfold invN; omega⟩ (by rcases hlo with h_ | h_; exact .inl (by omega); exact .inr (by rw [show hi_ - m.gX_l.getD 0 0 - 1 = lo - 1 - m.gX_l.getD 0 0 by omega]; exact h_)) (by rcases hhi with h_ | h_; exact .inl (by unfold invN; omega); exact .inr h_)
            exact ⟨by rw [tup_two, eE, eX], S6.nil⟩
        exact L20_1 _ (m.gX_l.getD 0 0) (m.gX_l.getD ((m.gX_n : Int) - 1).toNat 0) w5 (by omega) (.inl rfl) (.inl rfl) S5 rfl
    · skip
      refine J.head (.bool true) (congrArg Value.bool (by rw [fk2]; rfl)) ?_
      refine J.run 6 K20_18 [(7, .int .i64 6), (6, .int .i64 0)] w3 (by kernel_rfl) ?_
      refine J.ret Try.f20 [.int .i64 0, .int .i64 6] Try.func20 ⟨by kernel_rfl, by kernel_rfl, trivial⟩ ?_
      refine hR _ _ ?_
      obtain ⟨eE, eX⟩ := inv2 (m := m) (y := y) (z := z) fk1 fk2
      exact ⟨by rw [tup_two, eE, eX], S3.nil⟩
  · skip
    refine J.head (.bool true) (congrArg Value.bool (by rw [fk1]; rfl)) ?_
    refine J.run 6 K20_19 [(7, .int .i64 1), (6, .int .i64 0)] w2 (by kernel_rfl) ?_
    refine J.ret Try.f20 [.int .i64 0, .int .i64 1] Try.func20 ⟨by kernel_rfl, by kernel_rfl, trivial⟩ ?_
    refine hR _ _ ?_
    obtain ⟨eE, eX⟩ := inv1 (m := m) (y := y) (z := z) fk1
    exact ⟨by rw [tup_two, eE, eX], S2.nil⟩

theorem hb5 : HasBody Try.prog 5 := fun _ _ => by kernel_rfl
noncomputable def K5_0 : List Item := adv 2 [] (bodyOf Try.f5)
noncomputable def K5_1 : List Item := adv 5 [] (popK K5_0)
noncomputable def K5_2 : List Item := adv 7 [false] (popK K5_1)
noncomputable def K5_3 : List Item := adv 2 [] (popK (popK K5_2))
noncomputable def K5_4 : List Item := adv 4 [false] K5_3
noncomputable def K5_5 : List Item := adv 2 [] (popK K5_4)
noncomputable def K5_6 : List Item := adv 8 [] (popK K5_5)
noncomputable def K5_7 : List Item := adv 2 [] (popK K5_6)
noncomputable def K5_8 : List Item := adv 11 [] (popK K5_7)
noncomputable def K5_9 : List Item := adv 4 [] K5_8
noncomputable def K5_10 : List Item := adv 3 [] K5_9
noncomputable def K5_11 : List Item := adv 5 [true] K5_3
set_option maxRecDepth 20000 in
set_option maxHeartbeats 20000000 in
theorem lawinverse_any (m : Mp) (y z : Int) (w : World) (hm : mpQ w m) : Ret Try.prog 5 #[.agg #[.slice m.gX_a m.gX_n m.gX_c, .slice m.gY_a m.gY_n m.gY_c, .slice m.gZ_a m.gZ_n m.gZ_c], .int .i64 y, .int .i64 z] w (fun v w' => v = .bool true ∧ Sep w [] w') := by
  have S0 := Sep.refl w
  refine Ret.named fun R hR => ?_
  refine Ret.of_J (N := 38) [(0, .agg #[.slice m.gX_a m.gX_n m.gX_c, .slice m.gY_a m.gY_n m.gY_c, .slice m.gZ_a m.gZ_n m.gZ_c]), (1, .int .i64 y), (2, .int .i64 z)] Try.func5 rfl rfl (Nat.le_of_ble_eq_true (by kernel_rfl)) (by kernel_rfl) ?_
  obtain ⟨q1, q2, q3, q4, q5, q6, q7, q8, q9, _⟩ := id hm
  have ql1 := q2.len_eq
  have ql2 := q5.len_eq
  have ql3 := q8.len_eq
  refine J.run 2 K5_0 [(0, .agg #[.slice m.gX_a m.gX_n m.gX_c, .slice m.gY_a m.gY_n m.gY_c, .slice m.gZ_a m.gZ_n m.gZ_c]), (1, .int .i64 y), (2, .int .i64 z)] w (by kernel_rfl) ?_
  refine J.new S0 3 [.slice m.gX_a m.gX_n m.gX_c, .slice m.gY_a m.gY_n m.gY_c, .slice m.gZ_a m.gZ_n m.gZ_c] 25 (by kernel_rfl) ?_
  intro b1 w1 S1
  refine J.run 5 K5_1 [(3, .pointer (some ⟨b1, 0, none⟩)), (1, .int .i64 y), (2, .int .i64 z)] w1 (by kernel_rfl) ?_
  refine J.callF 11 11 #[] hb11 (by kernel_rfl) (awake_any  _) ?_
  rintro _ w2 ⟨rfl, T1⟩
  have S2 : Sep w [box b1 [.slice m.gX_a m.gX_n m.gX_c, .slice m.gY_a m.gY_n m.gY_c, .slice m.gZ_a m.gZ_n m.gZ_c] 25] w2 := S1.trans T1
  clear T1 S1
  refine J.run 7 K5_2 [(3, .pointer (some ⟨b1, 0, none⟩)), (1, .int .i64 y), (2, .int .i64 z)] w2 (by kernel_rfl) ?_
  refine J.ok (OK.ldBox S2 0 13 25 0 (.agg #[.slice m.gX_a m.gX_n m.gX_c, .slice m.gY_a m.gY_n m.gY_c, .slice m.gZ_a m.gZ_n m.gZ_c]) (by kernel_rfl) rfl (by kernel_rfl)) ?_
  refine J.callF 14 12 #[.agg #[.slice m.gX_a m.gX_n m.gX_c, .slice m.gY_a m.gY_n m.gY_c, .slice m.gZ_a m.gZ_n m.gZ_c]] hb12 (by kernel_rfl) (few_any m _ (mpQ_sep hm S2)) ?_
  rintro _ w3 ⟨rfl, T2⟩
  have S3 : Sep w [box b1 [.slice m.gX_a m.gX_n m.gX_c, .slice m.gY_a m.gY_n m.gY_c, .slice m.gZ_a m.gZ_n m.gZ_c] 25] w3 := S2.trans T2
  clear T2 S2
  refine J.run 2 K5_3 [(15, .bool (!(fewB m))), (3, .pointer (some ⟨b1, 0, none⟩)), (1, .int .i64 y), (2, .int .i64 z)] w3 (by kernel_rfl) ?_
  rcases Bool.eq_false_or_eq_true (fewB m) with fk1 | fk1
  · skip
    refine J.head (.bool false) (congrArg Value.bool (by rw [fk1]; rfl)) ?_
    refine J.run 4 K5_4 [(3, .pointer (some ⟨b1, 0, none⟩)), (1, .int .i64 y), (2, .int .i64 z)] w3 (by kernel_rfl) ?_
    refine J.ok (OK.ldBox S3 0 17 25 0 (.agg #[.slice m.gX_a m.gX_n m.gX_c, .slice m.gY_a m.gY_n m.gY_c, .slice m.gZ_a m.gZ_n m.gZ_c]) (by kernel_rfl) rfl (by kernel_rfl)) ?_
    refine J.run 2 K5_5 [(19, .int .i64 z), (18, .int .i64 y), (17, .agg #[.slice m.gX_a m.gX_n m.gX_c, .slice m.gY_a m.gY_n m.gY_c, .slice m.gZ_a m.gZ_n m.gZ_c]), (3, .pointer (some ⟨b1, 0, none⟩)), (1, .int .i64 y), (2, .int .i64 z)] w3 (by kernel_rfl) ?_
    refine J.callF 20 19 #[.agg #[.slice m.gX_a m.gX_n m.gX_c, .slice m.gY_a m.gY_n m.gY_c, .slice m.gZ_a m.gZ_n m.gZ_c], .int .i64 y, .int .i64 z] hb19 (by kernel_rfl) (inverse_any m y z _ (mpQ_sep hm S3)) ?_
    rintro _ w4 ⟨rfl, T3⟩
    have S4 : Sep w [box b1 [.slice m.gX_a m.gX_n m.gX_c, .slice m.gY_a m.gY_n m.gY_c, .slice m.gZ_a m.gZ_n m.gZ_c] 25] w4 := S3.trans T3
    clear T3 S3
    refine J.run 8 K5_6 [(8, .int .i64 (invE m y z)), (7, .int .i64 (invX m y z)), (3, .pointer (some ⟨b1, 0, none⟩)), (1, .int .i64 y), (2, .int .i64 z)] w4 (by kernel_rfl) ?_
    refine J.ok (OK.ldBox S4 0 24 25 0 (.agg #[.slice m.gX_a m.gX_n m.gX_c, .slice m.gY_a m.gY_n m.gY_c, .slice m.gZ_a m.gZ_n m.gZ_c]) (by kernel_rfl) rfl (by kernel_rfl)) ?_
    refine J.run 2 K5_7 [(26, .int .i64 z), (25, .int .i64 y), (24, .agg #[.slice m.gX_a m.gX_n m.gX_c, .slice m.gY_a m.gY_n m.gY_c, .slice m.gZ_a m.gZ_n m.gZ_c]), (8, .int .i64 (invE m y z)), (7, .int .i64 (invX m y z))] w4 (by kernel_rfl) ?_
    refine J.callF 27 20 #[.agg #[.slice m.gX_a m.gX_n m.gX_c, .slice m.gY_a m.gY_n m.gY_c, .slice m.gZ_a m.gZ_n m.gZ_c], .int .i64 y, .int .i64 z] hb20 (by kernel_rfl) (rinverse_any m y z _ (mpQ_sep hm S4)) ?_
    rintro _ w5 ⟨rfl, T4⟩
    have S5 : Sep w [box b1 [.slice m.gX_a m.gX_n m.gX_c, .slice m.gY_a m.gY_n m.gY_c, .slice m.gZ_a m.gZ_n m.gZ_c] 25] w5 := S4.trans T4
    clear T4 S4
    refine J.run 11 K5_8 [(32, .bool ((invX m y z) == (invX m y z))), (10, .int .i64 (invE m y z)), (8, .int .i64 (invE m y z))] w5 (by kernel_rfl) ?_
    refine J.head (.bool true) (congrArg Value.bool (by simp)) ?_
    refine J.run 4 K5_9 [(36, .bool ((invE m y z) == (invE m y z))), (33, .bool true)] w5 (by kernel_rfl) ?_
    refine J.head (.bool true) (congrArg Value.bool (by simp)) ?_
    refine J.run 3 K5_10 [(6, .bool true)] w5 (by kernel_rfl) ?_
    refine J.ret Try.f5 [.bool true] Try.func5 ⟨by kernel_rfl, trivial⟩ ?_
    refine hR _ _ ?_
    exact ⟨rfl, S5.nil⟩
  · skip
    refine J.head (.bool true) (congrArg Value.bool (by rw [fk1]; rfl)) ?_
    refine J.run 5 K5_11 [(6, .bool true)] w3 (by kernel_rfl) ?_
    refine J.ret Try.f5 [.bool true] Try.func5 ⟨by kernel_rfl, trivial⟩ ?_
    refine hR _ _ ?_
    exact ⟨rfl, S3.nil⟩

theorem hb6 : HasBody Try.prog 6 := fun _ _ => by kernel_rfl
noncomputable def K6_0 : List Item := adv 2 [] (bodyOf Try.f6)
noncomputable def K6_1 : List Item := adv 5 [] (popK K6_0)
noncomputable def K6_2 : List Item := adv 7 [false] (popK K6_1)
noncomputable def K6_3 : List Item := adv 2 [] (popK (popK K6_2))
noncomputable def K6_4 : List Item := adv 3 [] (popK (popK K6_3))
noncomputable def K6_5 : List Item := adv 4 [false] K6_4
noncomputable def K6_6 : List Item := adv 3 [false] (rRest K6_5)
noncomputable def K6_7 : List Item := adv 2 [] (rRest K6_6)
noncomputable def K6_8 : List Item := adv 2 [] (popK K6_7)
noncomputable def K6_9 : List Item := adv 12 [] (popK K6_8)
noncomputable def K6_10 : List Item := adv 8 [false] K6_9
noncomputable def K6_11 : List Item := adv 5 [] K6_10
noncomputable def K6_12 : List Item := adv 2 [] (popK K6_11)
noncomputable def K6_13 : List Item := adv 4 [] (popK K6_12)
noncomputable def K6_14 : List Item := adv 4 [] K6_13
noncomputable def K6_15 : List Item := adv 11 [] K6_14
noncomputable def K6_16 : List Item := adv 2 [] (popK K6_14)
noncomputable def K6_17 : List Item := adv 1 [] K6_16
noncomputable def K6_18 : List Item := adv 6 [] (popK K6_17)
noncomputable def K6_19 : List Item := adv 6 [true] K6_9
noncomputable def K6_20 : List Item := adv 2 [] (popK K6_19)
noncomputable def K6_21 : List Item := adv 5 [] (popK K6_20)
noncomputable def K6_22 : List Item := adv 3 [false] (rRest K6_5)
noncomputable def K6_23 : List Item := adv 2 [] (rRest K6_22)
noncomputable def K6_24 : List Item := adv 2 [] (popK K6_23)
noncomputable def K6_25 : List Item := adv 12 [] (popK K6_24)
noncomputable def K6_26 : List Item := adv 8 [false] K6_25
noncomputable def K6_27 : List Item := adv 5 [] K6_26
noncomputable def K6_28 : List Item := adv 2 [] (popK K6_27)
noncomputable def K6_29 : List Item := adv 4 [] (popK K6_28)
noncomputable def K6_30 : List Item := adv 4 [] K6_29
noncomputable def K6_31 : List Item := adv 11 [] K6_30
noncomputable def K6_32 : List Item := adv 2 [] (popK K6_30)
noncomputable def K6_33 : List Item := adv 1 [] K6_32
noncomputable def K6_34 : List Item := adv 6 [] (popK K6_33)
noncomputable def K6_35 : List Item := adv 6 [true] K6_25
noncomputable def K6_36 : List Item := adv 2 [] (popK K6_35)
noncomputable def K6_37 : List Item := adv 5 [] (popK K6_36)
noncomputable def K6_38 : List Item := adv 5 [true] K6_4
noncomputable def K6_39 : List Item := adv 10 [true] K6_3
set_option maxRecDepth 20000 in
set_option maxHeartbeats 20000000 in
theorem lawmonotone_any (m : Mp) (x y z k : Int) (w : World) (hm : mpQ w m) (hx_ : -9223372036854775808 ≤ x ∧ x ≤ 9223372036854775807) (hk_ : 0 ≤ k ∧ k ≤ 65535) : Ret Try.prog 6 #[.agg #[.slice m.gX_a m.gX_n m.gX_c, .slice m.gY_a m.gY_n m.gY_c, .slice m.gZ_a m.gZ_n m.gZ_c], .int .i64 x, .int .i64 y, .int .i64 z, .int .u16 k] w (fun v w' => v = .bool true ∧ Sep w [] w') := by
  have S0 := Sep.refl w
  refine Ret.named fun R hR => ?_
  refine Ret.of_J (N := 102) [(0, .agg #[.slice m.gX_a m.gX_n m.gX_c, .slice m.gY_a m.gY_n m.gY_c, .slice m.gZ_a m.gZ_n m.gZ_c]), (1, .int .i64 x), (2, .int .i64 y), (3, .int .i64 z), (4, .int .u16 k)] Try.func6 rfl rfl (Nat.le_of_ble_eq_true (by kernel_rfl)) (by kernel_rfl) ?_
  obtain ⟨q1, q2, q3, q4, q5, q6, q7, q8, q9, _⟩ := id hm
  have ql1 := q2.len_eq
  have ql2 := q5.len_eq
  have ql3 := q8.len_eq
  refine J.run 2 K6_0 [(0, .agg #[.slice m.gX_a m.gX_n m.gX_c, .slice m.gY_a m.gY_n m.gY_c, .slice m.gZ_a m.gZ_n m.gZ_c]), (1, .int .i64 x), (2, .int .i64 y), (3, .int .i64 z), (4, .int .u16 k)] w (by kernel_rfl) ?_
  refine J.new S0 5 [.slice m.gX_a m.gX_n m.gX_c, .slice m.gY_a m.gY_n m.gY_c, .slice m.gZ_a m.gZ_n m.gZ_c] 25 (by kernel_rfl) ?_
  intro b1 w1 S1
  refine J.run 5 K6_1 [(5, .pointer (some ⟨b1, 0, none⟩)), (1, .int .i64 x), (2, .int .i64 y), (3, .int .i64 z), (4, .int .u16 k)] w1 (by kernel_rfl) ?_
  refine J.callF 15 11 #[] hb11 (by kernel_rfl) (awake_any  _) ?_
  rintro _ w2 ⟨rfl, T1⟩
  have S2 : Sep w [box b1 [.slice m.gX_a m.gX_n m.gX_c, .slice m.gY_a m.gY_n m.gY_c, .slice m.gZ_a m.gZ_n m.gZ_c] 25] w2 := S1.trans T1
  clear T1 S1
  refine J.run 7 K6_2 [(5, .pointer (some ⟨b1, 0, none⟩)), (1, .int .i64 x), (2, .int .i64 y), (3, .int .i64 z), (4, .int .u16 k)] w2 (by kernel_rfl) ?_
  refine J.ok (OK.ldBox S2 0 17 25 0 (.agg #[.slice m.gX_a m.gX_n m.gX_c, .slice m.gY_a m.gY_n m.gY_c, .slice m.gZ_a m.gZ_n m.gZ_c]) (by kernel_rfl) rfl (by kernel_rfl)) ?_
  refine J.callF 18 12 #[.agg #[.slice m.gX_a m.gX_n m.gX_c, .slice m.gY_a m.gY_n m.gY_c, .slice m.gZ_a m.gZ_n m.gZ_c]] hb12 (by kernel_rfl) (few_any m _ (mpQ_sep hm S2)) ?_
  rintro _ w3 ⟨rfl, T2⟩
  have S3 : Sep w [box b1 [.slice m.gX_a m.gX_n m.gX_c, .slice m.gY_a m.gY_n m.gY_c, .slice m.gZ_a m.gZ_n m.gZ_c] 25] w3 := S2.trans T2
  clear T2 S2
  refine J.run 2 K6_3 [(20, .bool (!(fewB m))), (5, .pointer (some ⟨b1, 0, none⟩)), (1, .int .i64 x), (2, .int .i64 y), (3, .int .i64 z), (4, .int .u16 k)] w3 (by kernel_rfl) ?_
  rcases Bool.eq_false_or_eq_true (fewB m) with fk1 | fk1
  · skip
    refine J.head (.bool false) (congrArg Value.bool (by rw [fk1]; rfl)) ?_
    refine J.ok (OK.ldBox S3 0 21 25 0 (.agg #[.slice m.gX_a m.gX_n m.gX_c, .slice m.gY_a m.gY_n m.gY_c, .slice m.gZ_a m.gZ_n m.gZ_c]) (by kernel_rfl) rfl (by kernel_rfl)) ?_
    refine J.callF 22 17 #[.agg #[.slice m.gX_a m.gX_n m.gX_c, .slice m.gY_a m.gY_n m.gY_c, .slice m.gZ_a m.gZ_n m.gZ_c]] hb17 (by kernel_rfl) (rising_any m _ (mpQ_sep hm S3)) ?_
    rintro _ w4 ⟨rfl, T3⟩
    have S4 : Sep w [box b1 [.slice m.gX_a m.gX_n m.gX_c, .slice m.gY_a m.gY_n m.gY_c, .slice m.gZ_a m.gZ_n m.gZ_c] 25] w4 := S3.trans T3
    clear T3 S3
    refine J.run 3 K6_4 [(24, .bool (!(risesM m))), (5, .pointer (some ⟨b1, 0, none⟩)), (1, .int .i64 x), (2, .int .i64 y), (3, .int .i64 z), (4, .int .u16 k)] w4 (by kernel_rfl) ?_
    rcases Bool.eq_false_or_eq_true (risesM m) with fk2 | fk2
    · skip
      refine J.head (.bool false) (congrArg Value.bool (by rw [fk2]; rfl)) ?_
      have hr := fk2
      have hv := (rises_facts hr).1
      obtain ⟨hv1, hv2, hv3, hv4⟩ := valid_facts hv
      obtain ⟨hx1, hx2, hx3⟩ := axis_facts hv1
      obtain ⟨hy1, hy2, hy3⟩ := axis_facts hv2
      have hX : m.gX_l.length = m.gX_n := by omega
      have hY : m.gY_l.length = m.gY_n := by omega
      obtain ⟨hI1, hI2, hI3⟩ := inv_cases hX hr y z
      have hX0 := hx2 0 (by omega)
      refine J.run 4 K6_5 [(5, .pointer (some ⟨b1, 0, none⟩)), (1, .int .i64 x), (2, .int .i64 y), (3, .int .i64 z), (4, .int .u16 k)] w4 (by kernel_rfl) ?_
      by_cases fk3 : x < 1099511627776
      · skip
        refine J.drawPlan (fun w_ => Sep w [box b1 [.slice m.gX_a m.gX_n m.gX_c, .slice m.gY_a m.gY_n m.gY_c, .slice m.gZ_a m.gZ_n m.gZ_c] 25] w_) [(0, true), (1, true), (2, true), (3, true), (4, true), (5, true), (7, true), (8, true), (9, true), (10, true), (11, true), (12, true), (6, false), (13, false), (14, true), (15, true)] S4 Try.mixed (by kernel_rfl) (planOK_of (T := [(0, some 25, 2), (1, some 26, 33554432), (2, some 27, 67108864), (4, some 28, 134217760), (4, some 29, 134217730), (4, some 30, 134217732), (60, some 31, 2013265920), (4, some 32, 134217760), (4, some 33, 134217730), (4, some 34, 134217744), (516, some 35, 17314086912), (1284, some 36, 43083890688), (4, some 37, 134217732), (6340, some 38, 210587615232), (8260, some 39, 277159608320), (16388, some 40, 549890031616)]) (by kernel_rfl) (by kernel_rfl)) ?_
        intro w5 S5
        refine PB.mk (S5.sub (.cons_cons _ (.slnil))) ?_
        refine PL.take 0 25 (.int .i64 x) (fun _ _ => by kernel_rfl) ?_
        refine PL.take 1 26 (.bool (decide (x < 1099511627776))) (fun _ _ => by kernel_rfl) ?_
        refine PL.head (.bool true) (congrArg Value.bool (decide_eq_true fk3)) ?_
        refine PL.take 2 27 (.bool true) (fun _ _ => by kernel_rfl) ?_
        refine PL.takeOK 3 (fun w_ S_ => OK.ldBox S_ 0 28 25 0 (.agg #[.slice m.gX_a m.gX_n m.gX_c, .slice m.gY_a m.gY_n m.gY_c, .slice m.gZ_a m.gZ_n m.gZ_c]) (by kernel_rfl) rfl (by kernel_rfl)) rfl ?_
        refine PL.take 4 29 (.int .i64 x) (fun _ _ => by kernel_rfl) ?_
        refine PL.take 5 30 (.int .i64 y) (fun _ _ => by kernel_rfl) ?_
        refine PL.takeOK 7 (fun w_ S_ => OK.ldBox S_ 0 32 25 0 (.agg #[.slice m.gX_a m.gX_n m.gX_c, .slice m.gY_a m.gY_n m.gY_c, .slice m.gZ_a m.gZ_n m.gZ_c]) (by kernel_rfl) rfl (by kernel_rfl)) rfl ?_
        refine PL.take 8 33 (.int .i64 x) (fun _ _ => by kernel_rfl) ?_
        refine PL.take 9 34 (.int .u16 k) (fun _ _ => by kernel_rfl) ?_
        refine PL.take 10 35 (.int .i64 (IntKind.wrap .i64 k)) (fun _ _ => by kernel_rfl) ?_
        refine PL.head (.int .i64 k) (congrArg (Value.int .i64) (IntWalk.i64_in _ (by omega))) ?_
        refine PL.take 11 36 (.int .i64 (IntKind.wrap .i64 (x + k))) (fun _ _ => by kernel_rfl) ?_
        refine PL.head (.int .i64 (x + k)) (congrArg (Value.int .i64) (IntWalk.i64_in _ (by omega))) ?_
        refine PL.take 12 37 (.int .i64 y) (fun _ _ => by kernel_rfl) ?_
        refine PL.callF 31 13 #[.agg #[.slice m.gX_a m.gX_n m.gX_c, .slice m.gY_a m.gY_n m.gY_c, .slice m.gZ_a m.gZ_n m.gZ_c], .int .i64 x, .int .i64 y] hb13 (by kernel_rfl) (At_any m x y _ (mpQ_sep hm S5)) ?_
        rintro _ w6 ⟨rfl, T4⟩
        have S6 : Sep w [box b1 [.slice m.gX_a m.gX_n m.gX_c, .slice m.gY_a m.gY_n m.gY_c, .slice m.gZ_a m.gZ_n m.gZ_c] 25] w6 := S5.trans T4
        clear T4 S5
        refine PB.mk (S6.sub (.cons_cons _ (.slnil))) ?_
        refine PL.callF 38 13 #[.agg #[.slice m.gX_a m.gX_n m.gX_c, .slice m.gY_a m.gY_n m.gY_c, .slice m.gZ_a m.gZ_n m.gZ_c], .int .i64 (x + k), .int .i64 y] hb13 (by kernel_rfl) (At_any m (x + k) y _ (mpQ_sep hm S6)) ?_
        rintro _ w7 ⟨rfl, T5⟩
        have S7 : Sep w [box b1 [.slice m.gX_a m.gX_n m.gX_c, .slice m.gY_a m.gY_n m.gY_c, .slice m.gZ_a m.gZ_n m.gZ_c] 25] w7 := S6.trans T5
        clear T5 S6
        refine PB.mk (S7.sub (.cons_cons _ (.slnil))) ?_
        refine PL.take 14 39 (.bool (decide ((atF m x y) > (atF m (x + k) y)))) (fun _ _ => by kernel_rfl) ?_
        refine PL.take 15 40 (.bool (decide ((atF m x y) > (atF m (x + k) y)))) (fun _ _ => by kernel_rfl) ?_
        refine PL.done ?_
        refine J.run 0 (rRest K6_5) [(40, .bool (decide ((atF m x y) > (atF m (x + k) y)))), (5, .pointer (some ⟨b1, 0, none⟩)), (2, .int .i64 y), (3, .int .i64 z)] w7 (by kernel_rfl) ?_
        have fk5 : ¬ ((atF m x y) > (atF m (x + k) y)) := by rw [atF_valid hv, atF_valid hv]; have := value_mono hX hY hr y (show x ≤ x + k by omega); omega
        refine J.head (.bool false) (congrArg Value.bool (decide_eq_false fk5)) ?_
        refine J.run 3 K6_6 [(5, .pointer (some ⟨b1, 0, none⟩)), (2, .int .i64 y), (3, .int .i64 z)] w7 (by kernel_rfl) ?_
        obtain ⟨p1, hp1, hc1⟩ := q2.at 0 0 (by omega)
        have hel1 := getD_Q q3 0 (n := 0) (by have := q2.len_eq; omega)
        obtain ⟨p2, hp2, hc2⟩ := q2.at 0 ((m.gX_n : Int) - 1).toNat (by omega)
        have hel2 := getD_Q q3 0 (n := ((m.gX_n : Int) - 1).toNat) (by have := q2.len_eq; omega)
        refine J.drawStill S7 14 Try.mixed (by kernel_rfl) (by kernel_rfl) (by kernel_rfl) ?_
        intro w8 S8
        refine SL.ok (by decide) (OK.run 41 (.pointer (some ⟨b1, 0, none⟩)) (by kernel_rfl)) ?_
        refine SL.ok (by decide) (OK.ldBox S8 0 42 22 0 (.slice m.gX_a m.gX_n m.gX_c) (by kernel_rfl) rfl (by kernel_rfl)) ?_
        refine SL.ok (by decide) (OK.index 43 22 1 m.gX_a p1 m.gX_n 0 0 (p1.add 0) (by kernel_rfl) (by kernel_rfl) hp1 (by omega) (by omega) (by rw [Nat.mul_one])) ?_
        refine SL.ok (by decide) (OK.ldCell 44 3 (p1.add 0) (.int .i64 (m.gX_l.getD 0 0)) (by kernel_rfl) (by kernel_rfl) (S8.cell hc1)) ?_
        refine SL.ok (by decide) (OK.run 45 (.pointer (some ⟨b1, 0, none⟩)) (by kernel_rfl)) ?_
        refine SL.ok (by decide) (OK.ldBox S8 0 46 22 0 (.slice m.gX_a m.gX_n m.gX_c) (by kernel_rfl) rfl (by kernel_rfl)) ?_
        refine SL.ok (by decide) (OK.run 47 (.pointer (some ⟨b1, 0, none⟩)) (by kernel_rfl)) ?_
        refine SL.ok (by decide) (OK.ldBox S8 0 48 22 0 (.slice m.gX_a m.gX_n m.gX_c) (by kernel_rfl) rfl (by kernel_rfl)) ?_
        refine SL.ok (by decide) (OK.run 49 (.int .i64 (m.gX_n : Int)) (by kernel_rfl)) ?_
        refine SL.ok (by decide) (OK.run 50 (.int .i64 (IntKind.wrap .i64 ((m.gX_n : Int) - 1))) (by kernel_rfl)) ?_
        refine SL.head (.int .i64 ((m.gX_n : Int) - 1)) (congrArg (Value.int .i64) (IntWalk.i64_in _ (by omega))) ?_
        refine SL.ok (by decide) (OK.index 51 22 1 m.gX_a p2 m.gX_n ((m.gX_n : Int) - 1).toNat ((m.gX_n : Int) - 1) (p2.add ((m.gX_n : Int) - 1).toNat) (by kernel_rfl) (by kernel_rfl) hp2 (by omega) (by omega) (by rw [Nat.mul_one])) ?_
        refine SL.ok (by decide) (OK.ldCell 52 3 (p2.add ((m.gX_n : Int) - 1).toNat) (.int .i64 (m.gX_l.getD ((m.gX_n : Int) - 1).toNat 0)) (by kernel_rfl) (by kernel_rfl) (S8.cell hc2)) ?_
        refine SL.ok (by decide) (OK.run 11 (.int .i64 (m.gX_l.getD 0 0)) (by kernel_rfl)) ?_
        refine SL.ok (by decide) (OK.run 12 (.int .i64 (m.gX_l.getD ((m.gX_n : Int) - 1).toNat 0)) (by kernel_rfl)) ?_
        refine SL.done ?_
        refine TL.done (by kernel_rfl) ?_
        refine J.run 0 (rRest K6_6) [(12, .int .i64 (m.gX_l.getD ((m.gX_n : Int) - 1).toNat 0)), (11, .int .i64 (m.gX_l.getD 0 0)), (5, .pointer (some ⟨b1, 0, none⟩)), (2, .int .i64 y), (3, .int .i64 z)] w8 (by kernel_rfl) ?_
        refine J.run 2 K6_7 [(12, .int .i64 (m.gX_l.getD ((m.gX_n : Int) - 1).toNat 0)), (11, .int .i64 (m.gX_l.getD 0 0)), (5, .pointer (some ⟨b1, 0, none⟩)), (2, .int .i64 y), (3, .int .i64 z)] w8 (by kernel_rfl) ?_
        refine J.ok (OK.ldBox S8 0 54 25 0 (.agg #[.slice m.gX_a m.gX_n m.gX_c, .slice m.gY_a m.gY_n m.gY_c, .slice m.gZ_a m.gZ_n m.gZ_c]) (by kernel_rfl) rfl (by kernel_rfl)) ?_
        refine J.run 2 K6_8 [(56, .int .i64 z), (55, .int .i64 y), (54, .agg #[.slice m.gX_a m.gX_n m.gX_c, .slice m.gY_a m.gY_n m.gY_c, .slice m.gZ_a m.gZ_n m.gZ_c]), (12, .int .i64 (m.gX_l.getD ((m.gX_n : Int) - 1).toNat 0)), (11, .int .i64 (m.gX_l.getD 0 0)), (5, .pointer (some ⟨b1, 0, none⟩)), (2, .int .i64 y), (3, .int .i64 z)] w8 (by kernel_rfl) ?_
        refine J.callF 57 19 #[.agg #[.slice m.gX_a m.gX_n m.gX_c, .slice m.gY_a m.gY_n m.gY_c, .slice m.gZ_a m.gZ_n m.gZ_c], .int .i64 y, .int .i64 z] hb19 (by kernel_rfl) (inverse_any m y z _ (mpQ_sep hm S8)) ?_
        rintro _ w9 ⟨rfl, T6⟩
        have S9 : Sep w [box b1 [.slice m.gX_a m.gX_n m.gX_c, .slice m.gY_a m.gY_n m.gY_c, .slice m.gZ_a m.gZ_n m.gZ_c] 25] w9 := S8.trans T6
        clear T6 S8
        refine J.run 12 K6_9 [(61, .bool ((invE m y z) != 0)), (14, .int .i64 (invE m y z)), (13, .int .i64 (invX m y z)), (12, .int .i64 (m.gX_l.getD ((m.gX_n : Int) - 1).toNat 0)), (11, .int .i64 (m.gX_l.getD 0 0)), (5, .pointer (some ⟨b1, 0, none⟩)), (2, .int .i64 y), (3, .int .i64 z)] w9 (by kernel_rfl) ?_
        by_cases fk6 : (invE m y z) = 0
        · skip
          refine J.head (.bool false) (congrArg Value.bool (bne_eq_false_iff_eq.2 fk6)) ?_
          refine J.run 8 K6_10 [(75, .bool (decide ((invX m y z) ≥ (m.gX_l.getD 0 0)))), (13, .int .i64 (invX m y z)), (12, .int .i64 (m.gX_l.getD ((m.gX_n : Int) - 1).toNat 0)), (11, .int .i64 (m.gX_l.getD 0 0)), (5, .pointer (some ⟨b1, 0, none⟩)), (2, .int .i64 y), (3, .int .i64 z)] w9 (by kernel_rfl) ?_
          have fk8 : (invX m y z) ≥ (m.gX_l.getD 0 0) := by omega
          refine J.head (.bool true) (congrArg Value.bool (decide_eq_true fk8)) ?_
          refine J.run 5 K6_11 [(80, .bool (decide ((invX m y z) ≤ (m.gX_l.getD ((m.gX_n : Int) - 1).toNat 0)))), (13, .int .i64 (invX m y z)), (11, .int .i64 (m.gX_l.getD 0 0)), (5, .pointer (some ⟨b1, 0, none⟩)), (2, .int .i64 y), (3, .int .i64 z)] w9 (by kernel_rfl) ?_
          have fk10 : (invX m y z) ≤ (m.gX_l.getD ((m.gX_n : Int) - 1).toNat 0) := by omega
          refine J.head (.bool true) (congrArg Value.bool (decide_eq_true fk10)) ?_
          refine J.ok (OK.ldBox S9 0 81 25 0 (.agg #[.slice m.gX_a m.gX_n m.gX_c, .slice m.gY_a m.gY_n m.gY_c, .slice m.gZ_a m.gZ_n m.gZ_c]) (by kernel_rfl) rfl (by kernel_rfl)) ?_
          refine J.run 2 K6_12 [(83, .int .i64 y), (82, .int .i64 (invX m y z)), (81, .agg #[.slice m.gX_a m.gX_n m.gX_c, .slice m.gY_a m.gY_n m.gY_c, .slice m.gZ_a m.gZ_n m.gZ_c]), (80, .bool true), (13, .int .i64 (invX m y z)), (11, .int .i64 (m.gX_l.getD 0 0)), (5, .pointer (some ⟨b1, 0, none⟩)), (2, .int .i64 y), (3, .int .i64 z)] w9 (by kernel_rfl) ?_
          refine J.callF 84 13 #[.agg #[.slice m.gX_a m.gX_n m.gX_c, .slice m.gY_a m.gY_n m.gY_c, .slice m.gZ_a m.gZ_n m.gZ_c], .int .i64 (invX m y z), .int .i64 y] hb13 (by kernel_rfl) (At_any m (invX m y z) y _ (mpQ_sep hm S9)) ?_
          rintro _ w10 ⟨rfl, T7⟩
          have S10 : Sep w [box b1 [.slice m.gX_a m.gX_n m.gX_c, .slice m.gY_a m.gY_n m.gY_c, .slice m.gZ_a m.gZ_n m.gZ_c] 25] w10 := S9.trans T7
          clear T7 S9
          refine J.run 4 K6_13 [(88, .bool (decide ((atF m (invX m y z) y) ≥ z))), (13, .int .i64 (invX m y z)), (11, .int .i64 (m.gX_l.getD 0 0)), (5, .pointer (some ⟨b1, 0, none⟩)), (2, .int .i64 y), (3, .int .i64 z)] w10 (by kernel_rfl) ?_
          have fk12 : (atF m (invX m y z) y) ≥ z := by rw [atF_valid hv]; omega
          refine J.head (.bool true) (congrArg Value.bool (decide_eq_true fk12)) ?_
          refine J.run 4 K6_14 [(92, .bool ((invX m y z) == (m.gX_l.getD 0 0))), (88, .bool true), (13, .int .i64 (invX m y z)), (5, .pointer (some ⟨b1, 0, none⟩)), (2, .int .i64 y), (3, .int .i64 z)] w10 (by kernel_rfl) ?_
          by_cases fk13 : (invX m y z) = (m.gX_l.getD 0 0)
          · skip
            refine J.head (.bool true) (congrArg Value.bool (beq_iff_eq.2 fk13)) ?_
            refine J.run 11 K6_15 [(10, .bool true)] w10 (by kernel_rfl) ?_
            refine J.ret Try.f6 [.bool true] Try.func6 ⟨by kernel_rfl, trivial⟩ ?_
            refine hR _ _ ?_
            exact ⟨rfl, S10.nil⟩
          · skip
            refine J.head (.bool false) (congrArg Value.bool (beq_eq_false_iff_ne.2 fk13)) ?_
            refine J.ok (OK.ldBox S10 0 93 25 0 (.agg #[.slice m.gX_a m.gX_n m.gX_c, .slice m.gY_a m.gY_n m.gY_c, .slice m.gZ_a m.gZ_n m.gZ_c]) (by kernel_rfl) rfl (by kernel_rfl)) ?_
            refine J.run 2 K6_16 [(95, .int .i64 (IntKind.wrap .i64 ((invX m y z) - 1))), (93, .agg #[.slice m.gX_a m.gX_n m.gX_c, .slice m.gY_a m.gY_n m.gY_c, .slice m.gZ_a m.gZ_n m.gZ_c]), (92, .bool false), (88, .bool true), (2, .int .i64 y), (3, .int .i64 z)] w10 (by kernel_rfl) ?_
            refine J.head (.int .i64 ((invX m y z) - 1)) (congrArg (Value.int .i64) (IntWalk.i64_in _ (by omega))) ?_
            refine J.run 1 K6_17 [(96, .int .i64 y), (95, .int .i64 ((invX m y z) - 1)), (93, .agg #[.slice m.gX_a m.gX_n m.gX_c, .slice m.gY_a m.gY_n m.gY_c, .slice m.gZ_a m.gZ_n m.gZ_c]), (92, .bool false), (88, .bool true), (3, .int .i64 z)] w10 (by kernel_rfl) ?_
            refine J.callF 97 13 #[.agg #[.slice m.gX_a m.gX_n m.gX_c, .slice m.gY_a m.gY_n m.gY_c, .slice m.gZ_a m.gZ_n m.gZ_c], .int .i64 ((invX m y z) - 1), .int .i64 y] hb13 (by kernel_rfl) (At_any m ((invX m y z) - 1) y _ (mpQ_sep hm S10)) ?_
            rintro _ w11 ⟨rfl, T8⟩
            have S11 : Sep w [box b1 [.slice m.gX_a m.gX_n m.gX_c, .slice m.gY_a m.gY_n m.gY_c, .slice m.gZ_a m.gZ_n m.gZ_c] 25] w11 := S10.trans T8
            clear T8 S10
            refine J.run 6 K6_18 [(10, .bool (decide ((atF m ((invX m y z) - 1) y) < z)))] w11 (by kernel_rfl) ?_
            refine J.ret Try.f6 [.bool (decide ((atF m ((invX m y z) - 1) y) < z))] Try.func6 ⟨by kernel_rfl, trivial⟩ ?_
            refine hR _ _ ?_
            have fk14 : (atF m ((invX m y z) - 1) y) < z := by rw [atF_valid hv]; omega
            exact ⟨congrArg Value.bool (decide_eq_true fk14), S11.nil⟩
        · skip
          refine J.head (.bool true) (congrArg Value.bool (bne_iff_ne.2 fk6)) ?_
          refine J.run 6 K6_19 [(64, .bool ((invE m y z) == 2)), (12, .int .i64 (m.gX_l.getD ((m.gX_n : Int) - 1).toNat 0)), (5, .pointer (some ⟨b1, 0, none⟩)), (2, .int .i64 y), (3, .int .i64 z)] w9 (by kernel_rfl) ?_
          have fk16 : (invE m y z) = 2 := by omega
          refine J.head (.bool true) (congrArg Value.bool (beq_iff_eq.2 fk16)) ?_
          refine J.ok (OK.ldBox S9 0 65 25 0 (.agg #[.slice m.gX_a m.gX_n m.gX_c, .slice m.gY_a m.gY_n m.gY_c, .slice m.gZ_a m.gZ_n m.gZ_c]) (by kernel_rfl) rfl (by kernel_rfl)) ?_
          refine J.run 2 K6_20 [(67, .int .i64 y), (66, .int .i64 (m.gX_l.getD ((m.gX_n : Int) - 1).toNat 0)), (65, .agg #[.slice m.gX_a m.gX_n m.gX_c, .slice m.gY_a m.gY_n m.gY_c, .slice m.gZ_a m.gZ_n m.gZ_c]), (64, .bool true), (3, .int .i64 z)] w9 (by kernel_rfl) ?_
          refine J.callF 68 13 #[.agg #[.slice m.gX_a m.gX_n m.gX_c, .slice m.gY_a m.gY_n m.gY_c, .slice m.gZ_a m.gZ_n m.gZ_c], .int .i64 (m.gX_l.getD ((m.gX_n : Int) - 1).toNat 0), .int .i64 y] hb13 (by kernel_rfl) (At_any m (m.gX_l.getD ((m.gX_n : Int) - 1).toNat 0) y _ (mpQ_sep hm S9)) ?_
          rintro _ w12 ⟨rfl, T9⟩
          have S12 : Sep w [box b1 [.slice m.gX_a m.gX_n m.gX_c, .slice m.gY_a m.gY_n m.gY_c, .slice m.gZ_a m.gZ_n m.gZ_c] 25] w12 := S9.trans T9
          clear T9 S9
          refine J.run 5 K6_21 [(10, .bool (decide ((atF m (m.gX_l.getD ((m.gX_n : Int) - 1).toNat 0) y) < z)))] w12 (by kernel_rfl) ?_
          refine J.ret Try.f6 [.bool (decide ((atF m (m.gX_l.getD ((m.gX_n : Int) - 1).toNat 0) y) < z))] Try.func6 ⟨by kernel_rfl, trivial⟩ ?_
          refine hR _ _ ?_
          have fk17 : (atF m (m.gX_l.getD ((m.gX_n : Int) - 1).toNat 0) y) < z := by rw [atF_valid hv]; omega
          exact ⟨congrArg Value.bool (decide_eq_true fk17), S12.nil⟩
      · skip
        refine J.drawPlan (fun w_ => Sep w [box b1 [.slice m.gX_a m.gX_n m.gX_c, .slice m.gY_a m.gY_n m.gY_c, .slice m.gZ_a m.gZ_n m.gZ_c] 25] w_) [(0, true), (1, true), (2, true), (3, true), (4, true), (5, true), (6, true), (7, true), (8, true), (9, true), (10, true), (11, true), (12, true), (13, true), (14, true), (15, true)] S4 Try.mixed (by kernel_rfl) (planOK_of (T := [(0, some 25, 2), (1, some 26, 33554432), (2, some 27, 67108864), (4, some 28, 134217760), (4, some 29, 134217730), (4, some 30, 134217732), (60, some 31, 2013265920), (4, some 32, 134217760), (4, some 33, 134217730), (4, some 34, 134217744), (516, some 35, 17314086912), (1284, some 36, 43083890688), (4, some 37, 134217732), (6340, some 38, 210587615232), (8260, some 39, 277159608320), (16388, some 40, 549890031616)]) (by kernel_rfl) (by kernel_rfl)) ?_
        intro w13 S13
        refine PB.mk (S13.sub (.cons_cons _ (.slnil))) ?_
        refine PL.take 0 25 (.int .i64 x) (fun _ _ => by kernel_rfl) ?_
        refine PL.take 1 26 (.bool (decide (x < 1099511627776))) (fun _ _ => by kernel_rfl) ?_
        refine PL.head (.bool false) (congrArg Value.bool (decide_eq_false fk3)) ?_
        refine PL.take 2 27 (.bool false) (fun _ _ => by kernel_rfl) ?_
        refine PL.takePass 3 (some 28) (by kernel_rfl) ?_
        refine PL.takePass 4 (some 29) (by kernel_rfl) ?_
        refine PL.takePass 5 (some 30) (by kernel_rfl) ?_
        refine PL.takePass 6 (some 31) (by kernel_rfl) ?_
        refine PL.takePass 7 (some 32) (by kernel_rfl) ?_
        refine PL.takePass 8 (some 33) (by kernel_rfl) ?_
        refine PL.takePass 9 (some 34) (by kernel_rfl) ?_
        refine PL.takePass 10 (some 35) (by kernel_rfl) ?_
        refine PL.takePass 11 (some 36) (by kernel_rfl) ?_
        refine PL.takePass 12 (some 37) (by kernel_rfl) ?_
        refine PL.takePass 13 (some 38) (by kernel_rfl) ?_
        refine PL.takePass 14 (some 39) (by kernel_rfl) ?_
        refine PL.take 15 40 (.bool false) (fun _ _ => by kernel_rfl) ?_
        refine PL.done ?_
        refine J.run 0 (rRest K6_5) [(40, .bool false), (5, .pointer (some ⟨b1, 0, none⟩)), (2, .int .i64 y), (3, .int .i64 z)] w13 (by kernel_rfl) ?_
        refine J.run 3 K6_22 [(5, .pointer (some ⟨b1, 0, none⟩)), (2, .int .i64 y), (3, .int .i64 z)] w13 (by kernel_rfl) ?_
        obtain ⟨p3, hp3, hc3⟩ := q2.at 0 0 (by omega)
        have hel3 := getD_Q q3 0 (n := 0) (by have := q2.len_eq; omega)
        obtain ⟨p4, hp4, hc4⟩ := q2.at 0 ((m.gX_n : Int) - 1).toNat (by omega)
        have hel4 := getD_Q q3 0 (n := ((m.gX_n : Int) - 1).toNat) (by have := q2.len_eq; omega)
        refine J.drawStill S13 14 Try.mixed (by kernel_rfl) (by kernel_rfl) (by kernel_rfl) ?_
        intro w14 S14
        refine SL.ok (by decide) (OK.run 41 (.pointer (some ⟨b1, 0, none⟩)) (by kernel_rfl)) ?_
        refine SL.ok (by decide) (OK.ldBox S14 0 42 22 0 (.slice m.gX_a m.gX_n m.gX_c) (by kernel_rfl) rfl (by kernel_rfl)) ?_
        refine SL.ok (by decide) (OK.index 43 22 1 m.gX_a p3 m.gX_n 0 0 (p3.add 0) (by kernel_rfl) (by kernel_rfl) hp3 (by omega) (by omega) (by rw [Nat.mul_one])) ?_
        refine SL.ok (by decide) (OK.ldCell 44 3 (p3.add 0) (.int .i64 (m.gX_l.getD 0 0)) (by kernel_rfl) (by kernel_rfl) (S14.cell hc3)) ?_
        refine SL.ok (by decide) (OK.run 45 (.pointer (some ⟨b1, 0, none⟩)) (by kernel_rfl)) ?_
        refine SL.ok (by decide) (OK.ldBox S14 0 46 22 0 (.slice m.gX_a m.gX_n m.gX_c) (by kernel_rfl) rfl (by kernel_rfl)) ?_
        refine SL.ok (by decide) (OK.run 47 (.pointer (some ⟨b1, 0, none⟩)) (by kernel_rfl)) ?_
        refine SL.ok (by decide) (OK.ldBox S14 0 48 22 0 (.slice m.gX_a m.gX_n m.gX_c) (by kernel_rfl) rfl (by kernel_rfl)) ?_
        refine SL.ok (by decide) (OK.run 49 (.int .i64 (m.gX_n : Int)) (by kernel_rfl)) ?_
        refine SL.ok (by decide) (OK.run 50 (.int .i64 (IntKind.wrap .i64 ((m.gX_n : Int) - 1))) (by kernel_rfl)) ?_
        refine SL.head (.int .i64 ((m.gX_n : Int) - 1)) (congrArg (Value.int .i64) (IntWalk.i64_in _ (by omega))) ?_
        refine SL.ok (by decide) (OK.index 51 22 1 m.gX_a p4 m.gX_n ((m.gX_n : Int) - 1).toNat ((m.gX_n : Int) - 1) (p4.add ((m.gX_n : Int) - 1).toNat) (by kernel_rfl) (by kernel_rfl) hp4 (by omega) (by omega) (by rw [Nat.mul_one])) ?_
        refine SL.ok (by decide) (OK.ldCell 52 3 (p4.add ((m.gX_n : Int) - 1).toNat) (.int .i64 (m.gX_l.getD ((m.gX_n : Int) - 1).toNat 0)) (by kernel_rfl) (by kernel_rfl) (S14.cell hc4)) ?_
        refine SL.ok (by decide) (OK.run 11 (.int .i64 (m.gX_l.getD 0 0)) (by kernel_rfl)) ?_
        refine SL.ok (by decide) (OK.run 12 (.int .i64 (m.gX_l.getD ((m.gX_n : Int) - 1).toNat 0)) (by kernel_rfl)) ?_
        refine SL.done ?_
        refine TL.done (by kernel_rfl) ?_
        refine J.run 0 (rRest K6_22) [(12, .int .i64 (m.gX_l.getD ((m.gX_n : Int) - 1).toNat 0)), (11, .int .i64 (m.gX_l.getD 0 0)), (5, .pointer (some ⟨b1, 0, none⟩)), (2, .int .i64 y), (3, .int .i64 z)] w14 (by kernel_rfl) ?_
        refine J.run 2 K6_23 [(12, .int .i64 (m.gX_l.getD ((m.gX_n : Int) - 1).toNat 0)), (11, .int .i64 (m.gX_l.getD 0 0)), (5, .pointer (some ⟨b1, 0, none⟩)), (2, .int .i64 y), (3, .int .i64 z)] w14 (by kernel_rfl) ?_
        refine J.ok (OK.ldBox S14 0 54 25 0 (.agg #[.slice m.gX_a m.gX_n m.gX_c, .slice m.gY_a m.gY_n m.gY_c, .slice m.gZ_a m.gZ_n m.gZ_c]) (by kernel_rfl) rfl (by kernel_rfl)) ?_
        refine J.run 2 K6_24 [(56, .int .i64 z), (55, .int .i64 y), (54, .agg #[.slice m.gX_a m.gX_n m.gX_c, .slice m.gY_a m.gY_n m.gY_c, .slice m.gZ_a m.gZ_n m.gZ_c]), (12, .int .i64 (m.gX_l.getD ((m.gX_n : Int) - 1).toNat 0)), (11, .int .i64 (m.gX_l.getD 0 0)), (5, .pointer (some ⟨b1, 0, none⟩)), (2, .int .i64 y), (3, .int .i64 z)] w14 (by kernel_rfl) ?_
        refine J.callF 57 19 #[.agg #[.slice m.gX_a m.gX_n m.gX_c, .slice m.gY_a m.gY_n m.gY_c, .slice m.gZ_a m.gZ_n m.gZ_c], .int .i64 y, .int .i64 z] hb19 (by kernel_rfl) (inverse_any m y z _ (mpQ_sep hm S14)) ?_
        rintro _ w15 ⟨rfl, T10⟩
        have S15 : Sep w [box b1 [.slice m.gX_a m.gX_n m.gX_c, .slice m.gY_a m.gY_n m.gY_c, .slice m.gZ_a m.gZ_n m.gZ_c] 25] w15 := S14.trans T10
        clear T10 S14
        refine J.run 12 K6_25 [(61, .bool ((invE m y z) != 0)), (14, .int .i64 (invE m y z)), (13, .int .i64 (invX m y z)), (12, .int .i64 (m.gX_l.getD ((m.gX_n : Int) - 1).toNat 0)), (11, .int .i64 (m.gX_l.getD 0 0)), (5, .pointer (some ⟨b1, 0, none⟩)), (2, .int .i64 y), (3, .int .i64 z)] w15 (by kernel_rfl) ?_
        by_cases fk18 : (invE m y z) = 0
        · skip
          refine J.head (.bool false) (congrArg Value.bool (bne_eq_false_iff_eq.2 fk18)) ?_
          refine J.run 8 K6_26 [(75, .bool (decide ((invX m y z) ≥ (m.gX_l.getD 0 0)))), (13, .int .i64 (invX m y z)), (12, .int .i64 (m.gX_l.getD ((m.gX_n : Int) - 1).toNat 0)), (11, .int .i64 (m.gX_l.getD 0 0)), (5, .pointer (some ⟨b1, 0, none⟩)), (2, .int .i64 y), (3, .int .i64 z)] w15 (by kernel_rfl) ?_
          have fk20 : (invX m y z) ≥ (m.gX_l.getD 0 0) := by omega
          refine J.head (.bool true) (congrArg Value.bool (decide_eq_true fk20)) ?_
          refine J.run 5 K6_27 [(80, .bool (decide ((invX m y z) ≤ (m.gX_l.getD ((m.gX_n : Int) - 1).toNat 0)))), (13, .int .i64 (invX m y z)), (11, .int .i64 (m.gX_l.getD 0 0)), (5, .pointer (some ⟨b1, 0, none⟩)), (2, .int .i64 y), (3, .int .i64 z)] w15 (by kernel_rfl) ?_
          have fk22 : (invX m y z) ≤ (m.gX_l.getD ((m.gX_n : Int) - 1).toNat 0) := by omega
          refine J.head (.bool true) (congrArg Value.bool (decide_eq_true fk22)) ?_
          refine J.ok (OK.ldBox S15 0 81 25 0 (.agg #[.slice m.gX_a m.gX_n m.gX_c, .slice m.gY_a m.gY_n m.gY_c, .slice m.gZ_a m.gZ_n m.gZ_c]) (by kernel_rfl) rfl (by kernel_rfl)) ?_
          refine J.run 2 K6_28 [(83, .int .i64 y), (82, .int .i64 (invX m y z)), (81, .agg #[.slice m.gX_a m.gX_n m.gX_c, .slice m.gY_a m.gY_n m.gY_c, .slice m.gZ_a m.gZ_n m.gZ_c]), (80, .bool true), (13, .int .i64 (invX m y z)), (11, .int .i64 (m.gX_l.getD 0 0)), (5, .pointer (some ⟨b1, 0, none⟩)), (2, .int .i64 y), (3, .int .i64 z)] w15 (by kernel_rfl) ?_
          refine J.callF 84 13 #[.agg #[.slice m.gX_a m.gX_n m.gX_c, .slice m.gY_a m.gY_n m.gY_c, .slice m.gZ_a m.gZ_n m.gZ_c], .int .i64 (invX m y z), .int .i64 y] hb13 (by kernel_rfl) (At_any m (invX m y z) y _ (mpQ_sep hm S15)) ?_
          rintro _ w16 ⟨rfl, T11⟩
          have S16 : Sep w [box b1 [.slice m.gX_a m.gX_n m.gX_c, .slice m.gY_a m.gY_n m.gY_c, .slice m.gZ_a m.gZ_n m.gZ_c] 25] w16 := S15.trans T11
          clear T11 S15
          refine J.run 4 K6_29 [(88, .bool (decide ((atF m (invX m y z) y) ≥ z))), (13, .int .i64 (invX m y z)), (11, .int .i64 (m.gX_l.getD 0 0)), (5, .pointer (some ⟨b1, 0, none⟩)), (2, .int .i64 y), (3, .int .i64 z)] w16 (by kernel_rfl) ?_
          have fk24 : (atF m (invX m y z) y) ≥ z := by rw [atF_valid hv]; omega
          refine J.head (.bool true) (congrArg Value.bool (decide_eq_true fk24)) ?_
          refine J.run 4 K6_30 [(92, .bool ((invX m y z) == (m.gX_l.getD 0 0))), (88, .bool true), (13, .int .i64 (invX m y z)), (5, .pointer (some ⟨b1, 0, none⟩)), (2, .int .i64 y), (3, .int .i64 z)] w16 (by kernel_rfl) ?_
          by_cases fk25 : (invX m y z) = (m.gX_l.getD 0 0)
          · skip
            refine J.head (.bool true) (congrArg Value.bool (beq_iff_eq.2 fk25)) ?_
            refine J.run 11 K6_31 [(10, .bool true)] w16 (by kernel_rfl) ?_
            refine J.ret Try.f6 [.bool true] Try.func6 ⟨by kernel_rfl, trivial⟩ ?_
            refine hR _ _ ?_
            exact ⟨rfl, S16.nil⟩
          · skip
            refine J.head (.bool false) (congrArg Value.bool (beq_eq_false_iff_ne.2 fk25)) ?_
            refine J.ok (OK.ldBox S16 0 93 25 0 (.agg #[.slice m.gX_a m.gX_n m.gX_c, .slice m.gY_a m.gY_n m.gY_c, .slice m.gZ_a m.gZ_n m.gZ_c]) (by kernel_rfl) rfl (by kernel_rfl)) ?_
            refine J.run 2 K6_32 [(95, .int .i64 (IntKind.wrap .i64 ((invX m y z) - 1))), (93, .agg #[.slice m.gX_a m.gX_n m.gX_c, .slice m.gY_a m.gY_n m.gY_c, .slice m.gZ_a m.gZ_n m.gZ_c]), (92, .bool false), (88, .bool true), (2, .int .i64 y), (3, .int .i64 z)] w16 (by kernel_rfl) ?_
            refine J.head (.int .i64 ((invX m y z) - 1)) (congrArg (Value.int .i64) (IntWalk.i64_in _ (by omega))) ?_
            refine J.run 1 K6_33 [(96, .int .i64 y), (95, .int .i64 ((invX m y z) - 1)), (93, .agg #[.slice m.gX_a m.gX_n m.gX_c, .slice m.gY_a m.gY_n m.gY_c, .slice m.gZ_a m.gZ_n m.gZ_c]), (92, .bool false), (88, .bool true), (3, .int .i64 z)] w16 (by kernel_rfl) ?_
            refine J.callF 97 13 #[.agg #[.slice m.gX_a m.gX_n m.gX_c, .slice m.gY_a m.gY_n m.gY_c, .slice m.gZ_a m.gZ_n m.gZ_c], .int .i64 ((invX m y z) - 1), .int .i64 y] hb13 (by kernel_rfl) (At_any m ((invX m y z) - 1) y _ (mpQ_sep hm S16)) ?_
            rintro _ w17 ⟨rfl, T12⟩
            have S17 : Sep w [box b1 [.slice m.gX_a m.gX_n m.gX_c, .slice m.gY_a m.gY_n m.gY_c, .slice m.gZ_a m.gZ_n m.gZ_c] 25] w17 := S16.trans T12
            clear T12 S16
            refine J.run 6 K6_34 [(10, .bool (decide ((atF m ((invX m y z) - 1) y) < z)))] w17 (by kernel_rfl) ?_
            refine J.ret Try.f6 [.bool (decide ((atF m ((invX m y z) - 1) y) < z))] Try.func6 ⟨by kernel_rfl, trivial⟩ ?_
            refine hR _ _ ?_
            have fk26 : (atF m ((invX m y z) - 1) y) < z := by rw [atF_valid hv]; omega
            exact ⟨congrArg Value.bool (decide_eq_true fk26), S17.nil⟩
        · skip
          refine J.head (.bool true) (congrArg Value.bool (bne_iff_ne.2 fk18)) ?_
          refine J.run 6 K6_35 [(64, .bool ((invE m y z) == 2)), (12, .int .i64 (m.gX_l.getD ((m.gX_n : Int) - 1).toNat 0)), (5, .pointer (some ⟨b1, 0, none⟩)), (2, .int .i64 y), (3, .int .i64 z)] w15 (by kernel_rfl) ?_
          have fk28 : (invE m y z) = 2 := by omega
          refine J.head (.bool true) (congrArg Value.bool (beq_iff_eq.2 fk28)) ?_
          refine J.ok (OK.ldBox S15 0 65 25 0 (.agg #[.slice m.gX_a m.gX_n m.gX_c, .slice m.gY_a m.gY_n m.gY_c, .slice m.gZ_a m.gZ_n m.gZ_c]) (by kernel_rfl) rfl (by kernel_rfl)) ?_
          refine J.run 2 K6_36 [(67, .int .i64 y), (66, .int .i64 (m.gX_l.getD ((m.gX_n : Int) - 1).toNat 0)), (65, .agg #[.slice m.gX_a m.gX_n m.gX_c, .slice m.gY_a m.gY_n m.gY_c, .slice m.gZ_a m.gZ_n m.gZ_c]), (64, .bool true), (3, .int .i64 z)] w15 (by kernel_rfl) ?_
          refine J.callF 68 13 #[.agg #[.slice m.gX_a m.gX_n m.gX_c, .slice m.gY_a m.gY_n m.gY_c, .slice m.gZ_a m.gZ_n m.gZ_c], .int .i64 (m.gX_l.getD ((m.gX_n : Int) - 1).toNat 0), .int .i64 y] hb13 (by kernel_rfl) (At_any m (m.gX_l.getD ((m.gX_n : Int) - 1).toNat 0) y _ (mpQ_sep hm S15)) ?_
          rintro _ w18 ⟨rfl, T13⟩
          have S18 : Sep w [box b1 [.slice m.gX_a m.gX_n m.gX_c, .slice m.gY_a m.gY_n m.gY_c, .slice m.gZ_a m.gZ_n m.gZ_c] 25] w18 := S15.trans T13
          clear T13 S15
          refine J.run 5 K6_37 [(10, .bool (decide ((atF m (m.gX_l.getD ((m.gX_n : Int) - 1).toNat 0) y) < z)))] w18 (by kernel_rfl) ?_
          refine J.ret Try.f6 [.bool (decide ((atF m (m.gX_l.getD ((m.gX_n : Int) - 1).toNat 0) y) < z))] Try.func6 ⟨by kernel_rfl, trivial⟩ ?_
          refine hR _ _ ?_
          have fk29 : (atF m (m.gX_l.getD ((m.gX_n : Int) - 1).toNat 0) y) < z := by rw [atF_valid hv]; omega
          exact ⟨congrArg Value.bool (decide_eq_true fk29), S18.nil⟩
    · skip
      refine J.head (.bool true) (congrArg Value.bool (by rw [fk2]; rfl)) ?_
      refine J.run 5 K6_38 [(10, .bool true)] w4 (by kernel_rfl) ?_
      refine J.ret Try.f6 [.bool true] Try.func6 ⟨by kernel_rfl, trivial⟩ ?_
      refine hR _ _ ?_
      exact ⟨rfl, S4.nil⟩
  · skip
    refine J.head (.bool true) (congrArg Value.bool (by rw [fk1]; rfl)) ?_
    refine J.run 10 K6_39 [(10, .bool true)] w3 (by kernel_rfl) ?_
    refine J.ret Try.f6 [.bool true] Try.func6 ⟨by kernel_rfl, trivial⟩ ?_
    refine hR _ _ ?_
    exact ⟨rfl, S3.nil⟩

end Go.Proofs.Ytempepmfifljmaa
