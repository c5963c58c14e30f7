/- Walks of functions of this seat, printed by a program over the engine. Conditions: as each theorem says. -/
import Derived.Test.YtempepmfifljmaaF18
namespace Go.Proofs.Ytempepmfifljmaa
open Go.Eng Go.RowKit
set_option linter.unusedSimpArgs false
set_option linter.unusedVariables false
theorem hb26 : HasBody Try.prog 26 := fun _ _ => by kernel_rfl
noncomputable def K26_0 : List Item := adv 2 [] (bodyOf Try.f26)
noncomputable def K26_1 : List Item := adv 5 [] (popK (popK (popK (popK K26_0))))
noncomputable def K26_2 : List Item := adv 2 [] (popK (popK K26_1))
noncomputable def K26_3 : List Item := adv 1 [] K26_2
noncomputable def K26_4 : List Item := adv 1 [] (popK K26_3)
noncomputable def K26_5 : List Item := adv 3 [] (popK K26_4)
noncomputable def K26_6 : List Item := adv 11 [true] K26_5
noncomputable def K26_7 : List Item := adv 2 [] (popK K26_6)
noncomputable def K26_8 : List Item := adv 1 [] K26_5
noncomputable def K26_9 : List Item := adv 1 [] (popK K26_8)
noncomputable def K26_10 : List Item := adv 3 [] (popK K26_9)
noncomputable def K26_11 : List Item := adv 4 [true] K26_10
noncomputable def K26_12 : List Item := adv 2 [] (popK K26_11)
noncomputable def K26_13 : List Item := adv 4 [false] K26_10
noncomputable def K26_14 : List Item := adv 1 [] (popK K26_13)
noncomputable def K26_15 : List Item := adv 1 [] (popK K26_14)
noncomputable def K26_16 : List Item := adv 7 [] (popK (popK K26_15))
noncomputable def K26_17 : List Item := adv 5 [] (popK (popK K26_16))
noncomputable def K26_18 : List Item := adv 5 [] (popK (popK (popK K26_17)))
noncomputable def K26_19 : List Item := adv 5 [] K26_18
noncomputable def K26_20 : List Item := adv 6 [true] K26_19
noncomputable def K26_21 : List Item := adv 5 [] (popK (popK K26_20))
noncomputable def K26_22 : List Item := adv 5 [] (popK (popK (popK K26_21)))
noncomputable def K26_23 : List Item := adv 5 [] K26_22
noncomputable def K26_24 : List Item := adv 6 [true] K26_23
noncomputable def K26_25 : List Item := adv 4 [] (popK (popK K26_24))
noncomputable def K26_26 : List Item := adv 2 [] (popK K26_25)
noncomputable def K26_27 : List Item := adv 4 [] (popK K26_26)
noncomputable def K26_28 : List Item := adv 2 [] (popK K26_27)
noncomputable def K26_29 : List Item := adv 1 [] K26_28
noncomputable def K26_30 : List Item := adv 2 [] (popK K26_29)
noncomputable def K26_31 : List Item := adv 1 [] K26_30
noncomputable def K26_32 : List Item := adv 1 [] (popK K26_31)
noncomputable def K26_33 : List Item := adv 4 [] (popK K26_32)
noncomputable def K26_34 : List Item := adv 5 [false] K26_23
noncomputable def K26_35 : List Item := adv 5 [false] K26_19
noncomputable def K26_36 : List Item := adv 3 [] (popK (popK K26_35))
noncomputable def K26_37 : List Item := adv 18 [true] K26_2
noncomputable def K26_38 : List Item := adv 2 [] (popK K26_37)
set_option maxRecDepth 20000 in
set_option maxHeartbeats 20000000 in
theorem over_any (m : Mp) (a b c d : Int) (w : World) (hm : mpQ w m) : Ret Try.prog 26 #[.agg #[.slice m.gX_a m.gX_n m.gX_c, .slice m.gY_a m.gY_n m.gY_c, .slice m.gZ_a m.gZ_n m.gZ_c], .agg #[.int .i64 a, .int .i64 b], .agg #[.int .i64 c, .int .i64 d]] w (fun v w' => v = .tuple #[.agg #[.int .i64 (overL m a b c d), .int .i64 (overH m a b c d)], .int .i64 (overE m a b c d)] ∧ Sep w [] w') := by
  have S0 := Sep.refl w
  refine Ret.named fun R hR => ?_
  refine Ret.of_J (N := 93) [(0, .agg #[.slice m.gX_a m.gX_n m.gX_c, .slice m.gY_a m.gY_n m.gY_c, .slice m.gZ_a m.gZ_n m.gZ_c]), (1, .agg #[.int .i64 a, .int .i64 b]), (2, .agg #[.int .i64 c, .int .i64 d])] Try.func26 rfl rfl (Nat.le_of_ble_eq_true (by kernel_rfl)) (by kernel_rfl) ?_
  obtain ⟨q1, q2, q3, q4, q5, q6, q7, q8, q9, _⟩ := id hm
  have ql1 := q2.len_eq
  have ql2 := q5.len_eq
  have ql3 := q8.len_eq
  refine J.run 2 K26_0 [(0, .agg #[.slice m.gX_a m.gX_n m.gX_c, .slice m.gY_a m.gY_n m.gY_c, .slice m.gZ_a m.gZ_n m.gZ_c]), (1, .agg #[.int .i64 a, .int .i64 b]), (2, .agg #[.int .i64 c, .int .i64 d])] w (by kernel_rfl) ?_
  refine J.new S0 3 [.slice m.gX_a m.gX_n m.gX_c, .slice m.gY_a m.gY_n m.gY_c, .slice m.gZ_a m.gZ_n m.gZ_c] 25 (by kernel_rfl) ?_
  intro b1 w1 S1
  refine J.new S1 4 [.int .i64 a, .int .i64 b] 47 (by kernel_rfl) ?_
  intro b2 w2 S2
  refine J.new S2 5 [.int .i64 c, .int .i64 d] 47 (by kernel_rfl) ?_
  intro b3 w3 S3
  refine J.new S3 6 [.int .i64 0, .int .i64 0] 47 (by kernel_rfl) ?_
  intro b4 w4 S4
  refine J.run 5 K26_1 [(6, .pointer (some ⟨b4, 0, none⟩)), (5, .pointer (some ⟨b3, 0, none⟩)), (4, .pointer (some ⟨b2, 0, none⟩)), (3, .pointer (some ⟨b1, 0, none⟩))] w4 (by kernel_rfl) ?_
  refine J.ok (OK.ldBox S4 3 16 25 0 (.agg #[.slice m.gX_a m.gX_n m.gX_c, .slice m.gY_a m.gY_n m.gY_c, .slice m.gZ_a m.gZ_n m.gZ_c]) (by kernel_rfl) rfl (by kernel_rfl)) ?_
  refine J.callF 17 15 #[.agg #[.slice m.gX_a m.gX_n m.gX_c, .slice m.gY_a m.gY_n m.gY_c, .slice m.gZ_a m.gZ_n m.gZ_c]] hb15 (by kernel_rfl) (valid_any m _ (mpQ_sep hm S4)) ?_
  rintro _ w5 ⟨rfl, T1⟩
  have S5 : Sep w [box b4 [.int .i64 0, .int .i64 0] 47, box b3 [.int .i64 c, .int .i64 d] 47, box b2 [.int .i64 a, .int .i64 b] 47, box b1 [.slice m.gX_a m.gX_n m.gX_c, .slice m.gY_a m.gY_n m.gY_c, .slice m.gZ_a m.gZ_n m.gZ_c] 25] w5 := S4.trans T1
  clear T1 S4
  refine J.run 2 K26_2 [(19, .bool (!(validM m))), (6, .pointer (some ⟨b4, 0, none⟩)), (5, .pointer (some ⟨b3, 0, none⟩)), (4, .pointer (some ⟨b2, 0, none⟩)), (3, .pointer (some ⟨b1, 0, none⟩))] w5 (by kernel_rfl) ?_
  rcases Bool.eq_false_or_eq_true (validM m) with fk1 | fk1
  · skip
    refine J.head (.bool false) (congrArg Value.bool (by rw [fk1]; rfl)) ?_
    have hv := fk1
    obtain ⟨hv1, hv2, hv3, hv4⟩ := valid_facts hv
    obtain ⟨hx1, hx2, hx3⟩ := axis_facts hv1
    obtain ⟨hy1, hy2, hy3⟩ := axis_facts hv2
    have hX : m.gX_l.length = m.gX_n := by omega
    have hY : m.gY_l.length = m.gY_n := by omega
    have vm := vm_of hv (by omega) fun i hi => row_len hm hi
    have hX0 := hx2 0 (by omega)
    have hX1 := hx2 ((m.gX_n : Int) - 1).toNat (by omega)
    have hXm := axis_mono hv1 (show 0 < ((m.gX_n : Int) - 1).toNat by omega) (by omega)
    refine J.run 1 K26_3 [(20, .pointer (some ⟨b2, 0, none⟩)), (19, .bool false), (6, .pointer (some ⟨b4, 0, none⟩)), (5, .pointer (some ⟨b3, 0, none⟩)), (4, .pointer (some ⟨b2, 0, none⟩)), (3, .pointer (some ⟨b1, 0, none⟩))] w5 (by kernel_rfl) ?_
    refine J.ok (OK.ldBox S5 2 21 3 0 (.int .i64 a) (by kernel_rfl) rfl (by kernel_rfl)) ?_
    refine J.run 1 K26_4 [(22, .pointer (some ⟨b2, 1, none⟩)), (21, .int .i64 a), (19, .bool false), (6, .pointer (some ⟨b4, 0, none⟩)), (5, .pointer (some ⟨b3, 0, none⟩)), (4, .pointer (some ⟨b2, 0, none⟩)), (3, .pointer (some ⟨b1, 0, none⟩))] w5 (by kernel_rfl) ?_
    refine J.ok (OK.ldBox S5 2 23 3 1 (.int .i64 b) (by kernel_rfl) rfl (by kernel_rfl)) ?_
    refine J.run 3 K26_5 [(26, .bool (decide (a > b))), (6, .pointer (some ⟨b4, 0, none⟩)), (5, .pointer (some ⟨b3, 0, none⟩)), (4, .pointer (some ⟨b2, 0, none⟩)), (3, .pointer (some ⟨b1, 0, none⟩))] w5 (by kernel_rfl) ?_
    by_cases fk2 : a > b
    · skip
      refine J.head (.bool true) (congrArg Value.bool (decide_eq_true fk2)) ?_
      refine J.run 11 K26_6 [(33, .agg #[.int .i64 0, .int .i64 0]), (6, .pointer (some ⟨b4, 0, none⟩))] w5 (by kernel_rfl) ?_
      refine J.stBox S5 0 47 0 (.agg #[.int .i64 0, .int .i64 0]) [.int .i64 0, .int .i64 0] [box b4 [.int .i64 0, .int .i64 0] 47, box b3 [.int .i64 c, .int .i64 d] 47, box b2 [.int .i64 a, .int .i64 b] 47, box b1 [.slice m.gX_a m.gX_n m.gX_c, .slice m.gY_a m.gY_n m.gY_c, .slice m.gZ_a m.gZ_n m.gZ_c] 25] (by kernel_rfl) rfl (by kernel_rfl) (by kernel_rfl) rfl ?_
      intro w6 S6
      refine J.run 2 K26_7 [(7, .int .i64 1), (6, .pointer (some ⟨b4, 0, none⟩))] w6 (by kernel_rfl) ?_
      refine J.ret Try.f26 [.agg #[.int .i64 0, .int .i64 0], .int .i64 1] Try.func26 ⟨⟨⟨b4, 0, none⟩, by kernel_rfl, ldV_run (S6.nth 0 rfl) (by kernel_rfl)⟩, by kernel_rfl, trivial⟩ ?_
      refine hR _ _ ?_
      obtain ⟨e1, e2, e3⟩ := over_no (m := m) (a := a) (b := b) (c := c) (d := d) (by first | exact .inl fk1 | exact .inr (.inl (by omega)) | exact .inr (.inr (by omega)))
      exact ⟨by rw [tup_two, e1, e2, e3], S6.nil⟩
    · skip
      refine J.head (.bool false) (congrArg Value.bool (decide_eq_false fk2)) ?_
      refine J.run 1 K26_8 [(27, .pointer (some ⟨b3, 0, none⟩)), (26, .bool false), (6, .pointer (some ⟨b4, 0, none⟩)), (5, .pointer (some ⟨b3, 0, none⟩)), (4, .pointer (some ⟨b2, 0, none⟩)), (3, .pointer (some ⟨b1, 0, none⟩))] w5 (by kernel_rfl) ?_
      refine J.ok (OK.ldBox S5 1 28 3 0 (.int .i64 c) (by kernel_rfl) rfl (by kernel_rfl)) ?_
      refine J.run 1 K26_9 [(29, .pointer (some ⟨b3, 1, none⟩)), (28, .int .i64 c), (26, .bool false), (6, .pointer (some ⟨b4, 0, none⟩)), (5, .pointer (some ⟨b3, 0, none⟩)), (4, .pointer (some ⟨b2, 0, none⟩)), (3, .pointer (some ⟨b1, 0, none⟩))] w5 (by kernel_rfl) ?_
      refine J.ok (OK.ldBox S5 1 30 3 1 (.int .i64 d) (by kernel_rfl) rfl (by kernel_rfl)) ?_
      refine J.run 3 K26_10 [(32, .bool (decide (c > d))), (6, .pointer (some ⟨b4, 0, none⟩)), (5, .pointer (some ⟨b3, 0, none⟩)), (4, .pointer (some ⟨b2, 0, none⟩)), (3, .pointer (some ⟨b1, 0, none⟩))] w5 (by kernel_rfl) ?_
      by_cases fk3 : c > d
      · skip
        refine J.head (.bool true) (congrArg Value.bool (decide_eq_true fk3)) ?_
        refine J.run 4 K26_11 [(33, .agg #[.int .i64 0, .int .i64 0]), (6, .pointer (some ⟨b4, 0, none⟩))] w5 (by kernel_rfl) ?_
        refine J.stBox S5 0 47 0 (.agg #[.int .i64 0, .int .i64 0]) [.int .i64 0, .int .i64 0] [box b4 [.int .i64 0, .int .i64 0] 47, box b3 [.int .i64 c, .int .i64 d] 47, box b2 [.int .i64 a, .int .i64 b] 47, box b1 [.slice m.gX_a m.gX_n m.gX_c, .slice m.gY_a m.gY_n m.gY_c, .slice m.gZ_a m.gZ_n m.gZ_c] 25] (by kernel_rfl) rfl (by kernel_rfl) (by kernel_rfl) rfl ?_
        intro w7 S7
        refine J.run 2 K26_12 [(7, .int .i64 1), (6, .pointer (some ⟨b4, 0, none⟩))] w7 (by kernel_rfl) ?_
        refine J.ret Try.f26 [.agg #[.int .i64 0, .int .i64 0], .int .i64 1] Try.func26 ⟨⟨⟨b4, 0, none⟩, by kernel_rfl, ldV_run (S7.nth 0 rfl) (by kernel_rfl)⟩, by kernel_rfl, trivial⟩ ?_
        refine hR _ _ ?_
        obtain ⟨e1, e2, e3⟩ := over_no (m := m) (a := a) (b := b) (c := c) (d := d) (by first | exact .inl fk1 | exact .inr (.inl (by omega)) | exact .inr (.inr (by omega)))
        exact ⟨by rw [tup_two, e1, e2, e3], S7.nil⟩
      · skip
        refine J.head (.bool false) (congrArg Value.bool (decide_eq_false fk3)) ?_
        refine J.run 4 K26_13 [(6, .pointer (some ⟨b4, 0, none⟩)), (5, .pointer (some ⟨b3, 0, none⟩)), (4, .pointer (some ⟨b2, 0, none⟩)), (3, .pointer (some ⟨b1, 0, none⟩))] w5 (by kernel_rfl) ?_
        refine J.ok (OK.ldBox S5 3 34 25 0 (.agg #[.slice m.gX_a m.gX_n m.gX_c, .slice m.gY_a m.gY_n m.gY_c, .slice m.gZ_a m.gZ_n m.gZ_c]) (by kernel_rfl) rfl (by kernel_rfl)) ?_
        refine J.run 1 K26_14 [(35, .pointer (some ⟨b2, 0, none⟩)), (34, .agg #[.slice m.gX_a m.gX_n m.gX_c, .slice m.gY_a m.gY_n m.gY_c, .slice m.gZ_a m.gZ_n m.gZ_c]), (6, .pointer (some ⟨b4, 0, none⟩)), (5, .pointer (some ⟨b3, 0, none⟩)), (4, .pointer (some ⟨b2, 0, none⟩)), (3, .pointer (some ⟨b1, 0, none⟩))] w5 (by kernel_rfl) ?_
        refine J.ok (OK.ldBox S5 2 36 3 0 (.int .i64 a) (by kernel_rfl) rfl (by kernel_rfl)) ?_
        refine J.run 1 K26_15 [(37, .pointer (some ⟨b3, 0, none⟩)), (36, .int .i64 a), (34, .agg #[.slice m.gX_a m.gX_n m.gX_c, .slice m.gY_a m.gY_n m.gY_c, .slice m.gZ_a m.gZ_n m.gZ_c]), (6, .pointer (some ⟨b4, 0, none⟩)), (5, .pointer (some ⟨b3, 0, none⟩)), (4, .pointer (some ⟨b2, 0, none⟩)), (3, .pointer (some ⟨b1, 0, none⟩))] w5 (by kernel_rfl) ?_
        refine J.ok (OK.ldBox S5 1 38 3 0 (.int .i64 c) (by kernel_rfl) rfl (by kernel_rfl)) ?_
        refine J.callF 39 35 #[.agg #[.slice m.gX_a m.gX_n m.gX_c, .slice m.gY_a m.gY_n m.gY_c, .slice m.gZ_a m.gZ_n m.gZ_c], .int .i64 a, .int .i64 c] hb35 (by kernel_rfl) (at_any m a c _ (mpQ_sep hm S5) hv) ?_
        rintro _ w8 ⟨rfl, T2⟩
        have S8 : Sep w [box b4 [.int .i64 0, .int .i64 0] 47, box b3 [.int .i64 c, .int .i64 d] 47, box b2 [.int .i64 a, .int .i64 b] 47, box b1 [.slice m.gX_a m.gX_n m.gX_c, .slice m.gY_a m.gY_n m.gY_c, .slice m.gZ_a m.gZ_n m.gZ_c] 25] w8 := S5.trans T2
        clear T2 S5
        refine J.run 7 K26_16 [(42, .agg #[.int .i64 (valueF m a c), .int .i64 (valueF m a c)]), (6, .pointer (some ⟨b4, 0, none⟩)), (5, .pointer (some ⟨b3, 0, none⟩)), (4, .pointer (some ⟨b2, 0, none⟩)), (3, .pointer (some ⟨b1, 0, none⟩))] w8 (by kernel_rfl) ?_
        refine J.new S8 9 [.int .i64 0, .int .i64 0] 47 (by kernel_rfl) ?_
        intro b5 w9 S9
        refine J.stBox S9 0 47 0 (.agg #[.int .i64 (valueF m a c), .int .i64 (valueF m a c)]) [.int .i64 (valueF m a c), .int .i64 (valueF m a c)] [box b5 [.int .i64 (valueF m a c), .int .i64 (valueF m a c)] 47, box b4 [.int .i64 0, .int .i64 0] 47, box b3 [.int .i64 c, .int .i64 d] 47, box b2 [.int .i64 a, .int .i64 b] 47, box b1 [.slice m.gX_a m.gX_n m.gX_c, .slice m.gY_a m.gY_n m.gY_c, .slice m.gZ_a m.gZ_n m.gZ_c] 25] (by kernel_rfl) rfl (by kernel_rfl) (by kernel_rfl) rfl ?_
        intro w10 S10
        refine J.run 5 K26_17 [(43, .pointer (some ⟨b1, 0, none⟩)), (9, .pointer (some ⟨b5, 0, none⟩)), (6, .pointer (some ⟨b4, 0, none⟩)), (5, .pointer (some ⟨b3, 0, none⟩)), (4, .pointer (some ⟨b2, 0, none⟩)), (3, .pointer (some ⟨b1, 0, none⟩))] w10 (by kernel_rfl) ?_
        refine J.ok (OK.ldBox S10 4 44 22 0 (.slice m.gX_a m.gX_n m.gX_c) (by kernel_rfl) rfl (by kernel_rfl)) ?_
        refine J.ok (OK.ldBox S10 3 45 47 0 (.agg #[.int .i64 a, .int .i64 b]) (by kernel_rfl) rfl (by kernel_rfl)) ?_
        refine J.callF 46 52 #[.slice m.gX_a m.gX_n m.gX_c, .agg #[.int .i64 a, .int .i64 b]] hb52 (by kernel_rfl) (points_any m.gX_a m.gX_n m.gX_c m.gX_l a b _ (q2.sep S10) (by omega) (by omega)) ?_
        rintro _ w11 ⟨ra1, rc1, rfl, T3⟩
        have S11 : Sep w [rowOf encI ra1 rc1 3 1 (ptsF m.gX_l a b), box b5 [.int .i64 (valueF m a c), .int .i64 (valueF m a c)] 47, box b4 [.int .i64 0, .int .i64 0] 47, box b3 [.int .i64 c, .int .i64 d] 47, box b2 [.int .i64 a, .int .i64 b] 47, box b1 [.slice m.gX_a m.gX_n m.gX_c, .slice m.gY_a m.gY_n m.gY_c, .slice m.gZ_a m.gZ_n m.gZ_c] 25] w11 := S10.trans T3
        clear T3 S10
        have := pts_len m.gX_l a b
        refine J.run 5 K26_18 [(48, .int .i64 0), (47, .int .i64 ((ptsF m.gX_l a b).length : Int)), (46, .slice ra1 ((ptsF m.gX_l a b).length) rc1), (9, .pointer (some ⟨b5, 0, none⟩)), (6, .pointer (some ⟨b4, 0, none⟩)), (5, .pointer (some ⟨b3, 0, none⟩)), (3, .pointer (some ⟨b1, 0, none⟩))] w11 (by kernel_rfl) ?_
        have L26_1 : ∀ (mm_ : Nat) (lo : Int) (hi : Int) (i : Int) (w12 : World), (0 ≤ i) → (i ≤ (((ptsF m.gX_l a b).length : Nat) : Int)) → (lo = minF (valueF m a c) (valsF m ((ptsF m.gX_l a b).take (i).toNat) (ptsF m.gY_l c d))) → (hi = maxF (valueF m a c) (valsF m ((ptsF m.gX_l a b).take (i).toNat) (ptsF m.gY_l c d))) → Sep w [rowOf encI ra1 rc1 3 1 (ptsF m.gX_l a b), box b5 [.int .i64 lo, .int .i64 hi] 47, box b4 [.int .i64 0, .int .i64 0] 47, box b3 [.int .i64 c, .int .i64 d] 47, box b2 [.int .i64 a, .int .i64 b] 47, box b1 [.slice m.gX_a m.gX_n m.gX_c, .slice m.gY_a m.gY_n m.gY_c, .slice m.gZ_a m.gZ_n m.gZ_c] 25] w12 → ((((ptsF m.gX_l a b).length : Nat) : Int) - i).toNat = mm_ → J Try.prog 26 93 R K26_18 [(48, .int .i64 i), (47, .int .i64 ((ptsF m.gX_l a b).length : Int)), (46, .slice ra1 ((ptsF m.gX_l a b).length) rc1), (9, .pointer (some ⟨b5, 0, none⟩)), (6, .pointer (some ⟨b4, 0, none⟩)), (5, .pointer (some ⟨b3, 0, none⟩)), (3, .pointer (some ⟨b1, 0, none⟩))] w12 := by
          intro mm1
          induction mm1 using Nat.strongRecOn with
          | _ mm1 ih1 =>
          intro lo hi i w12 h0 h1 hlo hhi S12 hm1
          have hlob := minF_in (d := valueF m a c) (value_in hX hY vm a c) (vals_in hX hY vm ((ptsF m.gX_l a b).take i.toNat) (ptsF m.gY_l c d)); rw [← hlo] at hlob
          have hhib := maxF_in (d := valueF m a c) (value_in hX hY vm a c) (vals_in hX hY vm ((ptsF m.gX_l a b).take i.toNat) (ptsF m.gY_l c d)); rw [← hhi] at hhib
          refine J.run 5 K26_19 [(49, .bool (decide (i < ((ptsF m.gX_l a b).length : Int)))), (48, .int .i64 i), (47, .int .i64 ((ptsF m.gX_l a b).length : Int)), (46, .slice ra1 ((ptsF m.gX_l a b).length) rc1), (9, .pointer (some ⟨b5, 0, none⟩)), (6, .pointer (some ⟨b4, 0, none⟩)), (5, .pointer (some ⟨b3, 0, none⟩)), (3, .pointer (some ⟨b1, 0, none⟩))] w12 (by kernel_rfl) ?_
          by_cases fk4 : i < ((ptsF m.gX_l a b).length : Int)
          · skip
            refine J.head (.bool true) (congrArg Value.bool (decide_eq_true fk4)) ?_
            refine J.run 6 K26_20 [(48, .int .i64 i), (47, .int .i64 ((ptsF m.gX_l a b).length : Int)), (46, .slice ra1 ((ptsF m.gX_l a b).length) rc1), (9, .pointer (some ⟨b5, 0, none⟩)), (6, .pointer (some ⟨b4, 0, none⟩)), (5, .pointer (some ⟨b3, 0, none⟩)), (3, .pointer (some ⟨b1, 0, none⟩))] w12 (by kernel_rfl) ?_
            obtain ⟨p1, hp1⟩ := row1_addr (S12.nth 0 rfl) (show 0 < (ptsF m.gX_l a b).length by first | omega | (simp; omega))
            refine J.ok (OK.index 50 22 1 ra1 p1 ((ptsF m.gX_l a b).length) (i).toNat i (p1.add (i).toNat) (by kernel_rfl) (by kernel_rfl) hp1 (by omega) (by first | omega | (simp; omega)) (by rw [Nat.mul_one])) ?_
            refine J.ok (OK.ldCell 51 3 (p1.add (i).toNat) (.int .i64 ((ptsF m.gX_l a b).getD (i).toNat 0)) (by kernel_rfl) (by kernel_rfl) (row1_cell (g := (Value.int .i64)) S12 0 rfl hp1 0 (i).toNat (by first | omega | (simp; omega)))) ?_
            refine J.run 5 K26_21 [(52, .pointer (some ⟨b1, 1, none⟩)), (11, .int .i64 ((ptsF m.gX_l a b).getD (i).toNat 0)), (48, .int .i64 i), (47, .int .i64 ((ptsF m.gX_l a b).length : Int)), (46, .slice ra1 ((ptsF m.gX_l a b).length) rc1), (9, .pointer (some ⟨b5, 0, none⟩)), (6, .pointer (some ⟨b4, 0, none⟩)), (5, .pointer (some ⟨b3, 0, none⟩)), (3, .pointer (some ⟨b1, 0, none⟩))] w12 (by kernel_rfl) ?_
            refine J.ok (OK.ldBox S12 5 53 22 1 (.slice m.gY_a m.gY_n m.gY_c) (by kernel_rfl) rfl (by kernel_rfl)) ?_
            refine J.ok (OK.ldBox S12 3 54 47 0 (.agg #[.int .i64 c, .int .i64 d]) (by kernel_rfl) rfl (by kernel_rfl)) ?_
            refine J.callF 55 52 #[.slice m.gY_a m.gY_n m.gY_c, .agg #[.int .i64 c, .int .i64 d]] hb52 (by kernel_rfl) (points_any m.gY_a m.gY_n m.gY_c m.gY_l c d _ (q5.sep S12) (by omega) (by omega)) ?_
            rintro _ w13 ⟨ra2, rc2, rfl, T4⟩
            have S13 : Sep w [rowOf encI ra2 rc2 3 1 (ptsF m.gY_l c d), rowOf encI ra1 rc1 3 1 (ptsF m.gX_l a b), box b5 [.int .i64 lo, .int .i64 hi] 47, box b4 [.int .i64 0, .int .i64 0] 47, box b3 [.int .i64 c, .int .i64 d] 47, box b2 [.int .i64 a, .int .i64 b] 47, box b1 [.slice m.gX_a m.gX_n m.gX_c, .slice m.gY_a m.gY_n m.gY_c, .slice m.gZ_a m.gZ_n m.gZ_c] 25] w13 := S12.trans T4
            clear T4 S12
            have := pts_len m.gY_l c d
            refine J.run 5 K26_22 [(57, .int .i64 0), (56, .int .i64 ((ptsF m.gY_l c d).length : Int)), (55, .slice ra2 ((ptsF m.gY_l c d).length) rc2), (11, .int .i64 ((ptsF m.gX_l a b).getD (i).toNat 0)), (48, .int .i64 i), (47, .int .i64 ((ptsF m.gX_l a b).length : Int)), (46, .slice ra1 ((ptsF m.gX_l a b).length) rc1), (9, .pointer (some ⟨b5, 0, none⟩)), (6, .pointer (some ⟨b4, 0, none⟩)), (5, .pointer (some ⟨b3, 0, none⟩)), (3, .pointer (some ⟨b1, 0, none⟩))] w13 (by kernel_rfl) ?_
            have L26_2 : ∀ (mm_ : Nat) (lo2 : Int) (hi2 : Int) (j : Int) (w14 : World), (0 ≤ j) → (j ≤ (((ptsF m.gY_l c d).length : Nat) : Int)) → (lo2 = minF (valueF m a c) (vals2 m (ptsF m.gX_l a b) (ptsF m.gY_l c d) i j)) → (hi2 = maxF (valueF m a c) (vals2 m (ptsF m.gX_l a b) (ptsF m.gY_l c d) i j)) → Sep w [rowOf encI ra2 rc2 3 1 (ptsF m.gY_l c d), rowOf encI ra1 rc1 3 1 (ptsF m.gX_l a b), box b5 [.int .i64 lo2, .int .i64 hi2] 47, box b4 [.int .i64 0, .int .i64 0] 47, box b3 [.int .i64 c, .int .i64 d] 47, box b2 [.int .i64 a, .int .i64 b] 47, box b1 [.slice m.gX_a m.gX_n m.gX_c, .slice m.gY_a m.gY_n m.gY_c, .slice m.gZ_a m.gZ_n m.gZ_c] 25] w14 → ((((ptsF m.gY_l c d).length : Nat) : Int) - j).toNat = mm_ → J Try.prog 26 93 R K26_22 [(57, .int .i64 j), (56, .int .i64 ((ptsF m.gY_l c d).length : Int)), (55, .slice ra2 ((ptsF m.gY_l c d).length) rc2), (11, .int .i64 ((ptsF m.gX_l a b).getD (i).toNat 0)), (48, .int .i64 i), (47, .int .i64 ((ptsF m.gX_l a b).length : Int)), (46, .slice ra1 ((ptsF m.gX_l a b).length) rc1), (9, .pointer (some ⟨b5, 0, none⟩)), (6, .pointer (some ⟨b4, 0, none⟩)), (5, .pointer (some ⟨b3, 0, none⟩)), (3, .pointer (some ⟨b1, 0, none⟩))] w14 := by
              intro mm2
              induction mm2 using Nat.strongRecOn with
              | _ mm2 ih2 =>
              intro lo2 hi2 j w14 j0 j1 hlo2 hhi2 S14 hm2
              refine J.run 5 K26_23 [(58, .bool (decide (j < ((ptsF m.gY_l c d).length : Int)))), (57, .int .i64 j), (56, .int .i64 ((ptsF m.gY_l c d).length : Int)), (55, .slice ra2 ((ptsF m.gY_l c d).length) rc2), (11, .int .i64 ((ptsF m.gX_l a b).getD (i).toNat 0)), (48, .int .i64 i), (47, .int .i64 ((ptsF m.gX_l a b).length : Int)), (46, .slice ra1 ((ptsF m.gX_l a b).length) rc1), (9, .pointer (some ⟨b5, 0, none⟩)), (6, .pointer (some ⟨b4, 0, none⟩)), (5, .pointer (some ⟨b3, 0, none⟩)), (3, .pointer (some ⟨b1, 0, none⟩))] w14 (by kernel_rfl) ?_
              by_cases fk5 : j < ((ptsF m.gY_l c d).length : Int)
              · skip
                refine J.head (.bool true) (congrArg Value.bool (decide_eq_true fk5)) ?_
                refine J.run 6 K26_24 [(57, .int .i64 j), (56, .int .i64 ((ptsF m.gY_l c d).length : Int)), (55, .slice ra2 ((ptsF m.gY_l c d).length) rc2), (11, .int .i64 ((ptsF m.gX_l a b).getD (i).toNat 0)), (48, .int .i64 i), (47, .int .i64 ((ptsF m.gX_l a b).length : Int)), (46, .slice ra1 ((ptsF m.gX_l a b).length) rc1), (9, .pointer (some ⟨b5, 0, none⟩)), (6, .pointer (some ⟨b4, 0, none⟩)), (5, .pointer (some ⟨b3, 0, none⟩)), (3, .pointer (some ⟨b1, 0, none⟩))] w14 (by kernel_rfl) ?_
                obtain ⟨p2, hp2⟩ := row1_addr (S14.nth 0 rfl) (show 0 < (ptsF m.gY_l c d).length by first | omega | (simp; omega))
                refine J.ok (OK.index 59 22 1 ra2 p2 ((ptsF m.gY_l c d).length) (j).toNat j (p2.add (j).toNat) (by kernel_rfl) (by kernel_rfl) hp2 (by omega) (by first | omega | (simp; omega)) (by rw [Nat.mul_one])) ?_
                refine J.ok (OK.ldCell 60 3 (p2.add (j).toNat) (.int .i64 ((ptsF m.gY_l c d).getD (j).toNat 0)) (by kernel_rfl) (by kernel_rfl) (row1_cell (g := (Value.int .i64)) S14 0 rfl hp2 0 (j).toNat (by first | omega | (simp; omega)))) ?_
                refine J.run 4 K26_25 [(13, .int .i64 ((ptsF m.gY_l c d).getD (j).toNat 0)), (57, .int .i64 j), (56, .int .i64 ((ptsF m.gY_l c d).length : Int)), (55, .slice ra2 ((ptsF m.gY_l c d).length) rc2), (11, .int .i64 ((ptsF m.gX_l a b).getD (i).toNat 0)), (48, .int .i64 i), (47, .int .i64 ((ptsF m.gX_l a b).length : Int)), (46, .slice ra1 ((ptsF m.gX_l a b).length) rc1), (9, .pointer (some ⟨b5, 0, none⟩)), (6, .pointer (some ⟨b4, 0, none⟩)), (5, .pointer (some ⟨b3, 0, none⟩)), (3, .pointer (some ⟨b1, 0, none⟩))] w14 (by kernel_rfl) ?_
                refine J.ok (OK.ldBox S14 6 61 25 0 (.agg #[.slice m.gX_a m.gX_n m.gX_c, .slice m.gY_a m.gY_n m.gY_c, .slice m.gZ_a m.gZ_n m.gZ_c]) (by kernel_rfl) rfl (by kernel_rfl)) ?_
                refine J.run 2 K26_26 [(63, .int .i64 ((ptsF m.gY_l c d).getD (j).toNat 0)), (62, .int .i64 ((ptsF m.gX_l a b).getD (i).toNat 0)), (61, .agg #[.slice m.gX_a m.gX_n m.gX_c, .slice m.gY_a m.gY_n m.gY_c, .slice m.gZ_a m.gZ_n m.gZ_c]), (57, .int .i64 j), (56, .int .i64 ((ptsF m.gY_l c d).length : Int)), (55, .slice ra2 ((ptsF m.gY_l c d).length) rc2), (11, .int .i64 ((ptsF m.gX_l a b).getD (i).toNat 0)), (48, .int .i64 i), (47, .int .i64 ((ptsF m.gX_l a b).length : Int)), (46, .slice ra1 ((ptsF m.gX_l a b).length) rc1), (9, .pointer (some ⟨b5, 0, none⟩)), (6, .pointer (some ⟨b4, 0, none⟩)), (5, .pointer (some ⟨b3, 0, none⟩)), (3, .pointer (some ⟨b1, 0, none⟩))] w14 (by kernel_rfl) ?_
                refine J.callF 64 35 #[.agg #[.slice m.gX_a m.gX_n m.gX_c, .slice m.gY_a m.gY_n m.gY_c, .slice m.gZ_a m.gZ_n m.gZ_c], .int .i64 ((ptsF m.gX_l a b).getD (i).toNat 0), .int .i64 ((ptsF m.gY_l c d).getD (j).toNat 0)] hb35 (by kernel_rfl) (at_any m ((ptsF m.gX_l a b).getD (i).toNat 0) ((ptsF m.gY_l c d).getD (j).toNat 0) _ (mpQ_sep hm S14) hv) ?_
                rintro _ w15 ⟨rfl, T5⟩
                have S15 : Sep w [rowOf encI ra2 rc2 3 1 (ptsF m.gY_l c d), rowOf encI ra1 rc1 3 1 (ptsF m.gX_l a b), box b5 [.int .i64 lo2, .int .i64 hi2] 47, box b4 [.int .i64 0, .int .i64 0] 47, box b3 [.int .i64 c, .int .i64 d] 47, box b2 [.int .i64 a, .int .i64 b] 47, box b1 [.slice m.gX_a m.gX_n m.gX_c, .slice m.gY_a m.gY_n m.gY_c, .slice m.gZ_a m.gZ_n m.gZ_c] 25] w15 := S14.trans T5
                clear T5 S14
                refine J.run 4 K26_27 [(65, .pointer (some ⟨b5, 0, none⟩)), (14, .int .i64 (valueF m ((ptsF m.gX_l a b).getD (i).toNat 0) ((ptsF m.gY_l c d).getD (j).toNat 0))), (57, .int .i64 j), (56, .int .i64 ((ptsF m.gY_l c d).length : Int)), (55, .slice ra2 ((ptsF m.gY_l c d).length) rc2), (11, .int .i64 ((ptsF m.gX_l a b).getD (i).toNat 0)), (48, .int .i64 i), (47, .int .i64 ((ptsF m.gX_l a b).length : Int)), (46, .slice ra1 ((ptsF m.gX_l a b).length) rc1), (9, .pointer (some ⟨b5, 0, none⟩)), (6, .pointer (some ⟨b4, 0, none⟩)), (5, .pointer (some ⟨b3, 0, none⟩)), (3, .pointer (some ⟨b1, 0, none⟩))] w15 (by kernel_rfl) ?_
                refine J.ok (OK.ldBox S15 2 66 3 0 (.int .i64 lo2) (by kernel_rfl) rfl (by kernel_rfl)) ?_
                refine J.run 2 K26_28 [(68, .int .i64 (if (valueF m ((ptsF m.gX_l a b).getD (i).toNat 0) ((ptsF m.gY_l c d).getD (j).toNat 0)) < lo2 then (valueF m ((ptsF m.gX_l a b).getD (i).toNat 0) ((ptsF m.gY_l c d).getD (j).toNat 0)) else lo2)), (14, .int .i64 (valueF m ((ptsF m.gX_l a b).getD (i).toNat 0) ((ptsF m.gY_l c d).getD (j).toNat 0))), (57, .int .i64 j), (56, .int .i64 ((ptsF m.gY_l c d).length : Int)), (55, .slice ra2 ((ptsF m.gY_l c d).length) rc2), (11, .int .i64 ((ptsF m.gX_l a b).getD (i).toNat 0)), (48, .int .i64 i), (47, .int .i64 ((ptsF m.gX_l a b).length : Int)), (46, .slice ra1 ((ptsF m.gX_l a b).length) rc1), (9, .pointer (some ⟨b5, 0, none⟩)), (6, .pointer (some ⟨b4, 0, none⟩)), (5, .pointer (some ⟨b3, 0, none⟩)), (3, .pointer (some ⟨b1, 0, none⟩))] w15 (by kernel_rfl) ?_
                refine J.head (.int .i64 (min lo2 (valueF m ((ptsF m.gX_l a b).getD (i).toNat 0) ((ptsF m.gY_l c d).getD (j).toNat 0)))) (congrArg (Value.int .i64) (by omega)) ?_
                refine J.run 1 K26_29 [(69, .pointer (some ⟨b5, 1, none⟩)), (68, .int .i64 (min lo2 (valueF m ((ptsF m.gX_l a b).getD (i).toNat 0) ((ptsF m.gY_l c d).getD (j).toNat 0)))), (14, .int .i64 (valueF m ((ptsF m.gX_l a b).getD (i).toNat 0) ((ptsF m.gY_l c d).getD (j).toNat 0))), (57, .int .i64 j), (56, .int .i64 ((ptsF m.gY_l c d).length : Int)), (55, .slice ra2 ((ptsF m.gY_l c d).length) rc2), (11, .int .i64 ((ptsF m.gX_l a b).getD (i).toNat 0)), (48, .int .i64 i), (47, .int .i64 ((ptsF m.gX_l a b).length : Int)), (46, .slice ra1 ((ptsF m.gX_l a b).length) rc1), (9, .pointer (some ⟨b5, 0, none⟩)), (6, .pointer (some ⟨b4, 0, none⟩)), (5, .pointer (some ⟨b3, 0, none⟩)), (3, .pointer (some ⟨b1, 0, none⟩))] w15 (by kernel_rfl) ?_
                refine J.ok (OK.ldBox S15 2 70 3 1 (.int .i64 hi2) (by kernel_rfl) rfl (by kernel_rfl)) ?_
                refine J.run 2 K26_30 [(72, .int .i64 (if (valueF m ((ptsF m.gX_l a b).getD (i).toNat 0) ((ptsF m.gY_l c d).getD (j).toNat 0)) > hi2 then (valueF m ((ptsF m.gX_l a b).getD (i).toNat 0) ((ptsF m.gY_l c d).getD (j).toNat 0)) else hi2)), (68, .int .i64 (min lo2 (valueF m ((ptsF m.gX_l a b).getD (i).toNat 0) ((ptsF m.gY_l c d).getD (j).toNat 0)))), (57, .int .i64 j), (56, .int .i64 ((ptsF m.gY_l c d).length : Int)), (55, .slice ra2 ((ptsF m.gY_l c d).length) rc2), (11, .int .i64 ((ptsF m.gX_l a b).getD (i).toNat 0)), (48, .int .i64 i), (47, .int .i64 ((ptsF m.gX_l a b).length : Int)), (46, .slice ra1 ((ptsF m.gX_l a b).length) rc1), (9, .pointer (some ⟨b5, 0, none⟩)), (6, .pointer (some ⟨b4, 0, none⟩)), (5, .pointer (some ⟨b3, 0, none⟩)), (3, .pointer (some ⟨b1, 0, none⟩))] w15 (by kernel_rfl) ?_
                refine J.head (.int .i64 (max hi2 (valueF m ((ptsF m.gX_l a b).getD (i).toNat 0) ((ptsF m.gY_l c d).getD (j).toNat 0)))) (congrArg (Value.int .i64) (by omega)) ?_
                refine J.run 1 K26_31 [(73, .pointer (some ⟨b5, 0, none⟩)), (72, .int .i64 (max hi2 (valueF m ((ptsF m.gX_l a b).getD (i).toNat 0) ((ptsF m.gY_l c d).getD (j).toNat 0)))), (68, .int .i64 (min lo2 (valueF m ((ptsF m.gX_l a b).getD (i).toNat 0) ((ptsF m.gY_l c d).getD (j).toNat 0)))), (57, .int .i64 j), (56, .int .i64 ((ptsF m.gY_l c d).length : Int)), (55, .slice ra2 ((ptsF m.gY_l c d).length) rc2), (11, .int .i64 ((ptsF m.gX_l a b).getD (i).toNat 0)), (48, .int .i64 i), (47, .int .i64 ((ptsF m.gX_l a b).length : Int)), (46, .slice ra1 ((ptsF m.gX_l a b).length) rc1), (9, .pointer (some ⟨b5, 0, none⟩)), (6, .pointer (some ⟨b4, 0, none⟩)), (5, .pointer (some ⟨b3, 0, none⟩)), (3, .pointer (some ⟨b1, 0, none⟩))] w15 (by kernel_rfl) ?_
                refine J.stBox S15 2 3 0 (.int .i64 (min lo2 (valueF m ((ptsF m.gX_l a b).getD (i).toNat 0) ((ptsF m.gY_l c d).getD (j).toNat 0)))) [.int .i64 (min lo2 (valueF m ((ptsF m.gX_l a b).getD (i).toNat 0) ((ptsF m.gY_l c d).getD (j).toNat 0))), .int .i64 hi2] [rowOf encI ra2 rc2 3 1 (ptsF m.gY_l c d), rowOf encI ra1 rc1 3 1 (ptsF m.gX_l a b), box b5 [.int .i64 (min lo2 (valueF m ((ptsF m.gX_l a b).getD (i).toNat 0) ((ptsF m.gY_l c d).getD (j).toNat 0))), .int .i64 hi2] 47, box b4 [.int .i64 0, .int .i64 0] 47, box b3 [.int .i64 c, .int .i64 d] 47, box b2 [.int .i64 a, .int .i64 b] 47, box b1 [.slice m.gX_a m.gX_n m.gX_c, .slice m.gY_a m.gY_n m.gY_c, .slice m.gZ_a m.gZ_n m.gZ_c] 25] (by kernel_rfl) rfl (by kernel_rfl) (by kernel_rfl) rfl ?_
                intro w16 S16
                refine J.run 1 K26_32 [(74, .pointer (some ⟨b5, 1, none⟩)), (72, .int .i64 (max hi2 (valueF m ((ptsF m.gX_l a b).getD (i).toNat 0) ((ptsF m.gY_l c d).getD (j).toNat 0)))), (57, .int .i64 j), (56, .int .i64 ((ptsF m.gY_l c d).length : Int)), (55, .slice ra2 ((ptsF m.gY_l c d).length) rc2), (11, .int .i64 ((ptsF m.gX_l a b).getD (i).toNat 0)), (48, .int .i64 i), (47, .int .i64 ((ptsF m.gX_l a b).length : Int)), (46, .slice ra1 ((ptsF m.gX_l a b).length) rc1), (9, .pointer (some ⟨b5, 0, none⟩)), (6, .pointer (some ⟨b4, 0, none⟩)), (5, .pointer (some ⟨b3, 0, none⟩)), (3, .pointer (some ⟨b1, 0, none⟩))] w16 (by kernel_rfl) ?_
                refine J.stBox S16 2 3 1 (.int .i64 (max hi2 (valueF m ((ptsF m.gX_l a b).getD (i).toNat 0) ((ptsF m.gY_l c d).getD (j).toNat 0)))) [.int .i64 (min lo2 (valueF m ((ptsF m.gX_l a b).getD (i).toNat 0) ((ptsF m.gY_l c d).getD (j).toNat 0))), .int .i64 (max hi2 (valueF m ((ptsF m.gX_l a b).getD (i).toNat 0) ((ptsF m.gY_l c d).getD (j).toNat 0)))] [rowOf encI ra2 rc2 3 1 (ptsF m.gY_l c d), rowOf encI ra1 rc1 3 1 (ptsF m.gX_l a b), box b5 [.int .i64 (min lo2 (valueF m ((ptsF m.gX_l a b).getD (i).toNat 0) ((ptsF m.gY_l c d).getD (j).toNat 0))), .int .i64 (max hi2 (valueF m ((ptsF m.gX_l a b).getD (i).toNat 0) ((ptsF m.gY_l c d).getD (j).toNat 0)))] 47, box b4 [.int .i64 0, .int .i64 0] 47, box b3 [.int .i64 c, .int .i64 d] 47, box b2 [.int .i64 a, .int .i64 b] 47, box b1 [.slice m.gX_a m.gX_n m.gX_c, .slice m.gY_a m.gY_n m.gY_c, .slice m.gZ_a m.gZ_n m.gZ_c] 25] (by kernel_rfl) rfl (by kernel_rfl) (by kernel_rfl) rfl ?_
                intro w17 S17
                refine J.run 4 K26_33 [(75, .int .i64 (IntKind.wrap .i64 (j + 1))), (56, .int .i64 ((ptsF m.gY_l c d).length : Int)), (55, .slice ra2 ((ptsF m.gY_l c d).length) rc2), (11, .int .i64 ((ptsF m.gX_l a b).getD (i).toNat 0)), (48, .int .i64 i), (47, .int .i64 ((ptsF m.gX_l a b).length : Int)), (46, .slice ra1 ((ptsF m.gX_l a b).length) rc1), (9, .pointer (some ⟨b5, 0, none⟩)), (6, .pointer (some ⟨b4, 0, none⟩)), (5, .pointer (some ⟨b3, 0, none⟩)), (3, .pointer (some ⟨b1, 0, none⟩))] w17 (by kernel_rfl) ?_
                refine J.head (.int .i64 (j + 1)) (congrArg (Value.int .i64) (IntWalk.i64_in _ (by omega))) ?_
                refine J.run 3 K26_22 [(57, .int .i64 (j + 1)), (56, .int .i64 ((ptsF m.gY_l c d).length : Int)), (55, .slice ra2 ((ptsF m.gY_l c d).length) rc2), (11, .int .i64 ((ptsF m.gX_l a b).getD (i).toNat 0)), (48, .int .i64 i), (47, .int .i64 ((ptsF m.gX_l a b).length : Int)), (46, .slice ra1 ((ptsF m.gX_l a b).length) rc1), (9, .pointer (some ⟨b5, 0, none⟩)), (6, .pointer (some ⟨b4, 0, none⟩)), (5, .pointer (some ⟨b3, 0, none⟩)), (3, .pointer (some ⟨b1, 0, none⟩))] w17 (by kernel_rfl) ?_
                refine J.run 0 K26_22 [(57, .int .i64 (j + 1)), (56, .int .i64 ((ptsF m.gY_l c d).length : Int)), (55, .slice ra2 ((ptsF m.gY_l c d).length) rc2), (11, .int .i64 ((ptsF m.gX_l a b).getD (i).toNat 0)), (48, .int .i64 i), (47, .int .i64 ((ptsF m.gX_l a b).length : Int)), (46, .slice ra1 ((ptsF m.gX_l a b).length) rc1), (9, .pointer (some ⟨b5, 0, none⟩)), (6, .pointer (some ⟨b4, 0, none⟩)), (5, .pointer (some ⟨b3, 0, none⟩)), (3, .pointer (some ⟨b1, 0, none⟩))] w17 (by kernel_rfl) ?_
                exact ih2 _ (show ((((ptsF m.gY_l c d).length : Nat) : Int) - (j + 1)).toNat < mm2 from by omega) (min lo2 (valueF m ((ptsF m.gX_l a b).getD (i).toNat 0) ((ptsF m.gY_l c d).getD (j).toNat 0))) (max hi2 (valueF m ((ptsF m.gX_l a b).getD (i).toNat 0) ((ptsF m.gY_l c d).getD (j).toNat 0))) (j + 1) w17 (by omega) (by omega) (by rw [hlo2, vals2_step j0 (by omega), minF_snoc]) (by rw [hhi2, vals2_step j0 (by omega), maxF_snoc]) S17 rfl
              · skip
                refine J.head (.bool false) (congrArg Value.bool (decide_eq_false fk5)) ?_
                refine J.run 5 K26_34 [(76, .int .i64 (IntKind.wrap .i64 (i + 1))), (47, .int .i64 ((ptsF m.gX_l a b).length : Int)), (46, .slice ra1 ((ptsF m.gX_l a b).length) rc1), (9, .pointer (some ⟨b5, 0, none⟩)), (6, .pointer (some ⟨b4, 0, none⟩)), (5, .pointer (some ⟨b3, 0, none⟩)), (3, .pointer (some ⟨b1, 0, none⟩))] w14 (by kernel_rfl) ?_
                refine J.head (.int .i64 (i + 1)) (congrArg (Value.int .i64) (IntWalk.i64_in _ (by omega))) ?_
                refine J.run 3 K26_18 [(48, .int .i64 (i + 1)), (47, .int .i64 ((ptsF m.gX_l a b).length : Int)), (46, .slice ra1 ((ptsF m.gX_l a b).length) rc1), (9, .pointer (some ⟨b5, 0, none⟩)), (6, .pointer (some ⟨b4, 0, none⟩)), (5, .pointer (some ⟨b3, 0, none⟩)), (3, .pointer (some ⟨b1, 0, none⟩))] w14 (by kernel_rfl) ?_
                have S18 : Sep w [rowOf encI ra1 rc1 3 1 (ptsF m.gX_l a b), box b5 [.int .i64 lo2, .int .i64 hi2] 47, box b4 [.int .i64 0, .int .i64 0] 47, box b3 [.int .i64 c, .int .i64 d] 47, box b2 [.int .i64 a, .int .i64 b] 47, box b1 [.slice m.gX_a m.gX_n m.gX_c, .slice m.gY_a m.gY_n m.gY_c, .slice m.gZ_a m.gZ_n m.gZ_c] 25] w14 := S14.erase 0
                clear S14
                refine J.run 0 K26_18 [(48, .int .i64 (i + 1)), (47, .int .i64 ((ptsF m.gX_l a b).length : Int)), (46, .slice ra1 ((ptsF m.gX_l a b).length) rc1), (9, .pointer (some ⟨b5, 0, none⟩)), (6, .pointer (some ⟨b4, 0, none⟩)), (5, .pointer (some ⟨b3, 0, none⟩)), (3, .pointer (some ⟨b1, 0, none⟩))] w14 (by kernel_rfl) ?_
                exact ih1 _ (show ((((ptsF m.gX_l a b).length : Nat) : Int) - (i + 1)).toNat < mm1 from by omega) lo2 hi2 (i + 1) w14 (by omega) (by omega) (by rw [hlo2, vals2_end h0 (by omega) (by omega)]) (by rw [hhi2, vals2_end h0 (by omega) (by omega)]) S18 rfl
            exact L26_2 _ lo hi 0 w13 (by omega) (by omega) (by rw [hlo, vals2_zero]) (by rw [hhi, vals2_zero]) S13 rfl
          · skip
            refine J.head (.bool false) (congrArg Value.bool (decide_eq_false fk4)) ?_
            refine J.run 5 K26_35 [(77, .pointer (some ⟨b1, 2, none⟩)), (9, .pointer (some ⟨b5, 0, none⟩)), (6, .pointer (some ⟨b4, 0, none⟩))] w12 (by kernel_rfl) ?_
            refine J.ok (OK.ldBox S12 5 78 23 2 (.slice m.gZ_a m.gZ_n m.gZ_c) (by kernel_rfl) rfl (by kernel_rfl)) ?_
            refine J.callF 79 53 #[.slice m.gZ_a m.gZ_n m.gZ_c] hb53 (by kernel_rfl) (concat_any m.gZ_a m.gZ_n m.gZ_c m.gZ_l _ (q8.sep S12) (fun y hy => rwQ_sep (q9 y hy) S12) (by have h_ := flat_size (l := m.gZ_l) (n := m.gY_n) (fun j hj => by have := (hv4 j hj).1; have := row_len hm hj; omega); rw [h_]; have := Nat.mul_le_mul (show m.gZ_l.length ≤ 32 by omega) (show m.gY_n ≤ 32 by omega); omega) (by omega)) ?_
            rintro _ w18 ⟨ra3, rc3, rfl, T6⟩
            have S19 : Sep w [rowOf encI ra3 rc3 3 1 (allZ m), rowOf encI ra1 rc1 3 1 (ptsF m.gX_l a b), box b5 [.int .i64 lo, .int .i64 hi] 47, box b4 [.int .i64 0, .int .i64 0] 47, box b3 [.int .i64 c, .int .i64 d] 47, box b2 [.int .i64 a, .int .i64 b] 47, box b1 [.slice m.gX_a m.gX_n m.gX_c, .slice m.gY_a m.gY_n m.gY_c, .slice m.gZ_a m.gZ_n m.gZ_c] 25] w18 := S12.trans T6
            clear T6 S12
            refine J.run 3 K26_36 [(15, .slice ra3 ((allZ m).length) rc3), (9, .pointer (some ⟨b5, 0, none⟩)), (6, .pointer (some ⟨b4, 0, none⟩))] w18 (by kernel_rfl) ?_
            refine J.drawPlan (fun w_ => Sep w [rowOf encI ra3 rc3 3 1 (allZ m), rowOf encI ra1 rc1 3 1 (ptsF m.gX_l a b), box b5 [.int .i64 lo, .int .i64 hi] 47, box b3 [.int .i64 c, .int .i64 d] 47, box b2 [.int .i64 a, .int .i64 b] 47, box b1 [.slice m.gX_a m.gX_n m.gX_c, .slice m.gY_a m.gY_n m.gY_c, .slice m.gZ_a m.gZ_n m.gZ_c] 25] w_) [(0, true), (1, true), (2, true), (3, true), (6, true), (7, true), (8, true), (9, true), (4, false), (5, true), (10, false), (11, true), (12, true), (13, false), (14, true)] S19 Try.mixed (by kernel_rfl) (planOK_of (T := [(0, some 80, 512), (1, some 81, 1208925819614629174706176), (2, some 82, 2417851639229258349412352), (0, some 83, 32768), (8, some 84, 9671406556917033397649408), (20, some 85, 24178516392292583494123520), (0, some 86, 512), (64, some 87, 77371252455336267181195264), (128, some 88, 154742504910672534362390528), (0, some 89, 32768), (528, some 90, 618970019642690137449562112), (1280, some 91, 1547425049106725343623905280), (2080, some 92, 2514565704798428683388846080), (8191, none, 4951760157141521099596496960), (16383, some 7, 0)]) (by kernel_rfl) (by kernel_rfl)) ?_
            intro w19 S20
            refine PB.mk (S20.sub (.cons_cons _ (.cons_cons _ (.cons_cons _ (.cons _ (.cons_cons _ (.cons_cons _ (.cons_cons _ (.slnil))))))))) ?_
            refine PL.take 0 80 (.pointer (some ⟨b5, 0, none⟩)) (fun _ _ => by kernel_rfl) ?_
            refine PL.takeOK 1 (fun w_ S_ => OK.ldBox S_ 2 81 3 0 (.int .i64 lo) (by kernel_rfl) rfl (by kernel_rfl)) rfl ?_
            refine PL.take 2 82 (.int .i64 (IntKind.wrap .i64 (lo - 1))) (fun _ _ => by kernel_rfl) ?_
            refine PL.head (.int .i64 (lo - 1)) (congrArg (Value.int .i64) (IntWalk.i64_in _ (by omega))) ?_
            refine PL.take 3 83 (.slice ra3 ((allZ m).length) rc3) (fun _ _ => by kernel_rfl) ?_
            refine PL.take 6 86 (.pointer (some ⟨b5, 1, none⟩)) (fun _ _ => by kernel_rfl) ?_
            refine PL.takeOK 7 (fun w_ S_ => OK.ldBox S_ 2 87 3 1 (.int .i64 hi) (by kernel_rfl) rfl (by kernel_rfl)) rfl ?_
            refine PL.take 8 88 (.int .i64 (IntKind.wrap .i64 (hi + 1))) (fun _ _ => by kernel_rfl) ?_
            refine PL.head (.int .i64 (hi + 1)) (congrArg (Value.int .i64) (IntWalk.i64_in _ (by omega))) ?_
            refine PL.take 9 89 (.slice ra3 ((allZ m).length) rc3) (fun _ _ => by kernel_rfl) ?_
            have hal : 0 < (allZ m).length := List.length_pos_of_mem (allZ_mem (m := m) (i := 0) (j := 0) (by omega) (by have := row_len hm (i := 0) (by omega); have := (hv4 0 (by omega)).1; omega))
            have := rowOf_len (S20.nth 0 rfl)
            refine PL.callF 84 54 #[.slice ra3 ((allZ m).length) rc3] hb54 (by kernel_rfl) (min_any ra3 ((allZ m).length) rc3 (allZ m) _ ((row1_ones (S20.nth 0 rfl) ((allZ m).length) (by first | rfl | omega | simp))) (by first | omega | (simp; omega)) (by omega)) ?_
            rintro _ w20 ⟨rfl, T7⟩
            have S21 : Sep w [rowOf encI ra3 rc3 3 1 (allZ m), rowOf encI ra1 rc1 3 1 (ptsF m.gX_l a b), box b5 [.int .i64 lo, .int .i64 hi] 47, box b4 [.int .i64 0, .int .i64 0] 47, box b3 [.int .i64 c, .int .i64 d] 47, box b2 [.int .i64 a, .int .i64 b] 47, box b1 [.slice m.gX_a m.gX_n m.gX_c, .slice m.gY_a m.gY_n m.gY_c, .slice m.gZ_a m.gZ_n m.gZ_c] 25] w20 := S20.trans T7
            clear T7 S20
            refine PB.mk (S21.sub (.cons_cons _ (.cons_cons _ (.cons_cons _ (.cons _ (.cons_cons _ (.cons_cons _ (.cons_cons _ (.slnil))))))))) ?_
            refine PL.take 5 85 (.int .i64 (if (minF ((allZ m).getD 0 0) (allZ m)) > (lo - 1) then (minF ((allZ m).getD 0 0) (allZ m)) else (lo - 1))) (fun _ _ => by kernel_rfl) ?_
            refine PL.head (.int .i64 (max (lo - 1) (minF ((allZ m).getD 0 0) (allZ m)))) (congrArg (Value.int .i64) (by omega)) ?_
            have := rowOf_len (S21.nth 0 rfl)
            refine PL.callF 90 55 #[.slice ra3 ((allZ m).length) rc3] hb55 (by kernel_rfl) (max_any ra3 ((allZ m).length) rc3 (allZ m) _ ((row1_ones (S21.nth 0 rfl) ((allZ m).length) (by first | rfl | omega | simp))) (by first | omega | (simp; omega)) (by omega)) ?_
            rintro _ w21 ⟨rfl, T8⟩
            have S22 : Sep w [rowOf encI ra3 rc3 3 1 (allZ m), rowOf encI ra1 rc1 3 1 (ptsF m.gX_l a b), box b5 [.int .i64 lo, .int .i64 hi] 47, box b4 [.int .i64 0, .int .i64 0] 47, box b3 [.int .i64 c, .int .i64 d] 47, box b2 [.int .i64 a, .int .i64 b] 47, box b1 [.slice m.gX_a m.gX_n m.gX_c, .slice m.gY_a m.gY_n m.gY_c, .slice m.gZ_a m.gZ_n m.gZ_c] 25] w21 := S21.trans T8
            clear T8 S21
            refine PB.mk (S22.sub (.cons_cons _ (.cons_cons _ (.cons_cons _ (.cons _ (.cons_cons _ (.cons_cons _ (.cons_cons _ (.slnil))))))))) ?_
            refine PL.take 11 91 (.int .i64 (if (maxF ((allZ m).getD 0 0) (allZ m)) < (hi + 1) then (maxF ((allZ m).getD 0 0) (allZ m)) else (hi + 1))) (fun _ _ => by kernel_rfl) ?_
            refine PL.head (.int .i64 (min (hi + 1) (maxF ((allZ m).getD 0 0) (allZ m)))) (congrArg (Value.int .i64) (by omega)) ?_
            refine PL.take 12 92 (.agg #[.int .i64 (max (lo - 1) (minF ((allZ m).getD 0 0) (allZ m))), .int .i64 (min (hi + 1) (maxF ((allZ m).getD 0 0) (allZ m)))]) (fun _ _ => by kernel_rfl) ?_
            refine PL.stBox S22 3 47 0 (.agg #[.int .i64 (max (lo - 1) (minF ((allZ m).getD 0 0) (allZ m))), .int .i64 (min (hi + 1) (maxF ((allZ m).getD 0 0) (allZ m)))]) [.int .i64 (max (lo - 1) (minF ((allZ m).getD 0 0) (allZ m))), .int .i64 (min (hi + 1) (maxF ((allZ m).getD 0 0) (allZ m)))] [rowOf encI ra3 rc3 3 1 (allZ m), rowOf encI ra1 rc1 3 1 (ptsF m.gX_l a b), box b5 [.int .i64 lo, .int .i64 hi] 47, box b4 [.int .i64 (max (lo - 1) (minF ((allZ m).getD 0 0) (allZ m))), .int .i64 (min (hi + 1) (maxF ((allZ m).getD 0 0) (allZ m)))] 47, box b3 [.int .i64 c, .int .i64 d] 47, box b2 [.int .i64 a, .int .i64 b] 47, box b1 [.slice m.gX_a m.gX_n m.gX_c, .slice m.gY_a m.gY_n m.gY_c, .slice m.gZ_a m.gZ_n m.gZ_c] 25] (by kernel_rfl) rfl (by kernel_rfl) (by kernel_rfl) rfl ?_
            intro w22 S23
            refine PB.mk (S23.sub (.cons_cons _ (.cons_cons _ (.cons_cons _ (.cons _ (.cons_cons _ (.cons_cons _ (.cons_cons _ (.slnil))))))))) ?_
            refine PL.take 14 7 (.int .i64 0) (fun _ _ => by kernel_rfl) ?_
            refine PL.done ?_
            refine J.run 0 (rRest K26_36) [(7, .int .i64 0), (6, .pointer (some ⟨b4, 0, none⟩))] w22 (by kernel_rfl) ?_
            refine J.ret Try.f26 [.agg #[.int .i64 (max (lo - 1) (minF ((allZ m).getD 0 0) (allZ m))), .int .i64 (min (hi + 1) (maxF ((allZ m).getD 0 0) (allZ m)))], .int .i64 0] Try.func26 ⟨⟨⟨b4, 0, none⟩, by kernel_rfl, ldV_run (S23.nth 3 rfl) (by kernel_rfl)⟩, by kernel_rfl, trivial⟩ ?_
            refine hR _ _ ?_
            obtain ⟨e1, e2, e3⟩ := over_yes (m := m) (a := a) (b := b) (c := c) (d := d) hv (by omega) (by omega)
            have eZ := all_first (m := m) (by omega) (by have := row_len hm (i := 0) (by omega); have := (hv4 0 (by omega)).1; omega)
            have eL : lo = minF 1073741824 (valsF m (ptsF m.gX_l a b) (ptsF m.gY_l c d)) := by rw [hlo, List.take_of_length_le (by omega)]; exact low_any hX hY vm a b c d
            have eH : hi = maxF (-1073741824) (valsF m (ptsF m.gX_l a b) (ptsF m.gY_l c d)) := by rw [hhi, List.take_of_length_le (by omega)]; exact high_any hX hY vm a b c d
            have q1 : (max (lo - 1) (minF ((allZ m).getD 0 0) (allZ m))) = lowF m a b c d := by unfold lowF; rw [eL, eZ]; try (first | rfl | omega)
            have q2 : (min (hi + 1) (maxF ((allZ m).getD 0 0) (allZ m))) = highF m a b c d := by unfold highF; rw [eH, eZ]; try (first | rfl | omega)
            exact ⟨by rw [tup_two, e1, e2, e3, q1, q2], S23.nil⟩
        exact L26_1 _ (valueF m a c) (valueF m a c) 0 w11 (by omega) (by omega) (rfl) (rfl) S11 rfl
  · skip
    refine J.head (.bool true) (congrArg Value.bool (by rw [fk1]; rfl)) ?_
    refine J.run 18 K26_37 [(33, .agg #[.int .i64 0, .int .i64 0]), (6, .pointer (some ⟨b4, 0, none⟩))] w5 (by kernel_rfl) ?_
    refine J.stBox S5 0 47 0 (.agg #[.int .i64 0, .int .i64 0]) [.int .i64 0, .int .i64 0] [box b4 [.int .i64 0, .int .i64 0] 47, box b3 [.int .i64 c, .int .i64 d] 47, box b2 [.int .i64 a, .int .i64 b] 47, box b1 [.slice m.gX_a m.gX_n m.gX_c, .slice m.gY_a m.gY_n m.gY_c, .slice m.gZ_a m.gZ_n m.gZ_c] 25] (by kernel_rfl) rfl (by kernel_rfl) (by kernel_rfl) rfl ?_
    intro w23 S24
    refine J.run 2 K26_38 [(7, .int .i64 1), (6, .pointer (some ⟨b4, 0, none⟩))] w23 (by kernel_rfl) ?_
    refine J.ret Try.f26 [.agg #[.int .i64 0, .int .i64 0], .int .i64 1] Try.func26 ⟨⟨⟨b4, 0, none⟩, by kernel_rfl, ldV_run (S24.nth 0 rfl) (by kernel_rfl)⟩, by kernel_rfl, trivial⟩ ?_
    refine hR _ _ ?_
    obtain ⟨e1, e2, e3⟩ := over_no (m := m) (a := a) (b := b) (c := c) (d := d) (by first | exact .inl fk1 | exact .inr (.inl (by omega)) | exact .inr (.inr (by omega)))
    exact ⟨by rw [tup_two, e1, e2, e3], S24.nil⟩

theorem hb27 : HasBody Try.prog 27 := fun _ _ => by kernel_rfl
noncomputable def K27_0 : List Item := adv 2 [] (bodyOf Try.f27)
noncomputable def K27_1 : List Item := adv 5 [] (popK (popK (popK (popK K27_0))))
noncomputable def K27_2 : List Item := adv 2 [] (popK (popK K27_1))
noncomputable def K27_3 : List Item := adv 1 [] K27_2
noncomputable def K27_4 : List Item := adv 1 [] (popK K27_3)
noncomputable def K27_5 : List Item := adv 3 [] (popK K27_4)
noncomputable def K27_6 : List Item := adv 11 [true] K27_5
noncomputable def K27_7 : List Item := adv 2 [] (popK K27_6)
noncomputable def K27_8 : List Item := adv 1 [] K27_5
noncomputable def K27_9 : List Item := adv 1 [] (popK K27_8)
noncomputable def K27_10 : List Item := adv 3 [] (popK K27_9)
noncomputable def K27_11 : List Item := adv 4 [true] K27_10
noncomputable def K27_12 : List Item := adv 2 [] (popK K27_11)
noncomputable def K27_13 : List Item := adv 3 [false] K27_10
noncomputable def K27_14 : List Item := adv 3 [] (rRest K27_13)
noncomputable def K27_15 : List Item := adv 8 [] (popK (popK K27_14))
noncomputable def K27_16 : List Item := adv 8 [] K27_15
noncomputable def K27_17 : List Item := adv 10 [true] K27_16
noncomputable def K27_18 : List Item := adv 8 [] K27_17
noncomputable def K27_19 : List Item := adv 5 [true] K27_18
noncomputable def K27_20 : List Item := adv 2 [] (rRest K27_19)
noncomputable def K27_21 : List Item := adv 2 [] (popK K27_20)
noncomputable def K27_22 : List Item := adv 1 [] K27_21
noncomputable def K27_23 : List Item := adv 2 [] (popK K27_22)
noncomputable def K27_24 : List Item := adv 1 [] K27_23
noncomputable def K27_25 : List Item := adv 1 [] (popK K27_24)
noncomputable def K27_26 : List Item := adv 5 [] (popK K27_25)
noncomputable def K27_27 : List Item := adv 6 [false] K27_18
noncomputable def K27_28 : List Item := adv 3 [false] K27_16
noncomputable def K27_29 : List Item := adv 7 [] (rRest K27_28)
noncomputable def K27_30 : List Item := adv 5 [] K27_29
noncomputable def K27_31 : List Item := adv 3 [] (popK K27_30)
noncomputable def K27_32 : List Item := adv 10 [true] K27_31
noncomputable def K27_33 : List Item := adv 5 [] K27_32
noncomputable def K27_34 : List Item := adv 3 [] (popK K27_33)
noncomputable def K27_35 : List Item := adv 4 [true] K27_34
noncomputable def K27_36 : List Item := adv 4 [] (rRest K27_35)
noncomputable def K27_37 : List Item := adv 6 [false] K27_34
noncomputable def K27_38 : List Item := adv 6 [false] K27_31
noncomputable def K27_39 : List Item := adv 1 [] (popK K27_38)
noncomputable def K27_40 : List Item := adv 1 [] K27_39
noncomputable def K27_41 : List Item := adv 2 [] K27_40
noncomputable def K27_42 : List Item := adv 1 [] (popK K27_41)
noncomputable def K27_43 : List Item := adv 1 [] K27_42
noncomputable def K27_44 : List Item := adv 1 [] K27_43
noncomputable def K27_45 : List Item := adv 2 [] (popK K27_44)
noncomputable def K27_46 : List Item := adv 18 [true] K27_2
noncomputable def K27_47 : List Item := adv 2 [] (popK K27_46)
set_option maxRecDepth 20000 in
set_option maxHeartbeats 20000000 in
theorem rover_any (m : Mp) (a b c d : Int) (w : World) (hm : mpQ w m) : Ret Try.prog 27 #[.agg #[.slice m.gX_a m.gX_n m.gX_c, .slice m.gY_a m.gY_n m.gY_c, .slice m.gZ_a m.gZ_n m.gZ_c], .agg #[.int .i64 a, .int .i64 b], .agg #[.int .i64 c, .int .i64 d]] w (fun v w' => v = .tuple #[.agg #[.int .i64 (overL m a b c d), .int .i64 (overH m a b c d)], .int .i64 (overE m a b c d)] ∧ Sep w [] w') := by
  have S0 := Sep.refl w
  refine Ret.named fun R hR => ?_
  refine Ret.of_J (N := 134) [(0, .agg #[.slice m.gX_a m.gX_n m.gX_c, .slice m.gY_a m.gY_n m.gY_c, .slice m.gZ_a m.gZ_n m.gZ_c]), (1, .agg #[.int .i64 a, .int .i64 b]), (2, .agg #[.int .i64 c, .int .i64 d])] Try.func27 rfl rfl (Nat.le_of_ble_eq_true (by kernel_rfl)) (by kernel_rfl) ?_
  obtain ⟨q1, q2, q3, q4, q5, q6, q7, q8, q9, _⟩ := id hm
  have ql1 := q2.len_eq
  have ql2 := q5.len_eq
  have ql3 := q8.len_eq
  refine J.run 2 K27_0 [(0, .agg #[.slice m.gX_a m.gX_n m.gX_c, .slice m.gY_a m.gY_n m.gY_c, .slice m.gZ_a m.gZ_n m.gZ_c]), (1, .agg #[.int .i64 a, .int .i64 b]), (2, .agg #[.int .i64 c, .int .i64 d])] w (by kernel_rfl) ?_
  refine J.new S0 3 [.slice m.gX_a m.gX_n m.gX_c, .slice m.gY_a m.gY_n m.gY_c, .slice m.gZ_a m.gZ_n m.gZ_c] 25 (by kernel_rfl) ?_
  intro b1 w1 S1
  refine J.new S1 4 [.int .i64 a, .int .i64 b] 47 (by kernel_rfl) ?_
  intro b2 w2 S2
  refine J.new S2 5 [.int .i64 c, .int .i64 d] 47 (by kernel_rfl) ?_
  intro b3 w3 S3
  refine J.new S3 6 [.int .i64 0, .int .i64 0] 47 (by kernel_rfl) ?_
  intro b4 w4 S4
  refine J.run 5 K27_1 [(6, .pointer (some ⟨b4, 0, none⟩)), (5, .pointer (some ⟨b3, 0, none⟩)), (4, .pointer (some ⟨b2, 0, none⟩)), (3, .pointer (some ⟨b1, 0, none⟩))] w4 (by kernel_rfl) ?_
  refine J.ok (OK.ldBox S4 3 18 25 0 (.agg #[.slice m.gX_a m.gX_n m.gX_c, .slice m.gY_a m.gY_n m.gY_c, .slice m.gZ_a m.gZ_n m.gZ_c]) (by kernel_rfl) rfl (by kernel_rfl)) ?_
  refine J.callF 19 16 #[.agg #[.slice m.gX_a m.gX_n m.gX_c, .slice m.gY_a m.gY_n m.gY_c, .slice m.gZ_a m.gZ_n m.gZ_c]] hb16 (by kernel_rfl) (rvalid_any m _ (mpQ_sep hm S4)) ?_
  rintro _ w5 ⟨rfl, T1⟩
  have S5 : Sep w [box b4 [.int .i64 0, .int .i64 0] 47, box b3 [.int .i64 c, .int .i64 d] 47, box b2 [.int .i64 a, .int .i64 b] 47, box b1 [.slice m.gX_a m.gX_n m.gX_c, .slice m.gY_a m.gY_n m.gY_c, .slice m.gZ_a m.gZ_n m.gZ_c] 25] w5 := S4.trans T1
  clear T1 S4
  refine J.run 2 K27_2 [(21, .bool (!(validM m))), (6, .pointer (some ⟨b4, 0, none⟩)), (5, .pointer (some ⟨b3, 0, none⟩)), (4, .pointer (some ⟨b2, 0, none⟩)), (3, .pointer (some ⟨b1, 0, none⟩))] w5 (by kernel_rfl) ?_
  rcases Bool.eq_false_or_eq_true (validM m) with fk1 | fk1
  · skip
    refine J.head (.bool false) (congrArg Value.bool (by rw [fk1]; rfl)) ?_
    have hv := fk1
    obtain ⟨hv1, hv2, hv3, hv4⟩ := valid_facts hv
    obtain ⟨hx1, hx2, hx3⟩ := axis_facts hv1
    obtain ⟨hy1, hy2, hy3⟩ := axis_facts hv2
    have hX : m.gX_l.length = m.gX_n := by omega
    have hY : m.gY_l.length = m.gY_n := by omega
    have vm := vm_of hv (by omega) fun i hi => row_len hm hi
    have hX0 := hx2 0 (by omega)
    have hX1 := hx2 ((m.gX_n : Int) - 1).toNat (by omega)
    have hXm := axis_mono hv1 (show 0 < ((m.gX_n : Int) - 1).toNat by omega) (by omega)
    have hz0 := hv4 0 (by omega)
    have hz00 := row_len hm (i := 0) (by omega)
    refine J.run 1 K27_3 [(22, .pointer (some ⟨b2, 0, none⟩)), (21, .bool false), (6, .pointer (some ⟨b4, 0, none⟩)), (5, .pointer (some ⟨b3, 0, none⟩)), (4, .pointer (some ⟨b2, 0, none⟩)), (3, .pointer (some ⟨b1, 0, none⟩))] w5 (by kernel_rfl) ?_
    refine J.ok (OK.ldBox S5 2 23 3 0 (.int .i64 a) (by kernel_rfl) rfl (by kernel_rfl)) ?_
    refine J.run 1 K27_4 [(24, .pointer (some ⟨b2, 1, none⟩)), (23, .int .i64 a), (21, .bool false), (6, .pointer (some ⟨b4, 0, none⟩)), (5, .pointer (some ⟨b3, 0, none⟩)), (4, .pointer (some ⟨b2, 0, none⟩)), (3, .pointer (some ⟨b1, 0, none⟩))] w5 (by kernel_rfl) ?_
    refine J.ok (OK.ldBox S5 2 25 3 1 (.int .i64 b) (by kernel_rfl) rfl (by kernel_rfl)) ?_
    refine J.run 3 K27_5 [(28, .bool (decide (a > b))), (6, .pointer (some ⟨b4, 0, none⟩)), (5, .pointer (some ⟨b3, 0, none⟩)), (4, .pointer (some ⟨b2, 0, none⟩)), (3, .pointer (some ⟨b1, 0, none⟩))] w5 (by kernel_rfl) ?_
    by_cases fk2 : a > b
    · skip
      refine J.head (.bool true) (congrArg Value.bool (decide_eq_true fk2)) ?_
      refine J.run 11 K27_6 [(35, .agg #[.int .i64 0, .int .i64 0]), (6, .pointer (some ⟨b4, 0, none⟩))] w5 (by kernel_rfl) ?_
      refine J.stBox S5 0 47 0 (.agg #[.int .i64 0, .int .i64 0]) [.int .i64 0, .int .i64 0] [box b4 [.int .i64 0, .int .i64 0] 47, box b3 [.int .i64 c, .int .i64 d] 47, box b2 [.int .i64 a, .int .i64 b] 47, box b1 [.slice m.gX_a m.gX_n m.gX_c, .slice m.gY_a m.gY_n m.gY_c, .slice m.gZ_a m.gZ_n m.gZ_c] 25] (by kernel_rfl) rfl (by kernel_rfl) (by kernel_rfl) rfl ?_
      intro w6 S6
      refine J.run 2 K27_7 [(7, .int .i64 1), (6, .pointer (some ⟨b4, 0, none⟩))] w6 (by kernel_rfl) ?_
      refine J.ret Try.f27 [.agg #[.int .i64 0, .int .i64 0], .int .i64 1] Try.func27 ⟨⟨⟨b4, 0, none⟩, by kernel_rfl, ldV_run (S6.nth 0 rfl) (by kernel_rfl)⟩, by kernel_rfl, trivial⟩ ?_
      refine hR _ _ ?_
      obtain ⟨e1, e2, e3⟩ := over_no (m := m) (a := a) (b := b) (c := c) (d := d) (by first | exact .inl fk1 | exact .inr (.inl (by omega)) | exact .inr (.inr (by omega)))
      exact ⟨by rw [tup_two, e1, e2, e3], S6.nil⟩
    · skip
      refine J.head (.bool false) (congrArg Value.bool (decide_eq_false fk2)) ?_
      refine J.run 1 K27_8 [(29, .pointer (some ⟨b3, 0, none⟩)), (28, .bool false), (6, .pointer (some ⟨b4, 0, none⟩)), (5, .pointer (some ⟨b3, 0, none⟩)), (4, .pointer (some ⟨b2, 0, none⟩)), (3, .pointer (some ⟨b1, 0, none⟩))] w5 (by kernel_rfl) ?_
      refine J.ok (OK.ldBox S5 1 30 3 0 (.int .i64 c) (by kernel_rfl) rfl (by kernel_rfl)) ?_
      refine J.run 1 K27_9 [(31, .pointer (some ⟨b3, 1, none⟩)), (30, .int .i64 c), (28, .bool false), (6, .pointer (some ⟨b4, 0, none⟩)), (5, .pointer (some ⟨b3, 0, none⟩)), (4, .pointer (some ⟨b2, 0, none⟩)), (3, .pointer (some ⟨b1, 0, none⟩))] w5 (by kernel_rfl) ?_
      refine J.ok (OK.ldBox S5 1 32 3 1 (.int .i64 d) (by kernel_rfl) rfl (by kernel_rfl)) ?_
      refine J.run 3 K27_10 [(34, .bool (decide (c > d))), (6, .pointer (some ⟨b4, 0, none⟩)), (5, .pointer (some ⟨b3, 0, none⟩)), (4, .pointer (some ⟨b2, 0, none⟩)), (3, .pointer (some ⟨b1, 0, none⟩))] w5 (by kernel_rfl) ?_
      by_cases fk3 : c > d
      · skip
        refine J.head (.bool true) (congrArg Value.bool (decide_eq_true fk3)) ?_
        refine J.run 4 K27_11 [(35, .agg #[.int .i64 0, .int .i64 0]), (6, .pointer (some ⟨b4, 0, none⟩))] w5 (by kernel_rfl) ?_
        refine J.stBox S5 0 47 0 (.agg #[.int .i64 0, .int .i64 0]) [.int .i64 0, .int .i64 0] [box b4 [.int .i64 0, .int .i64 0] 47, box b3 [.int .i64 c, .int .i64 d] 47, box b2 [.int .i64 a, .int .i64 b] 47, box b1 [.slice m.gX_a m.gX_n m.gX_c, .slice m.gY_a m.gY_n m.gY_c, .slice m.gZ_a m.gZ_n m.gZ_c] 25] (by kernel_rfl) rfl (by kernel_rfl) (by kernel_rfl) rfl ?_
        intro w7 S7
        refine J.run 2 K27_12 [(7, .int .i64 1), (6, .pointer (some ⟨b4, 0, none⟩))] w7 (by kernel_rfl) ?_
        refine J.ret Try.f27 [.agg #[.int .i64 0, .int .i64 0], .int .i64 1] Try.func27 ⟨⟨⟨b4, 0, none⟩, by kernel_rfl, ldV_run (S7.nth 0 rfl) (by kernel_rfl)⟩, by kernel_rfl, trivial⟩ ?_
        refine hR _ _ ?_
        obtain ⟨e1, e2, e3⟩ := over_no (m := m) (a := a) (b := b) (c := c) (d := d) (by first | exact .inl fk1 | exact .inr (.inl (by omega)) | exact .inr (.inr (by omega)))
        exact ⟨by rw [tup_two, e1, e2, e3], S7.nil⟩
      · skip
        refine J.head (.bool false) (congrArg Value.bool (decide_eq_false fk3)) ?_
        refine J.run 3 K27_13 [(6, .pointer (some ⟨b4, 0, none⟩)), (5, .pointer (some ⟨b3, 0, none⟩)), (4, .pointer (some ⟨b2, 0, none⟩)), (3, .pointer (some ⟨b1, 0, none⟩))] w5 (by kernel_rfl) ?_
        refine J.drawPlan (fun w_ => Sep w [box b4 [.int .i64 0, .int .i64 0] 47, box b3 [.int .i64 c, .int .i64 d] 47, box b2 [.int .i64 a, .int .i64 b] 47, box b1 [.slice m.gX_a m.gX_n m.gX_c, .slice m.gY_a m.gY_n m.gY_c, .slice m.gZ_a m.gZ_n m.gZ_c] 25] w_) [(0, true), (1, true), (2, true), (4, true), (5, true), (6, true), (3, false), (7, false), (8, true), (9, true)] S5 Try.mixed (by kernel_rfl) (planOK_of (T := [(0, some 36, 8), (1, some 37, 68719476736), (0, some 38, 16), (6, some 39, 412316860416), (0, some 40, 8), (16, some 41, 1099511627776), (0, some 42, 32), (104, some 43, 6597069766656), (143, some 8, 549755813888), (511, some 9, 8796093022208)]) (by kernel_rfl) (by kernel_rfl)) ?_
        intro w8 S8
        refine PB.mk (S8.sub (.cons_cons _ (.cons_cons _ (.cons_cons _ (.cons_cons _ (.slnil)))))) ?_
        refine PL.take 0 36 (.pointer (some ⟨b1, 0, none⟩)) (fun _ _ => by kernel_rfl) ?_
        refine PL.takeOK 1 (fun w_ S_ => OK.ldBox S_ 3 37 22 0 (.slice m.gX_a m.gX_n m.gX_c) (by kernel_rfl) rfl (by kernel_rfl)) rfl ?_
        refine PL.takeOK 2 (fun w_ S_ => OK.ldBox S_ 2 38 47 0 (.agg #[.int .i64 a, .int .i64 b]) (by kernel_rfl) rfl (by kernel_rfl)) rfl ?_
        refine PL.take 4 40 (.pointer (some ⟨b1, 1, none⟩)) (fun _ _ => by kernel_rfl) ?_
        refine PL.takeOK 5 (fun w_ S_ => OK.ldBox S_ 3 41 22 1 (.slice m.gY_a m.gY_n m.gY_c) (by kernel_rfl) rfl (by kernel_rfl)) rfl ?_
        refine PL.takeOK 6 (fun w_ S_ => OK.ldBox S_ 1 42 47 0 (.agg #[.int .i64 c, .int .i64 d]) (by kernel_rfl) rfl (by kernel_rfl)) rfl ?_
        refine PL.callF 39 56 #[.slice m.gX_a m.gX_n m.gX_c, .agg #[.int .i64 a, .int .i64 b]] hb56 (by kernel_rfl) (corners_any m.gX_a m.gX_n m.gX_c m.gX_l a b _ (q2.sep S8) (by omega) (by omega)) ?_
        rintro _ w9 ⟨ra1, rc1, rfl, T2⟩
        have S9 : Sep w [rowOf encI ra1 rc1 3 1 (ptsF m.gX_l a b), box b4 [.int .i64 0, .int .i64 0] 47, box b3 [.int .i64 c, .int .i64 d] 47, box b2 [.int .i64 a, .int .i64 b] 47, box b1 [.slice m.gX_a m.gX_n m.gX_c, .slice m.gY_a m.gY_n m.gY_c, .slice m.gZ_a m.gZ_n m.gZ_c] 25] w9 := S8.trans T2
        clear T2 S8
        have := pts_len m.gX_l a b
        refine PB.mk (S9.sub (.cons _ (.cons_cons _ (.cons_cons _ (.cons_cons _ (.cons_cons _ (.slnil))))))) ?_
        refine PL.callF 43 56 #[.slice m.gY_a m.gY_n m.gY_c, .agg #[.int .i64 c, .int .i64 d]] hb56 (by kernel_rfl) (corners_any m.gY_a m.gY_n m.gY_c m.gY_l c d _ (q5.sep S9) (by omega) (by omega)) ?_
        rintro _ w10 ⟨ra2, rc2, rfl, T3⟩
        have S10 : Sep w [rowOf encI ra2 rc2 3 1 (ptsF m.gY_l c d), rowOf encI ra1 rc1 3 1 (ptsF m.gX_l a b), box b4 [.int .i64 0, .int .i64 0] 47, box b3 [.int .i64 c, .int .i64 d] 47, box b2 [.int .i64 a, .int .i64 b] 47, box b1 [.slice m.gX_a m.gX_n m.gX_c, .slice m.gY_a m.gY_n m.gY_c, .slice m.gZ_a m.gZ_n m.gZ_c] 25] w10 := S9.trans T3
        clear T3 S9
        have := pts_len m.gY_l c d
        refine PB.mk (S10.sub (.cons _ (.cons _ (.cons_cons _ (.cons_cons _ (.cons_cons _ (.cons_cons _ (.slnil)))))))) ?_
        refine PL.take 8 8 (.slice ra1 ((ptsF m.gX_l a b).length) rc1) (fun _ _ => by kernel_rfl) ?_
        refine PL.take 9 9 (.slice ra2 ((ptsF m.gY_l c d).length) rc2) (fun _ _ => by kernel_rfl) ?_
        refine PL.done ?_
        refine J.run 0 (rRest K27_13) [(9, .slice ra2 ((ptsF m.gY_l c d).length) rc2), (8, .slice ra1 ((ptsF m.gX_l a b).length) rc1), (6, .pointer (some ⟨b4, 0, none⟩)), (3, .pointer (some ⟨b1, 0, none⟩))] w10 (by kernel_rfl) ?_
        refine J.run 3 K27_14 [(44, .agg #[.int .i64 1073741824, .int .i64 (-1073741824)]), (9, .slice ra2 ((ptsF m.gY_l c d).length) rc2), (8, .slice ra1 ((ptsF m.gX_l a b).length) rc1), (6, .pointer (some ⟨b4, 0, none⟩)), (3, .pointer (some ⟨b1, 0, none⟩))] w10 (by kernel_rfl) ?_
        refine J.new S10 10 [.int .i64 0, .int .i64 0] 47 (by kernel_rfl) ?_
        intro b5 w11 S11
        refine J.stBox S11 0 47 0 (.agg #[.int .i64 1073741824, .int .i64 (-1073741824)]) [.int .i64 1073741824, .int .i64 (-1073741824)] [box b5 [.int .i64 1073741824, .int .i64 (-1073741824)] 47, rowOf encI ra2 rc2 3 1 (ptsF m.gY_l c d), rowOf encI ra1 rc1 3 1 (ptsF m.gX_l a b), box b4 [.int .i64 0, .int .i64 0] 47, box b3 [.int .i64 c, .int .i64 d] 47, box b2 [.int .i64 a, .int .i64 b] 47, box b1 [.slice m.gX_a m.gX_n m.gX_c, .slice m.gY_a m.gY_n m.gY_c, .slice m.gZ_a m.gZ_n m.gZ_c] 25] (by kernel_rfl) rfl (by kernel_rfl) (by kernel_rfl) rfl ?_
        intro w12 S12
        refine J.run 8 K27_15 [(11, .int .i64 0), (10, .pointer (some ⟨b5, 0, none⟩)), (9, .slice ra2 ((ptsF m.gY_l c d).length) rc2), (8, .slice ra1 ((ptsF m.gX_l a b).length) rc1), (6, .pointer (some ⟨b4, 0, none⟩)), (3, .pointer (some ⟨b1, 0, none⟩))] w12 (by kernel_rfl) ?_
        have L27_1 : ∀ (mm_ : Nat) (lo : Int) (hi : Int) (i : Int) (w13 : World), (0 ≤ i) → (i ≤ (((ptsF m.gX_l a b).length : Nat) : Int)) → (lo = minF (1073741824) (valsF m ((ptsF m.gX_l a b).take (i).toNat) (ptsF m.gY_l c d))) → (hi = maxF (-1073741824) (valsF m ((ptsF m.gX_l a b).take (i).toNat) (ptsF m.gY_l c d))) → Sep w [box b5 [.int .i64 lo, .int .i64 hi] 47, rowOf encI ra2 rc2 3 1 (ptsF m.gY_l c d), rowOf encI ra1 rc1 3 1 (ptsF m.gX_l a b), box b4 [.int .i64 0, .int .i64 0] 47, box b3 [.int .i64 c, .int .i64 d] 47, box b2 [.int .i64 a, .int .i64 b] 47, box b1 [.slice m.gX_a m.gX_n m.gX_c, .slice m.gY_a m.gY_n m.gY_c, .slice m.gZ_a m.gZ_n m.gZ_c] 25] w13 → ((((ptsF m.gX_l a b).length : Nat) : Int) - i).toNat = mm_ → J Try.prog 27 134 R K27_15 [(11, .int .i64 i), (10, .pointer (some ⟨b5, 0, none⟩)), (9, .slice ra2 ((ptsF m.gY_l c d).length) rc2), (8, .slice ra1 ((ptsF m.gX_l a b).length) rc1), (6, .pointer (some ⟨b4, 0, none⟩)), (3, .pointer (some ⟨b1, 0, none⟩))] w13 := by
          intro mm1
          induction mm1 using Nat.strongRecOn with
          | _ mm1 ih1 =>
          intro lo hi i w13 h0 h1 hlo hhi S13 hm1
          have hlob := minF_in (d := 1073741824) (by omega) (vals_in hX hY vm ((ptsF m.gX_l a b).take i.toNat) (ptsF m.gY_l c d)); rw [← hlo] at hlob
          have hhib := maxF_in (d := -1073741824) (by omega) (vals_in hX hY vm ((ptsF m.gX_l a b).take i.toNat) (ptsF m.gY_l c d)); rw [← hhi] at hhib
          refine J.run 8 K27_16 [(48, .bool (decide (i < ((ptsF m.gX_l a b).length : Int)))), (11, .int .i64 i), (10, .pointer (some ⟨b5, 0, none⟩)), (9, .slice ra2 ((ptsF m.gY_l c d).length) rc2), (8, .slice ra1 ((ptsF m.gX_l a b).length) rc1), (6, .pointer (some ⟨b4, 0, none⟩)), (3, .pointer (some ⟨b1, 0, none⟩))] w13 (by kernel_rfl) ?_
          by_cases fk4 : i < ((ptsF m.gX_l a b).length : Int)
          · skip
            refine J.head (.bool true) (congrArg Value.bool (decide_eq_true fk4)) ?_
            refine J.run 10 K27_17 [(12, .int .i64 0), (11, .int .i64 i), (10, .pointer (some ⟨b5, 0, none⟩)), (9, .slice ra2 ((ptsF m.gY_l c d).length) rc2), (8, .slice ra1 ((ptsF m.gX_l a b).length) rc1), (6, .pointer (some ⟨b4, 0, none⟩)), (3, .pointer (some ⟨b1, 0, none⟩))] w13 (by kernel_rfl) ?_
            have L27_2 : ∀ (mm_ : Nat) (lo2 : Int) (hi2 : Int) (j : Int) (w14 : World), (0 ≤ j) → (j ≤ (((ptsF m.gY_l c d).length : Nat) : Int)) → (lo2 = minF (1073741824) (vals2 m (ptsF m.gX_l a b) (ptsF m.gY_l c d) i j)) → (hi2 = maxF (-1073741824) (vals2 m (ptsF m.gX_l a b) (ptsF m.gY_l c d) i j)) → Sep w [box b5 [.int .i64 lo2, .int .i64 hi2] 47, rowOf encI ra2 rc2 3 1 (ptsF m.gY_l c d), rowOf encI ra1 rc1 3 1 (ptsF m.gX_l a b), box b4 [.int .i64 0, .int .i64 0] 47, box b3 [.int .i64 c, .int .i64 d] 47, box b2 [.int .i64 a, .int .i64 b] 47, box b1 [.slice m.gX_a m.gX_n m.gX_c, .slice m.gY_a m.gY_n m.gY_c, .slice m.gZ_a m.gZ_n m.gZ_c] 25] w14 → ((((ptsF m.gY_l c d).length : Nat) : Int) - j).toNat = mm_ → J Try.prog 27 134 R K27_17 [(12, .int .i64 j), (11, .int .i64 i), (10, .pointer (some ⟨b5, 0, none⟩)), (9, .slice ra2 ((ptsF m.gY_l c d).length) rc2), (8, .slice ra1 ((ptsF m.gX_l a b).length) rc1), (6, .pointer (some ⟨b4, 0, none⟩)), (3, .pointer (some ⟨b1, 0, none⟩))] w14 := by
              intro mm2
              induction mm2 using Nat.strongRecOn with
              | _ mm2 ih2 =>
              intro lo2 hi2 j w14 j0 j1 hlo2 hhi2 S14 hm2
              refine J.run 8 K27_18 [(54, .bool (decide (j < ((ptsF m.gY_l c d).length : Int)))), (12, .int .i64 j), (11, .int .i64 i), (10, .pointer (some ⟨b5, 0, none⟩)), (9, .slice ra2 ((ptsF m.gY_l c d).length) rc2), (8, .slice ra1 ((ptsF m.gX_l a b).length) rc1), (6, .pointer (some ⟨b4, 0, none⟩)), (3, .pointer (some ⟨b1, 0, none⟩))] w14 (by kernel_rfl) ?_
              by_cases fk5 : j < ((ptsF m.gY_l c d).length : Int)
              · skip
                refine J.head (.bool true) (congrArg Value.bool (decide_eq_true fk5)) ?_
                refine J.run 5 K27_19 [(12, .int .i64 j), (11, .int .i64 i), (10, .pointer (some ⟨b5, 0, none⟩)), (9, .slice ra2 ((ptsF m.gY_l c d).length) rc2), (8, .slice ra1 ((ptsF m.gX_l a b).length) rc1), (6, .pointer (some ⟨b4, 0, none⟩)), (3, .pointer (some ⟨b1, 0, none⟩))] w14 (by kernel_rfl) ?_
                obtain ⟨p1, hp1⟩ := row1_addr (S14.nth 2 rfl) (show 0 < (ptsF m.gX_l a b).length by first | omega | (simp; omega))
                obtain ⟨p2, hp2⟩ := row1_addr (S14.nth 1 rfl) (show 0 < (ptsF m.gY_l c d).length by first | omega | (simp; omega))
                refine J.drawTail S14 9 Try.mixed (by kernel_rfl) (by kernel_rfl) ?_
                intro w15 S15
                refine SL.ok (by decide) (OK.ldBox S15 6 57 25 0 (.agg #[.slice m.gX_a m.gX_n m.gX_c, .slice m.gY_a m.gY_n m.gY_c, .slice m.gZ_a m.gZ_n m.gZ_c]) (by kernel_rfl) rfl (by kernel_rfl)) ?_
                refine SL.ok (by decide) (OK.run 58 (.slice ra1 ((ptsF m.gX_l a b).length) rc1) (by kernel_rfl)) ?_
                refine SL.ok (by decide) (OK.run 59 (.int .i64 i) (by kernel_rfl)) ?_
                refine SL.ok (by decide) (OK.index 60 22 1 ra1 p1 ((ptsF m.gX_l a b).length) (i).toNat i (p1.add (i).toNat) (by kernel_rfl) (by kernel_rfl) hp1 (by omega) (by first | omega | (simp; omega)) (by rw [Nat.mul_one])) ?_
                refine SL.ok (by decide) (OK.ldCell 61 3 (p1.add (i).toNat) (.int .i64 ((ptsF m.gX_l a b).getD (i).toNat 0)) (by kernel_rfl) (by kernel_rfl) (row1_cell (g := (Value.int .i64)) S15 2 rfl hp1 0 (i).toNat (by first | omega | (simp; omega)))) ?_
                refine SL.ok (by decide) (OK.run 62 (.slice ra2 ((ptsF m.gY_l c d).length) rc2) (by kernel_rfl)) ?_
                refine SL.ok (by decide) (OK.run 63 (.int .i64 j) (by kernel_rfl)) ?_
                refine SL.ok (by decide) (OK.index 64 22 1 ra2 p2 ((ptsF m.gY_l c d).length) (j).toNat j (p2.add (j).toNat) (by kernel_rfl) (by kernel_rfl) hp2 (by omega) (by first | omega | (simp; omega)) (by rw [Nat.mul_one])) ?_
                refine SL.ok (by decide) (OK.ldCell 65 3 (p2.add (j).toNat) (.int .i64 ((ptsF m.gY_l c d).getD (j).toNat 0)) (by kernel_rfl) (by kernel_rfl) (row1_cell (g := (Value.int .i64)) S15 1 rfl hp2 0 (j).toNat (by first | omega | (simp; omega)))) ?_
                refine SL.done ?_
                refine TL.callF 66 36 #[.agg #[.slice m.gX_a m.gX_n m.gX_c, .slice m.gY_a m.gY_n m.gY_c, .slice m.gZ_a m.gZ_n m.gZ_c], .int .i64 ((ptsF m.gX_l a b).getD (i).toNat 0), .int .i64 ((ptsF m.gY_l c d).getD (j).toNat 0)] hb36 (by kernel_rfl) (rvalue_any m ((ptsF m.gX_l a b).getD (i).toNat 0) ((ptsF m.gY_l c d).getD (j).toNat 0) _ (mpQ_sep hm S15) hv) ?_
                rintro _ w16 ⟨rfl, T4⟩
                have S16 : Sep w [box b5 [.int .i64 lo2, .int .i64 hi2] 47, rowOf encI ra2 rc2 3 1 (ptsF m.gY_l c d), rowOf encI ra1 rc1 3 1 (ptsF m.gX_l a b), box b4 [.int .i64 0, .int .i64 0] 47, box b3 [.int .i64 c, .int .i64 d] 47, box b2 [.int .i64 a, .int .i64 b] 47, box b1 [.slice m.gX_a m.gX_n m.gX_c, .slice m.gY_a m.gY_n m.gY_c, .slice m.gZ_a m.gZ_n m.gZ_c] 25] w16 := S15.trans T4
                clear T4 S15
                refine TL.ok (OK.run 13 (.int .i64 (valueF m ((ptsF m.gX_l a b).getD (i).toNat 0) ((ptsF m.gY_l c d).getD (j).toNat 0))) (by kernel_rfl)) ?_
                refine TL.done (by kernel_rfl) ?_
                refine J.run 0 (rRest K27_19) [(13, .int .i64 (valueF m ((ptsF m.gX_l a b).getD (i).toNat 0) ((ptsF m.gY_l c d).getD (j).toNat 0))), (12, .int .i64 j), (11, .int .i64 i), (10, .pointer (some ⟨b5, 0, none⟩)), (9, .slice ra2 ((ptsF m.gY_l c d).length) rc2), (8, .slice ra1 ((ptsF m.gX_l a b).length) rc1), (6, .pointer (some ⟨b4, 0, none⟩)), (3, .pointer (some ⟨b1, 0, none⟩))] w16 (by kernel_rfl) ?_
                refine J.run 2 K27_20 [(67, .pointer (some ⟨b5, 0, none⟩)), (13, .int .i64 (valueF m ((ptsF m.gX_l a b).getD (i).toNat 0) ((ptsF m.gY_l c d).getD (j).toNat 0))), (12, .int .i64 j), (11, .int .i64 i), (10, .pointer (some ⟨b5, 0, none⟩)), (9, .slice ra2 ((ptsF m.gY_l c d).length) rc2), (8, .slice ra1 ((ptsF m.gX_l a b).length) rc1), (6, .pointer (some ⟨b4, 0, none⟩)), (3, .pointer (some ⟨b1, 0, none⟩))] w16 (by kernel_rfl) ?_
                refine J.ok (OK.ldBox S16 0 68 3 0 (.int .i64 lo2) (by kernel_rfl) rfl (by kernel_rfl)) ?_
                refine J.run 2 K27_21 [(70, .int .i64 (if (valueF m ((ptsF m.gX_l a b).getD (i).toNat 0) ((ptsF m.gY_l c d).getD (j).toNat 0)) < lo2 then (valueF m ((ptsF m.gX_l a b).getD (i).toNat 0) ((ptsF m.gY_l c d).getD (j).toNat 0)) else lo2)), (13, .int .i64 (valueF m ((ptsF m.gX_l a b).getD (i).toNat 0) ((ptsF m.gY_l c d).getD (j).toNat 0))), (12, .int .i64 j), (11, .int .i64 i), (10, .pointer (some ⟨b5, 0, none⟩)), (9, .slice ra2 ((ptsF m.gY_l c d).length) rc2), (8, .slice ra1 ((ptsF m.gX_l a b).length) rc1), (6, .pointer (some ⟨b4, 0, none⟩)), (3, .pointer (some ⟨b1, 0, none⟩))] w16 (by kernel_rfl) ?_
                refine J.head (.int .i64 (min lo2 (valueF m ((ptsF m.gX_l a b).getD (i).toNat 0) ((ptsF m.gY_l c d).getD (j).toNat 0)))) (congrArg (Value.int .i64) (by omega)) ?_
                refine J.run 1 K27_22 [(71, .pointer (some ⟨b5, 1, none⟩)), (70, .int .i64 (min lo2 (valueF m ((ptsF m.gX_l a b).getD (i).toNat 0) ((ptsF m.gY_l c d).getD (j).toNat 0)))), (13, .int .i64 (valueF m ((ptsF m.gX_l a b).getD (i).toNat 0) ((ptsF m.gY_l c d).getD (j).toNat 0))), (12, .int .i64 j), (11, .int .i64 i), (10, .pointer (some ⟨b5, 0, none⟩)), (9, .slice ra2 ((ptsF m.gY_l c d).length) rc2), (8, .slice ra1 ((ptsF m.gX_l a b).length) rc1), (6, .pointer (some ⟨b4, 0, none⟩)), (3, .pointer (some ⟨b1, 0, none⟩))] w16 (by kernel_rfl) ?_
                refine J.ok (OK.ldBox S16 0 72 3 1 (.int .i64 hi2) (by kernel_rfl) rfl (by kernel_rfl)) ?_
                refine J.run 2 K27_23 [(74, .int .i64 (if (valueF m ((ptsF m.gX_l a b).getD (i).toNat 0) ((ptsF m.gY_l c d).getD (j).toNat 0)) > hi2 then (valueF m ((ptsF m.gX_l a b).getD (i).toNat 0) ((ptsF m.gY_l c d).getD (j).toNat 0)) else hi2)), (70, .int .i64 (min lo2 (valueF m ((ptsF m.gX_l a b).getD (i).toNat 0) ((ptsF m.gY_l c d).getD (j).toNat 0)))), (12, .int .i64 j), (11, .int .i64 i), (10, .pointer (some ⟨b5, 0, none⟩)), (9, .slice ra2 ((ptsF m.gY_l c d).length) rc2), (8, .slice ra1 ((ptsF m.gX_l a b).length) rc1), (6, .pointer (some ⟨b4, 0, none⟩)), (3, .pointer (some ⟨b1, 0, none⟩))] w16 (by kernel_rfl) ?_
                refine J.head (.int .i64 (max hi2 (valueF m ((ptsF m.gX_l a b).getD (i).toNat 0) ((ptsF m.gY_l c d).getD (j).toNat 0)))) (congrArg (Value.int .i64) (by omega)) ?_
                refine J.run 1 K27_24 [(75, .pointer (some ⟨b5, 0, none⟩)), (74, .int .i64 (max hi2 (valueF m ((ptsF m.gX_l a b).getD (i).toNat 0) ((ptsF m.gY_l c d).getD (j).toNat 0)))), (70, .int .i64 (min lo2 (valueF m ((ptsF m.gX_l a b).getD (i).toNat 0) ((ptsF m.gY_l c d).getD (j).toNat 0)))), (12, .int .i64 j), (11, .int .i64 i), (10, .pointer (some ⟨b5, 0, none⟩)), (9, .slice ra2 ((ptsF m.gY_l c d).length) rc2), (8, .slice ra1 ((ptsF m.gX_l a b).length) rc1), (6, .pointer (some ⟨b4, 0, none⟩)), (3, .pointer (some ⟨b1, 0, none⟩))] w16 (by kernel_rfl) ?_
                refine J.stBox S16 0 3 0 (.int .i64 (min lo2 (valueF m ((ptsF m.gX_l a b).getD (i).toNat 0) ((ptsF m.gY_l c d).getD (j).toNat 0)))) [.int .i64 (min lo2 (valueF m ((ptsF m.gX_l a b).getD (i).toNat 0) ((ptsF m.gY_l c d).getD (j).toNat 0))), .int .i64 hi2] [box b5 [.int .i64 (min lo2 (valueF m ((ptsF m.gX_l a b).getD (i).toNat 0) ((ptsF m.gY_l c d).getD (j).toNat 0))), .int .i64 hi2] 47, rowOf encI ra2 rc2 3 1 (ptsF m.gY_l c d), rowOf encI ra1 rc1 3 1 (ptsF m.gX_l a b), box b4 [.int .i64 0, .int .i64 0] 47, box b3 [.int .i64 c, .int .i64 d] 47, box b2 [.int .i64 a, .int .i64 b] 47, box b1 [.slice m.gX_a m.gX_n m.gX_c, .slice m.gY_a m.gY_n m.gY_c, .slice m.gZ_a m.gZ_n m.gZ_c] 25] (by kernel_rfl) rfl (by kernel_rfl) (by kernel_rfl) rfl ?_
                intro w17 S17
                refine J.run 1 K27_25 [(76, .pointer (some ⟨b5, 1, none⟩)), (74, .int .i64 (max hi2 (valueF m ((ptsF m.gX_l a b).getD (i).toNat 0) ((ptsF m.gY_l c d).getD (j).toNat 0)))), (12, .int .i64 j), (11, .int .i64 i), (10, .pointer (some ⟨b5, 0, none⟩)), (9, .slice ra2 ((ptsF m.gY_l c d).length) rc2), (8, .slice ra1 ((ptsF m.gX_l a b).length) rc1), (6, .pointer (some ⟨b4, 0, none⟩)), (3, .pointer (some ⟨b1, 0, none⟩))] w17 (by kernel_rfl) ?_
                refine J.stBox S17 0 3 1 (.int .i64 (max hi2 (valueF m ((ptsF m.gX_l a b).getD (i).toNat 0) ((ptsF m.gY_l c d).getD (j).toNat 0)))) [.int .i64 (min lo2 (valueF m ((ptsF m.gX_l a b).getD (i).toNat 0) ((ptsF m.gY_l c d).getD (j).toNat 0))), .int .i64 (max hi2 (valueF m ((ptsF m.gX_l a b).getD (i).toNat 0) ((ptsF m.gY_l c d).getD (j).toNat 0)))] [box b5 [.int .i64 (min lo2 (valueF m ((ptsF m.gX_l a b).getD (i).toNat 0) ((ptsF m.gY_l c d).getD (j).toNat 0))), .int .i64 (max hi2 (valueF m ((ptsF m.gX_l a b).getD (i).toNat 0) ((ptsF m.gY_l c d).getD (j).toNat 0)))] 47, rowOf encI ra2 rc2 3 1 (ptsF m.gY_l c d), rowOf encI ra1 rc1 3 1 (ptsF m.gX_l a b), box b4 [.int .i64 0, .int .i64 0] 47, box b3 [.int .i64 c, .int .i64 d] 47, box b2 [.int .i64 a, .int .i64 b] 47, box b1 [.slice m.gX_a m.gX_n m.gX_c, .slice m.gY_a m.gY_n m.gY_c, .slice m.gZ_a m.gZ_n m.gZ_c] 25] (by kernel_rfl) rfl (by kernel_rfl) (by kernel_rfl) rfl ?_
                intro w18 S18
                refine J.run 5 K27_26 [(56, .int .i64 (IntKind.wrap .i64 (j + 1))), (11, .int .i64 i), (10, .pointer (some ⟨b5, 0, none⟩)), (9, .slice ra2 ((ptsF m.gY_l c d).length) rc2), (8, .slice ra1 ((ptsF m.gX_l a b).length) rc1), (6, .pointer (some ⟨b4, 0, none⟩)), (3, .pointer (some ⟨b1, 0, none⟩))] w18 (by kernel_rfl) ?_
                refine J.head (.int .i64 (j + 1)) (congrArg (Value.int .i64) (IntWalk.i64_in _ (by omega))) ?_
                refine J.run 3 K27_17 [(12, .int .i64 (j + 1)), (11, .int .i64 i), (10, .pointer (some ⟨b5, 0, none⟩)), (9, .slice ra2 ((ptsF m.gY_l c d).length) rc2), (8, .slice ra1 ((ptsF m.gX_l a b).length) rc1), (6, .pointer (some ⟨b4, 0, none⟩)), (3, .pointer (some ⟨b1, 0, none⟩))] w18 (by kernel_rfl) ?_
                refine J.run 0 K27_17 [(12, .int .i64 (j + 1)), (11, .int .i64 i), (10, .pointer (some ⟨b5, 0, none⟩)), (9, .slice ra2 ((ptsF m.gY_l c d).length) rc2), (8, .slice ra1 ((ptsF m.gX_l a b).length) rc1), (6, .pointer (some ⟨b4, 0, none⟩)), (3, .pointer (some ⟨b1, 0, none⟩))] w18 (by kernel_rfl) ?_
                exact ih2 _ (show ((((ptsF m.gY_l c d).length : Nat) : Int) - (j + 1)).toNat < mm2 from by omega) (min lo2 (valueF m ((ptsF m.gX_l a b).getD (i).toNat 0) ((ptsF m.gY_l c d).getD (j).toNat 0))) (max hi2 (valueF m ((ptsF m.gX_l a b).getD (i).toNat 0) ((ptsF m.gY_l c d).getD (j).toNat 0))) (j + 1) w18 (by omega) (by omega) (by rw [hlo2, vals2_step j0 (by omega), minF_snoc]) (by rw [hhi2, vals2_step j0 (by omega), maxF_snoc]) S18 rfl
              · skip
                refine J.head (.bool false) (congrArg Value.bool (decide_eq_false fk5)) ?_
                refine J.run 6 K27_27 [(50, .int .i64 (IntKind.wrap .i64 (i + 1))), (10, .pointer (some ⟨b5, 0, none⟩)), (9, .slice ra2 ((ptsF m.gY_l c d).length) rc2), (8, .slice ra1 ((ptsF m.gX_l a b).length) rc1), (6, .pointer (some ⟨b4, 0, none⟩)), (3, .pointer (some ⟨b1, 0, none⟩))] w14 (by kernel_rfl) ?_
                refine J.head (.int .i64 (i + 1)) (congrArg (Value.int .i64) (IntWalk.i64_in _ (by omega))) ?_
                refine J.run 3 K27_15 [(11, .int .i64 (i + 1)), (10, .pointer (some ⟨b5, 0, none⟩)), (9, .slice ra2 ((ptsF m.gY_l c d).length) rc2), (8, .slice ra1 ((ptsF m.gX_l a b).length) rc1), (6, .pointer (some ⟨b4, 0, none⟩)), (3, .pointer (some ⟨b1, 0, none⟩))] w14 (by kernel_rfl) ?_
                refine J.run 0 K27_15 [(11, .int .i64 (i + 1)), (10, .pointer (some ⟨b5, 0, none⟩)), (9, .slice ra2 ((ptsF m.gY_l c d).length) rc2), (8, .slice ra1 ((ptsF m.gX_l a b).length) rc1), (6, .pointer (some ⟨b4, 0, none⟩)), (3, .pointer (some ⟨b1, 0, none⟩))] w14 (by kernel_rfl) ?_
                exact ih1 _ (show ((((ptsF m.gX_l a b).length : Nat) : Int) - (i + 1)).toNat < mm1 from by omega) lo2 hi2 (i + 1) w14 (by omega) (by omega) (by rw [hlo2, vals2_end h0 (by omega) (by omega)]) (by rw [hhi2, vals2_end h0 (by omega) (by omega)]) S14 rfl
            exact L27_2 _ lo hi 0 w13 (by omega) (by omega) (by rw [hlo, vals2_zero]) (by rw [hhi, vals2_zero]) S13 rfl
          · skip
            refine J.head (.bool false) (congrArg Value.bool (decide_eq_false fk4)) ?_
            refine J.run 3 K27_28 [(10, .pointer (some ⟨b5, 0, none⟩)), (6, .pointer (some ⟨b4, 0, none⟩)), (3, .pointer (some ⟨b1, 0, none⟩))] w13 (by kernel_rfl) ?_
            obtain ⟨p3, hp3, hc1⟩ := q8.at rw0 0 (by omega)
            have hel1 := getD_Q q9 rw0 (n := 0) (by have := q8.len_eq; omega)
            obtain ⟨q10, q11, q12, _⟩ := id hel1
            have ql4 := q11.len_eq
            obtain ⟨p4, hp4, hc2⟩ := q11.at 0 0 (by omega)
            have hel2 := getD_Q q12 0 (n := 0) (by have := q11.len_eq; omega)
            refine J.drawStill S13 14 Try.mixed (by kernel_rfl) (by kernel_rfl) (by kernel_rfl) ?_
            intro w19 S19
            refine SL.ok (by decide) (OK.run 77 (.pointer (some ⟨b1, 2, none⟩)) (by kernel_rfl)) ?_
            refine SL.ok (by decide) (OK.ldBox S19 6 78 23 2 (.slice m.gZ_a m.gZ_n m.gZ_c) (by kernel_rfl) rfl (by kernel_rfl)) ?_
            refine SL.ok (by decide) (OK.index 79 23 1 m.gZ_a p3 m.gZ_n 0 0 (p3.add (0 * 1)) (by kernel_rfl) (by kernel_rfl) hp3 (by omega) (by omega) rfl) ?_
            refine SL.ok (by decide) (OK.ldCell 80 22 (p3.add (0 * 1)) (.slice ((m.gZ_l.getD 0 rw0).gS_a) ((m.gZ_l.getD 0 rw0).gS_n) ((m.gZ_l.getD 0 rw0).gS_c)) (by kernel_rfl) (by kernel_rfl) (S19.cell (cell_zero (hc1 0 _ rfl)))) ?_
            refine SL.ok (by decide) (OK.index 81 22 1 ((m.gZ_l.getD 0 rw0).gS_a) p4 ((m.gZ_l.getD 0 rw0).gS_n) 0 0 (p4.add 0) (by kernel_rfl) (by kernel_rfl) hp4 (by omega) (by omega) (by rw [Nat.mul_one])) ?_
            refine SL.ok (by decide) (OK.ldCell 82 3 (p4.add 0) (.int .i64 (((m.gZ_l.getD 0 rw0).gS_l).getD 0 0)) (by kernel_rfl) (by kernel_rfl) (S19.cell hc2)) ?_
            refine SL.ok (by decide) (OK.run 83 (.pointer (some ⟨b1, 2, none⟩)) (by kernel_rfl)) ?_
            refine SL.ok (by decide) (OK.ldBox S19 6 84 23 2 (.slice m.gZ_a m.gZ_n m.gZ_c) (by kernel_rfl) rfl (by kernel_rfl)) ?_
            refine SL.ok (by decide) (OK.index 85 23 1 m.gZ_a p3 m.gZ_n 0 0 (p3.add (0 * 1)) (by kernel_rfl) (by kernel_rfl) hp3 (by omega) (by omega) rfl) ?_
            refine SL.ok (by decide) (OK.ldCell 86 22 (p3.add (0 * 1)) (.slice ((m.gZ_l.getD 0 rw0).gS_a) ((m.gZ_l.getD 0 rw0).gS_n) ((m.gZ_l.getD 0 rw0).gS_c)) (by kernel_rfl) (by kernel_rfl) (S19.cell (cell_zero (hc1 0 _ rfl)))) ?_
            refine SL.ok (by decide) (OK.index 87 22 1 ((m.gZ_l.getD 0 rw0).gS_a) p4 ((m.gZ_l.getD 0 rw0).gS_n) 0 0 (p4.add 0) (by kernel_rfl) (by kernel_rfl) hp4 (by omega) (by omega) (by rw [Nat.mul_one])) ?_
            refine SL.ok (by decide) (OK.ldCell 88 3 (p4.add 0) (.int .i64 (((m.gZ_l.getD 0 rw0).gS_l).getD 0 0)) (by kernel_rfl) (by kernel_rfl) (S19.cell hc2)) ?_
            refine SL.ok (by decide) (OK.run 14 (.int .i64 (((m.gZ_l.getD 0 rw0).gS_l).getD 0 0)) (by kernel_rfl)) ?_
            refine SL.ok (by decide) (OK.run 15 (.int .i64 (((m.gZ_l.getD 0 rw0).gS_l).getD 0 0)) (by kernel_rfl)) ?_
            refine SL.done ?_
            refine TL.done (by kernel_rfl) ?_
            refine J.run 0 (rRest K27_28) [(15, .int .i64 (((m.gZ_l.getD 0 rw0).gS_l).getD 0 0)), (14, .int .i64 (((m.gZ_l.getD 0 rw0).gS_l).getD 0 0)), (10, .pointer (some ⟨b5, 0, none⟩)), (6, .pointer (some ⟨b4, 0, none⟩)), (3, .pointer (some ⟨b1, 0, none⟩))] w19 (by kernel_rfl) ?_
            refine J.run 7 K27_29 [(16, .int .i64 0), (15, .int .i64 (((m.gZ_l.getD 0 rw0).gS_l).getD 0 0)), (14, .int .i64 (((m.gZ_l.getD 0 rw0).gS_l).getD 0 0)), (10, .pointer (some ⟨b5, 0, none⟩)), (6, .pointer (some ⟨b4, 0, none⟩)), (3, .pointer (some ⟨b1, 0, none⟩))] w19 (by kernel_rfl) ?_
            have L27_3 : ∀ (mm_ : Nat) (le : Int) (gr : Int) (k : Int) (w20 : World), (0 ≤ k) → (k ≤ (m.gX_n : Int)) → (le = minF (zF m 0 0) ((m.gZ_l.take (k).toNat).flatMap Rw.gS_l)) → (gr = maxF (zF m 0 0) ((m.gZ_l.take (k).toNat).flatMap Rw.gS_l)) → Sep w [box b5 [.int .i64 lo, .int .i64 hi] 47, rowOf encI ra2 rc2 3 1 (ptsF m.gY_l c d), rowOf encI ra1 rc1 3 1 (ptsF m.gX_l a b), box b4 [.int .i64 0, .int .i64 0] 47, box b3 [.int .i64 c, .int .i64 d] 47, box b2 [.int .i64 a, .int .i64 b] 47, box b1 [.slice m.gX_a m.gX_n m.gX_c, .slice m.gY_a m.gY_n m.gY_c, .slice m.gZ_a m.gZ_n m.gZ_c] 25] w20 → ((m.gX_n : Int) - k).toNat = mm_ → J Try.prog 27 134 R K27_29 [(16, .int .i64 k), (15, .int .i64 gr), (14, .int .i64 le), (10, .pointer (some ⟨b5, 0, none⟩)), (6, .pointer (some ⟨b4, 0, none⟩)), (3, .pointer (some ⟨b1, 0, none⟩))] w20 := by
              intro mm3
              induction mm3 using Nat.strongRecOn with
              | _ mm3 ih3 =>
              intro le gr k w20 k0 k1 hle hgr S20 hm3
              have hw1 : k < (m.gX_n : Int) → _ := fun h => hv4 k.toNat (by omega)
              have hw2 : k < (m.gX_n : Int) → _ := fun h => row_len hm (i := k.toNat) (by omega)
              refine J.run 5 K27_30 [(90, .pointer (some ⟨b1, 0, none⟩)), (89, .int .i64 k), (16, .int .i64 k), (15, .int .i64 gr), (14, .int .i64 le), (10, .pointer (some ⟨b5, 0, none⟩)), (6, .pointer (some ⟨b4, 0, none⟩)), (3, .pointer (some ⟨b1, 0, none⟩))] w20 (by kernel_rfl) ?_
              refine J.ok (OK.ldBox S20 6 91 22 0 (.slice m.gX_a m.gX_n m.gX_c) (by kernel_rfl) rfl (by kernel_rfl)) ?_
              refine J.run 3 K27_31 [(93, .bool (decide (k < (m.gX_n : Int)))), (16, .int .i64 k), (15, .int .i64 gr), (14, .int .i64 le), (10, .pointer (some ⟨b5, 0, none⟩)), (6, .pointer (some ⟨b4, 0, none⟩)), (3, .pointer (some ⟨b1, 0, none⟩))] w20 (by kernel_rfl) ?_
              by_cases fk6 : k < (m.gX_n : Int)
              · skip
                refine J.head (.bool true) (congrArg Value.bool (decide_eq_true fk6)) ?_
                refine J.run 10 K27_32 [(17, .int .i64 0), (16, .int .i64 k), (15, .int .i64 gr), (14, .int .i64 le), (10, .pointer (some ⟨b5, 0, none⟩)), (6, .pointer (some ⟨b4, 0, none⟩)), (3, .pointer (some ⟨b1, 0, none⟩))] w20 (by kernel_rfl) ?_
                have L27_4 : ∀ (mm_ : Nat) (le2 : Int) (gr2 : Int) (l_ : Int) (w21 : World), (0 ≤ l_) → (l_ ≤ (m.gY_n : Int)) → (le2 = minF (zF m 0 0) (all2 m k l_)) → (gr2 = maxF (zF m 0 0) (all2 m k l_)) → Sep w [box b5 [.int .i64 lo, .int .i64 hi] 47, rowOf encI ra2 rc2 3 1 (ptsF m.gY_l c d), rowOf encI ra1 rc1 3 1 (ptsF m.gX_l a b), box b4 [.int .i64 0, .int .i64 0] 47, box b3 [.int .i64 c, .int .i64 d] 47, box b2 [.int .i64 a, .int .i64 b] 47, box b1 [.slice m.gX_a m.gX_n m.gX_c, .slice m.gY_a m.gY_n m.gY_c, .slice m.gZ_a m.gZ_n m.gZ_c] 25] w21 → ((m.gY_n : Int) - l_).toNat = mm_ → J Try.prog 27 134 R K27_32 [(17, .int .i64 l_), (16, .int .i64 k), (15, .int .i64 gr2), (14, .int .i64 le2), (10, .pointer (some ⟨b5, 0, none⟩)), (6, .pointer (some ⟨b4, 0, none⟩)), (3, .pointer (some ⟨b1, 0, none⟩))] w21 := by
                  intro mm4
                  induction mm4 using Nat.strongRecOn with
                  | _ mm4 ih4 =>
                  intro le2 gr2 l_ w21 l0 l1 hle2 hgr2 S21 hm4
                  have hw3 := (hw1 (by omega)).1
                  have hw4 := hw2 (by omega)
                  refine J.run 5 K27_33 [(97, .pointer (some ⟨b1, 1, none⟩)), (96, .int .i64 l_), (17, .int .i64 l_), (16, .int .i64 k), (15, .int .i64 gr2), (14, .int .i64 le2), (10, .pointer (some ⟨b5, 0, none⟩)), (6, .pointer (some ⟨b4, 0, none⟩)), (3, .pointer (some ⟨b1, 0, none⟩))] w21 (by kernel_rfl) ?_
                  refine J.ok (OK.ldBox S21 6 98 22 1 (.slice m.gY_a m.gY_n m.gY_c) (by kernel_rfl) rfl (by kernel_rfl)) ?_
                  refine J.run 3 K27_34 [(100, .bool (decide (l_ < (m.gY_n : Int)))), (17, .int .i64 l_), (16, .int .i64 k), (15, .int .i64 gr2), (14, .int .i64 le2), (10, .pointer (some ⟨b5, 0, none⟩)), (6, .pointer (some ⟨b4, 0, none⟩)), (3, .pointer (some ⟨b1, 0, none⟩))] w21 (by kernel_rfl) ?_
                  by_cases fk7 : l_ < (m.gY_n : Int)
                  · skip
                    refine J.head (.bool true) (congrArg Value.bool (decide_eq_true fk7)) ?_
                    refine J.run 4 K27_35 [(17, .int .i64 l_), (16, .int .i64 k), (15, .int .i64 gr2), (14, .int .i64 le2), (10, .pointer (some ⟨b5, 0, none⟩)), (6, .pointer (some ⟨b4, 0, none⟩)), (3, .pointer (some ⟨b1, 0, none⟩))] w21 (by kernel_rfl) ?_
                    obtain ⟨p5, hp5, hc3⟩ := q8.at rw0 (k).toNat (by omega)
                    have hel3 := getD_Q q9 rw0 (n := (k).toNat) (by have := q8.len_eq; omega)
                    obtain ⟨q13, q14, q15, _⟩ := id hel3
                    have ql5 := q14.len_eq
                    obtain ⟨p6, hp6, hc4⟩ := q14.at 0 (l_).toNat (by omega)
                    have hel4 := getD_Q q15 0 (n := (l_).toNat) (by have := q14.len_eq; omega)
                    refine J.drawStill S21 22 Try.mixed (by kernel_rfl) (by kernel_rfl) (by kernel_rfl) ?_
                    intro w22 S22
                    refine SL.ok (by decide) (OK.run 103 (.int .i64 le2) (by kernel_rfl)) ?_
                    refine SL.ok (by decide) (OK.run 104 (.pointer (some ⟨b1, 2, none⟩)) (by kernel_rfl)) ?_
                    refine SL.ok (by decide) (OK.ldBox S22 6 105 23 2 (.slice m.gZ_a m.gZ_n m.gZ_c) (by kernel_rfl) rfl (by kernel_rfl)) ?_
                    refine SL.ok (by decide) (OK.run 106 (.int .i64 k) (by kernel_rfl)) ?_
                    refine SL.ok (by decide) (OK.index 107 23 1 m.gZ_a p5 m.gZ_n (k).toNat k (p5.add ((k).toNat * 1)) (by kernel_rfl) (by kernel_rfl) hp5 (by omega) (by omega) rfl) ?_
                    refine SL.ok (by decide) (OK.ldCell 108 22 (p5.add ((k).toNat * 1)) (.slice ((m.gZ_l.getD (k).toNat rw0).gS_a) ((m.gZ_l.getD (k).toNat rw0).gS_n) ((m.gZ_l.getD (k).toNat rw0).gS_c)) (by kernel_rfl) (by kernel_rfl) (S22.cell (cell_zero (hc3 0 _ rfl)))) ?_
                    refine SL.ok (by decide) (OK.run 109 (.int .i64 l_) (by kernel_rfl)) ?_
                    refine SL.ok (by decide) (OK.index 110 22 1 ((m.gZ_l.getD (k).toNat rw0).gS_a) p6 ((m.gZ_l.getD (k).toNat rw0).gS_n) (l_).toNat l_ (p6.add (l_).toNat) (by kernel_rfl) (by kernel_rfl) hp6 (by omega) (by omega) (by rw [Nat.mul_one])) ?_
                    refine SL.ok (by decide) (OK.ldCell 111 3 (p6.add (l_).toNat) (.int .i64 (((m.gZ_l.getD (k).toNat rw0).gS_l).getD (l_).toNat 0)) (by kernel_rfl) (by kernel_rfl) (S22.cell hc4)) ?_
                    refine SL.ok (by decide) (OK.run 112 (.int .i64 (if (((m.gZ_l.getD (k).toNat rw0).gS_l).getD (l_).toNat 0) < le2 then (((m.gZ_l.getD (k).toNat rw0).gS_l).getD (l_).toNat 0) else le2)) (by kernel_rfl)) ?_
                    refine SL.head (.int .i64 (min le2 (((m.gZ_l.getD (k).toNat rw0).gS_l).getD (l_).toNat 0))) (congrArg (Value.int .i64) (by omega)) ?_
                    refine SL.ok (by decide) (OK.run 113 (.int .i64 gr2) (by kernel_rfl)) ?_
                    refine SL.ok (by decide) (OK.run 114 (.pointer (some ⟨b1, 2, none⟩)) (by kernel_rfl)) ?_
                    refine SL.ok (by decide) (OK.ldBox S22 6 115 23 2 (.slice m.gZ_a m.gZ_n m.gZ_c) (by kernel_rfl) rfl (by kernel_rfl)) ?_
                    refine SL.ok (by decide) (OK.run 116 (.int .i64 k) (by kernel_rfl)) ?_
                    refine SL.ok (by decide) (OK.index 117 23 1 m.gZ_a p5 m.gZ_n (k).toNat k (p5.add ((k).toNat * 1)) (by kernel_rfl) (by kernel_rfl) hp5 (by omega) (by omega) rfl) ?_
                    refine SL.ok (by decide) (OK.ldCell 118 22 (p5.add ((k).toNat * 1)) (.slice ((m.gZ_l.getD (k).toNat rw0).gS_a) ((m.gZ_l.getD (k).toNat rw0).gS_n) ((m.gZ_l.getD (k).toNat rw0).gS_c)) (by kernel_rfl) (by kernel_rfl) (S22.cell (cell_zero (hc3 0 _ rfl)))) ?_
                    refine SL.ok (by decide) (OK.run 119 (.int .i64 l_) (by kernel_rfl)) ?_
                    refine SL.ok (by decide) (OK.index 120 22 1 ((m.gZ_l.getD (k).toNat rw0).gS_a) p6 ((m.gZ_l.getD (k).toNat rw0).gS_n) (l_).toNat l_ (p6.add (l_).toNat) (by kernel_rfl) (by kernel_rfl) hp6 (by omega) (by omega) (by rw [Nat.mul_one])) ?_
                    refine SL.ok (by decide) (OK.ldCell 121 3 (p6.add (l_).toNat) (.int .i64 (((m.gZ_l.getD (k).toNat rw0).gS_l).getD (l_).toNat 0)) (by kernel_rfl) (by kernel_rfl) (S22.cell hc4)) ?_
                    refine SL.ok (by decide) (OK.run 122 (.int .i64 (if (((m.gZ_l.getD (k).toNat rw0).gS_l).getD (l_).toNat 0) > gr2 then (((m.gZ_l.getD (k).toNat rw0).gS_l).getD (l_).toNat 0) else gr2)) (by kernel_rfl)) ?_
                    refine SL.head (.int .i64 (max gr2 (((m.gZ_l.getD (k).toNat rw0).gS_l).getD (l_).toNat 0))) (congrArg (Value.int .i64) (by omega)) ?_
                    refine SL.ok (by decide) (OK.run 14 (.int .i64 (min le2 (((m.gZ_l.getD (k).toNat rw0).gS_l).getD (l_).toNat 0))) (by kernel_rfl)) ?_
                    refine SL.ok (by decide) (OK.run 15 (.int .i64 (max gr2 (((m.gZ_l.getD (k).toNat rw0).gS_l).getD (l_).toNat 0))) (by kernel_rfl)) ?_
                    refine SL.done ?_
                    refine TL.done (by kernel_rfl) ?_
                    refine J.run 0 (rRest K27_35) [(15, .int .i64 (max gr2 (((m.gZ_l.getD (k).toNat rw0).gS_l).getD (l_).toNat 0))), (14, .int .i64 (min le2 (((m.gZ_l.getD (k).toNat rw0).gS_l).getD (l_).toNat 0))), (17, .int .i64 l_), (16, .int .i64 k), (10, .pointer (some ⟨b5, 0, none⟩)), (6, .pointer (some ⟨b4, 0, none⟩)), (3, .pointer (some ⟨b1, 0, none⟩))] w22 (by kernel_rfl) ?_
                    refine J.run 4 K27_36 [(102, .int .i64 (IntKind.wrap .i64 (l_ + 1))), (15, .int .i64 (max gr2 (((m.gZ_l.getD (k).toNat rw0).gS_l).getD (l_).toNat 0))), (14, .int .i64 (min le2 (((m.gZ_l.getD (k).toNat rw0).gS_l).getD (l_).toNat 0))), (16, .int .i64 k), (10, .pointer (some ⟨b5, 0, none⟩)), (6, .pointer (some ⟨b4, 0, none⟩)), (3, .pointer (some ⟨b1, 0, none⟩))] w22 (by kernel_rfl) ?_
                    refine J.head (.int .i64 (l_ + 1)) (congrArg (Value.int .i64) (IntWalk.i64_in _ (by omega))) ?_
                    refine J.run 3 K27_32 [(17, .int .i64 (l_ + 1)), (15, .int .i64 (max gr2 (((m.gZ_l.getD (k).toNat rw0).gS_l).getD (l_).toNat 0))), (14, .int .i64 (min le2 (((m.gZ_l.getD (k).toNat rw0).gS_l).getD (l_).toNat 0))), (16, .int .i64 k), (10, .pointer (some ⟨b5, 0, none⟩)), (6, .pointer (some ⟨b4, 0, none⟩)), (3, .pointer (some ⟨b1, 0, none⟩))] w22 (by kernel_rfl) ?_
                    refine J.run 0 K27_32 [(17, .int .i64 (l_ + 1)), (16, .int .i64 k), (15, .int .i64 (max gr2 (((m.gZ_l.getD (k).toNat rw0).gS_l).getD (l_).toNat 0))), (14, .int .i64 (min le2 (((m.gZ_l.getD (k).toNat rw0).gS_l).getD (l_).toNat 0))), (10, .pointer (some ⟨b5, 0, none⟩)), (6, .pointer (some ⟨b4, 0, none⟩)), (3, .pointer (some ⟨b1, 0, none⟩))] w22 (by kernel_rfl) ?_
                    exact ih4 _ (show ((m.gY_n : Int) - (l_ + 1)).toNat < mm4 from by omega) (min le2 (((m.gZ_l.getD (k).toNat rw0).gS_l).getD (l_).toNat 0)) (max gr2 (((m.gZ_l.getD (k).toNat rw0).gS_l).getD (l_).toNat 0)) (l_ + 1) w22 (by omega) (by omega) (by rw [hle2, all2_step l0 (by omega), minF_snoc]) (by rw [hgr2, all2_step l0 (by omega), maxF_snoc]) S22 rfl
                  · skip
                    refine J.head (.bool false) (congrArg Value.bool (decide_eq_false fk7)) ?_
                    refine J.run 6 K27_37 [(95, .int .i64 (IntKind.wrap .i64 (k + 1))), (15, .int .i64 gr2), (14, .int .i64 le2), (10, .pointer (some ⟨b5, 0, none⟩)), (6, .pointer (some ⟨b4, 0, none⟩)), (3, .pointer (some ⟨b1, 0, none⟩))] w21 (by kernel_rfl) ?_
                    refine J.head (.int .i64 (k + 1)) (congrArg (Value.int .i64) (IntWalk.i64_in _ (by omega))) ?_
                    refine J.run 3 K27_29 [(16, .int .i64 (k + 1)), (15, .int .i64 gr2), (14, .int .i64 le2), (10, .pointer (some ⟨b5, 0, none⟩)), (6, .pointer (some ⟨b4, 0, none⟩)), (3, .pointer (some ⟨b1, 0, none⟩))] w21 (by kernel_rfl) ?_
                    refine J.run 0 K27_29 [(16, .int .i64 (k + 1)), (15, .int .i64 gr2), (14, .int .i64 le2), (10, .pointer (some ⟨b5, 0, none⟩)), (6, .pointer (some ⟨b4, 0, none⟩)), (3, .pointer (some ⟨b1, 0, none⟩))] w21 (by kernel_rfl) ?_
                    exact ih3 _ (show ((m.gX_n : Int) - (k + 1)).toNat < mm3 from by omega) le2 gr2 (k + 1) w21 (by omega) (by omega) (by rw [hle2, all2_end k0 (by omega) (by omega)]) (by rw [hgr2, all2_end k0 (by omega) (by omega)]) S21 rfl
                exact L27_4 _ le gr 0 w20 (by omega) (by omega) (by rw [hle, all2_zero]) (by rw [hgr, all2_zero]) S20 rfl
              · skip
                refine J.head (.bool false) (congrArg Value.bool (decide_eq_false fk6)) ?_
                refine J.run 6 K27_38 [(124, .pointer (some ⟨b5, 0, none⟩)), (123, .int .i64 le), (15, .int .i64 gr), (10, .pointer (some ⟨b5, 0, none⟩)), (6, .pointer (some ⟨b4, 0, none⟩))] w20 (by kernel_rfl) ?_
                refine J.ok (OK.ldBox S20 0 125 3 0 (.int .i64 lo) (by kernel_rfl) rfl (by kernel_rfl)) ?_
                refine J.run 1 K27_39 [(126, .int .i64 (IntKind.wrap .i64 (lo - 1))), (123, .int .i64 le), (15, .int .i64 gr), (10, .pointer (some ⟨b5, 0, none⟩)), (6, .pointer (some ⟨b4, 0, none⟩))] w20 (by kernel_rfl) ?_
                refine J.head (.int .i64 (lo - 1)) (congrArg (Value.int .i64) (IntWalk.i64_in _ (by omega))) ?_
                refine J.run 1 K27_40 [(127, .int .i64 (if (lo - 1) > le then (lo - 1) else le)), (15, .int .i64 gr), (10, .pointer (some ⟨b5, 0, none⟩)), (6, .pointer (some ⟨b4, 0, none⟩))] w20 (by kernel_rfl) ?_
                refine J.head (.int .i64 (max le (lo - 1))) (congrArg (Value.int .i64) (by omega)) ?_
                refine J.run 2 K27_41 [(129, .pointer (some ⟨b5, 1, none⟩)), (128, .int .i64 gr), (127, .int .i64 (max le (lo - 1))), (6, .pointer (some ⟨b4, 0, none⟩))] w20 (by kernel_rfl) ?_
                refine J.ok (OK.ldBox S20 0 130 3 1 (.int .i64 hi) (by kernel_rfl) rfl (by kernel_rfl)) ?_
                refine J.run 1 K27_42 [(131, .int .i64 (IntKind.wrap .i64 (hi + 1))), (128, .int .i64 gr), (127, .int .i64 (max le (lo - 1))), (6, .pointer (some ⟨b4, 0, none⟩))] w20 (by kernel_rfl) ?_
                refine J.head (.int .i64 (hi + 1)) (congrArg (Value.int .i64) (IntWalk.i64_in _ (by omega))) ?_
                refine J.run 1 K27_43 [(132, .int .i64 (if (hi + 1) < gr then (hi + 1) else gr)), (127, .int .i64 (max le (lo - 1))), (6, .pointer (some ⟨b4, 0, none⟩))] w20 (by kernel_rfl) ?_
                refine J.head (.int .i64 (min gr (hi + 1))) (congrArg (Value.int .i64) (by omega)) ?_
                refine J.run 1 K27_44 [(133, .agg #[.int .i64 (max le (lo - 1)), .int .i64 (min gr (hi + 1))]), (6, .pointer (some ⟨b4, 0, none⟩))] w20 (by kernel_rfl) ?_
                refine J.stBox S20 3 47 0 (.agg #[.int .i64 (max le (lo - 1)), .int .i64 (min gr (hi + 1))]) [.int .i64 (max le (lo - 1)), .int .i64 (min gr (hi + 1))] [box b5 [.int .i64 lo, .int .i64 hi] 47, rowOf encI ra2 rc2 3 1 (ptsF m.gY_l c d), rowOf encI ra1 rc1 3 1 (ptsF m.gX_l a b), box b4 [.int .i64 (max le (lo - 1)), .int .i64 (min gr (hi + 1))] 47, box b3 [.int .i64 c, .int .i64 d] 47, box b2 [.int .i64 a, .int .i64 b] 47, box b1 [.slice m.gX_a m.gX_n m.gX_c, .slice m.gY_a m.gY_n m.gY_c, .slice m.gZ_a m.gZ_n m.gZ_c] 25] (by kernel_rfl) rfl (by kernel_rfl) (by kernel_rfl) rfl ?_
                intro w23 S23
                refine J.run 2 K27_45 [(7, .int .i64 0), (6, .pointer (some ⟨b4, 0, none⟩))] w23 (by kernel_rfl) ?_
                refine J.ret Try.f27 [.agg #[.int .i64 (max le (lo - 1)), .int .i64 (min gr (hi + 1))], .int .i64 0] Try.func27 ⟨⟨⟨b4, 0, none⟩, by kernel_rfl, ldV_run (S23.nth 3 rfl) (by kernel_rfl)⟩, by kernel_rfl, trivial⟩ ?_
                refine hR _ _ ?_
                obtain ⟨e1, e2, e3⟩ := over_yes (m := m) (a := a) (b := b) (c := c) (d := d) hv (by omega) (by omega)
                have eA : le = minF (zF m 0 0) (allZ m) := by rw [hle, List.take_of_length_le (by omega)]; rfl
                have eB : gr = maxF (zF m 0 0) (allZ m) := by rw [hgr, List.take_of_length_le (by omega)]; rfl
                have eL : lo = minF 1073741824 (valsF m (ptsF m.gX_l a b) (ptsF m.gY_l c d)) := by rw [hlo, List.take_of_length_le (by omega)]
                have eH : hi = maxF (-1073741824) (valsF m (ptsF m.gX_l a b) (ptsF m.gY_l c d)) := by rw [hhi, List.take_of_length_le (by omega)]
                have q1 : (max le (lo - 1)) = lowF m a b c d := by unfold lowF; rw [eL, eA]; try (first | rfl | omega)
                have q2 : (min gr (hi + 1)) = highF m a b c d := by unfold highF; rw [eH, eB]; try (first | rfl | omega)
                exact ⟨by rw [tup_two, e1, e2, e3, q1, q2], S23.nil⟩
            exact L27_3 _ (((m.gZ_l.getD 0 rw0).gS_l).getD 0 0) (((m.gZ_l.getD 0 rw0).gS_l).getD 0 0) 0 w19 (by omega) (by omega) (rfl) (rfl) S19 rfl
        exact L27_1 _ 1073741824 (-1073741824) 0 w12 (by omega) (by omega) (rfl) (rfl) S12 rfl
  · skip
    refine J.head (.bool true) (congrArg Value.bool (by rw [fk1]; rfl)) ?_
    refine J.run 18 K27_46 [(35, .agg #[.int .i64 0, .int .i64 0]), (6, .pointer (some ⟨b4, 0, none⟩))] w5 (by kernel_rfl) ?_
    refine J.stBox S5 0 47 0 (.agg #[.int .i64 0, .int .i64 0]) [.int .i64 0, .int .i64 0] [box b4 [.int .i64 0, .int .i64 0] 47, box b3 [.int .i64 c, .int .i64 d] 47, box b2 [.int .i64 a, .int .i64 b] 47, box b1 [.slice m.gX_a m.gX_n m.gX_c, .slice m.gY_a m.gY_n m.gY_c, .slice m.gZ_a m.gZ_n m.gZ_c] 25] (by kernel_rfl) rfl (by kernel_rfl) (by kernel_rfl) rfl ?_
    intro w24 S24
    refine J.run 2 K27_47 [(7, .int .i64 1), (6, .pointer (some ⟨b4, 0, none⟩))] w24 (by kernel_rfl) ?_
    refine J.ret Try.f27 [.agg #[.int .i64 0, .int .i64 0], .int .i64 1] Try.func27 ⟨⟨⟨b4, 0, none⟩, by kernel_rfl, ldV_run (S24.nth 0 rfl) (by kernel_rfl)⟩, by kernel_rfl, trivial⟩ ?_
    refine hR _ _ ?_
    obtain ⟨e1, e2, e3⟩ := over_no (m := m) (a := a) (b := b) (c := c) (d := d) (by first | exact .inl fk1 | exact .inr (.inl (by omega)) | exact .inr (.inr (by omega)))
    exact ⟨by rw [tup_two, e1, e2, e3], S24.nil⟩

theorem hb8 : HasBody Try.prog 8 := fun _ _ => by kernel_rfl
noncomputable def K8_0 : List Item := adv 2 [] (bodyOf Try.f8)
noncomputable def K8_1 : List Item := adv 5 [] (popK (popK (popK K8_0)))
noncomputable def K8_2 : List Item := adv 7 [false] (popK K8_1)
noncomputable def K8_3 : List Item := adv 2 [] (popK (popK K8_2))
noncomputable def K8_4 : List Item := adv 4 [false] K8_3
noncomputable def K8_5 : List Item := adv 3 [] (popK (popK (popK (popK K8_4))))
noncomputable def K8_6 : List Item := adv 4 [] (popK (popK K8_5))
noncomputable def K8_7 : List Item := adv 3 [] (popK (popK (popK (popK K8_6))))
noncomputable def K8_8 : List Item := adv 4 [] (popK (popK K8_7))
noncomputable def K8_9 : List Item := adv 4 [] (popK (popK (popK K8_8)))
noncomputable def K8_10 : List Item := adv 3 [] K8_9
noncomputable def K8_11 : List Item := adv 5 [true] K8_3
set_option maxRecDepth 20000 in
set_option maxHeartbeats 20000000 in
theorem lawover_any (m : Mp) (a b c d : Int) (w : World) (hm : mpQ w m) : Ret Try.prog 8 #[.agg #[.slice m.gX_a m.gX_n m.gX_c, .slice m.gY_a m.gY_n m.gY_c, .slice m.gZ_a m.gZ_n m.gZ_c], .agg #[.int .i64 a, .int .i64 b], .agg #[.int .i64 c, .int .i64 d]] w (fun v w' => v = .bool true ∧ Sep w [] w') := by
  have S0 := Sep.refl w
  refine Ret.named fun R hR => ?_
  refine Ret.of_J (N := 38) [(0, .agg #[.slice m.gX_a m.gX_n m.gX_c, .slice m.gY_a m.gY_n m.gY_c, .slice m.gZ_a m.gZ_n m.gZ_c]), (1, .agg #[.int .i64 a, .int .i64 b]), (2, .agg #[.int .i64 c, .int .i64 d])] Try.func8 rfl rfl (Nat.le_of_ble_eq_true (by kernel_rfl)) (by kernel_rfl) ?_
  obtain ⟨q1, q2, q3, q4, q5, q6, q7, q8, q9, _⟩ := id hm
  have ql1 := q2.len_eq
  have ql2 := q5.len_eq
  have ql3 := q8.len_eq
  refine J.run 2 K8_0 [(0, .agg #[.slice m.gX_a m.gX_n m.gX_c, .slice m.gY_a m.gY_n m.gY_c, .slice m.gZ_a m.gZ_n m.gZ_c]), (1, .agg #[.int .i64 a, .int .i64 b]), (2, .agg #[.int .i64 c, .int .i64 d])] w (by kernel_rfl) ?_
  refine J.new S0 3 [.slice m.gX_a m.gX_n m.gX_c, .slice m.gY_a m.gY_n m.gY_c, .slice m.gZ_a m.gZ_n m.gZ_c] 25 (by kernel_rfl) ?_
  intro b1 w1 S1
  refine J.new S1 4 [.int .i64 a, .int .i64 b] 47 (by kernel_rfl) ?_
  intro b2 w2 S2
  refine J.new S2 5 [.int .i64 c, .int .i64 d] 47 (by kernel_rfl) ?_
  intro b3 w3 S3
  refine J.run 5 K8_1 [(5, .pointer (some ⟨b3, 0, none⟩)), (4, .pointer (some ⟨b2, 0, none⟩)), (3, .pointer (some ⟨b1, 0, none⟩))] w3 (by kernel_rfl) ?_
  refine J.callF 11 11 #[] hb11 (by kernel_rfl) (awake_any  _) ?_
  rintro _ w4 ⟨rfl, T1⟩
  have S4 : Sep w [box b3 [.int .i64 c, .int .i64 d] 47, box b2 [.int .i64 a, .int .i64 b] 47, box b1 [.slice m.gX_a m.gX_n m.gX_c, .slice m.gY_a m.gY_n m.gY_c, .slice m.gZ_a m.gZ_n m.gZ_c] 25] w4 := S3.trans T1
  clear T1 S3
  refine J.run 7 K8_2 [(5, .pointer (some ⟨b3, 0, none⟩)), (4, .pointer (some ⟨b2, 0, none⟩)), (3, .pointer (some ⟨b1, 0, none⟩))] w4 (by kernel_rfl) ?_
  refine J.ok (OK.ldBox S4 2 13 25 0 (.agg #[.slice m.gX_a m.gX_n m.gX_c, .slice m.gY_a m.gY_n m.gY_c, .slice m.gZ_a m.gZ_n m.gZ_c]) (by kernel_rfl) rfl (by kernel_rfl)) ?_
  refine J.callF 14 12 #[.agg #[.slice m.gX_a m.gX_n m.gX_c, .slice m.gY_a m.gY_n m.gY_c, .slice m.gZ_a m.gZ_n m.gZ_c]] hb12 (by kernel_rfl) (few_any m _ (mpQ_sep hm S4)) ?_
  rintro _ w5 ⟨rfl, T2⟩
  have S5 : Sep w [box b3 [.int .i64 c, .int .i64 d] 47, box b2 [.int .i64 a, .int .i64 b] 47, box b1 [.slice m.gX_a m.gX_n m.gX_c, .slice m.gY_a m.gY_n m.gY_c, .slice m.gZ_a m.gZ_n m.gZ_c] 25] w5 := S4.trans T2
  clear T2 S4
  refine J.run 2 K8_3 [(15, .bool (!(fewB m))), (5, .pointer (some ⟨b3, 0, none⟩)), (4, .pointer (some ⟨b2, 0, none⟩)), (3, .pointer (some ⟨b1, 0, none⟩))] w5 (by kernel_rfl) ?_
  rcases Bool.eq_false_or_eq_true (fewB m) with fk1 | fk1
  · skip
    refine J.head (.bool false) (congrArg Value.bool (by rw [fk1]; rfl)) ?_
    refine J.run 4 K8_4 [(5, .pointer (some ⟨b3, 0, none⟩)), (4, .pointer (some ⟨b2, 0, none⟩)), (3, .pointer (some ⟨b1, 0, none⟩))] w5 (by kernel_rfl) ?_
    refine J.ok (OK.ldBox S5 2 17 25 0 (.agg #[.slice m.gX_a m.gX_n m.gX_c, .slice m.gY_a m.gY_n m.gY_c, .slice m.gZ_a m.gZ_n m.gZ_c]) (by kernel_rfl) rfl (by kernel_rfl)) ?_
    refine J.ok (OK.ldBox S5 1 18 47 0 (.agg #[.int .i64 a, .int .i64 b]) (by kernel_rfl) rfl (by kernel_rfl)) ?_
    refine J.ok (OK.ldBox S5 0 19 47 0 (.agg #[.int .i64 c, .int .i64 d]) (by kernel_rfl) rfl (by kernel_rfl)) ?_
    refine J.callF 20 26 #[.agg #[.slice m.gX_a m.gX_n m.gX_c, .slice m.gY_a m.gY_n m.gY_c, .slice m.gZ_a m.gZ_n m.gZ_c], .agg #[.int .i64 a, .int .i64 b], .agg #[.int .i64 c, .int .i64 d]] hb26 (by kernel_rfl) (over_any m a b c d _ (mpQ_sep hm S5)) ?_
    rintro _ w6 ⟨rfl, T3⟩
    have S6 : Sep w [box b3 [.int .i64 c, .int .i64 d] 47, box b2 [.int .i64 a, .int .i64 b] 47, box b1 [.slice m.gX_a m.gX_n m.gX_c, .slice m.gY_a m.gY_n m.gY_c, .slice m.gZ_a m.gZ_n m.gZ_c] 25] w6 := S5.trans T3
    clear T3 S5
    refine J.run 3 K8_5 [(22, .int .i64 (overE m a b c d)), (21, .agg #[.int .i64 (overL m a b c d), .int .i64 (overH m a b c d)]), (5, .pointer (some ⟨b3, 0, none⟩)), (4, .pointer (some ⟨b2, 0, none⟩)), (3, .pointer (some ⟨b1, 0, none⟩))] w6 (by kernel_rfl) ?_
    refine J.new S6 7 [.int .i64 0, .int .i64 0] 47 (by kernel_rfl) ?_
    intro b4 w7 S7
    refine J.stBox S7 0 47 0 (.agg #[.int .i64 (overL m a b c d), .int .i64 (overH m a b c d)]) [.int .i64 (overL m a b c d), .int .i64 (overH m a b c d)] [box b4 [.int .i64 (overL m a b c d), .int .i64 (overH m a b c d)] 47, box b3 [.int .i64 c, .int .i64 d] 47, box b2 [.int .i64 a, .int .i64 b] 47, box b1 [.slice m.gX_a m.gX_n m.gX_c, .slice m.gY_a m.gY_n m.gY_c, .slice m.gZ_a m.gZ_n m.gZ_c] 25] (by kernel_rfl) rfl (by kernel_rfl) (by kernel_rfl) rfl ?_
    intro w8 S8
    refine J.run 4 K8_6 [(8, .int .i64 (overE m a b c d)), (7, .pointer (some ⟨b4, 0, none⟩)), (5, .pointer (some ⟨b3, 0, none⟩)), (4, .pointer (some ⟨b2, 0, none⟩)), (3, .pointer (some ⟨b1, 0, none⟩))] w8 (by kernel_rfl) ?_
    refine J.ok (OK.ldBox S8 3 24 25 0 (.agg #[.slice m.gX_a m.gX_n m.gX_c, .slice m.gY_a m.gY_n m.gY_c, .slice m.gZ_a m.gZ_n m.gZ_c]) (by kernel_rfl) rfl (by kernel_rfl)) ?_
    refine J.ok (OK.ldBox S8 2 25 47 0 (.agg #[.int .i64 a, .int .i64 b]) (by kernel_rfl) rfl (by kernel_rfl)) ?_
    refine J.ok (OK.ldBox S8 1 26 47 0 (.agg #[.int .i64 c, .int .i64 d]) (by kernel_rfl) rfl (by kernel_rfl)) ?_
    refine J.callF 27 27 #[.agg #[.slice m.gX_a m.gX_n m.gX_c, .slice m.gY_a m.gY_n m.gY_c, .slice m.gZ_a m.gZ_n m.gZ_c], .agg #[.int .i64 a, .int .i64 b], .agg #[.int .i64 c, .int .i64 d]] hb27 (by kernel_rfl) (rover_any m a b c d _ (mpQ_sep hm S8)) ?_
    rintro _ w9 ⟨rfl, T4⟩
    have S9 : Sep w [box b4 [.int .i64 (overL m a b c d), .int .i64 (overH m a b c d)] 47, box b3 [.int .i64 c, .int .i64 d] 47, box b2 [.int .i64 a, .int .i64 b] 47, box b1 [.slice m.gX_a m.gX_n m.gX_c, .slice m.gY_a m.gY_n m.gY_c, .slice m.gZ_a m.gZ_n m.gZ_c] 25] w9 := S8.trans T4
    clear T4 S8
    refine J.run 3 K8_7 [(29, .int .i64 (overE m a b c d)), (28, .agg #[.int .i64 (overL m a b c d), .int .i64 (overH m a b c d)]), (8, .int .i64 (overE m a b c d)), (7, .pointer (some ⟨b4, 0, none⟩))] w9 (by kernel_rfl) ?_
    refine J.new S9 9 [.int .i64 0, .int .i64 0] 47 (by kernel_rfl) ?_
    intro b5 w10 S10
    refine J.stBox S10 0 47 0 (.agg #[.int .i64 (overL m a b c d), .int .i64 (overH m a b c d)]) [.int .i64 (overL m a b c d), .int .i64 (overH m a b c d)] [box b5 [.int .i64 (overL m a b c d), .int .i64 (overH m a b c d)] 47, box b4 [.int .i64 (overL m a b c d), .int .i64 (overH m a b c d)] 47, box b3 [.int .i64 c, .int .i64 d] 47, box b2 [.int .i64 a, .int .i64 b] 47, box b1 [.slice m.gX_a m.gX_n m.gX_c, .slice m.gY_a m.gY_n m.gY_c, .slice m.gZ_a m.gZ_n m.gZ_c] 25] (by kernel_rfl) rfl (by kernel_rfl) (by kernel_rfl) rfl ?_
    intro w11 S11
    refine J.run 4 K8_8 [(10, .int .i64 (overE m a b c d)), (9, .pointer (some ⟨b5, 0, none⟩)), (8, .int .i64 (overE m a b c d)), (7, .pointer (some ⟨b4, 0, none⟩))] w11 (by kernel_rfl) ?_
    refine J.ok (OK.ldBox S11 1 30 47 0 (.agg #[.int .i64 (overL m a b c d), .int .i64 (overH m a b c d)]) (by kernel_rfl) rfl (by kernel_rfl)) ?_
    refine J.ok (OK.ldBox S11 0 31 47 0 (.agg #[.int .i64 (overL m a b c d), .int .i64 (overH m a b c d)]) (by kernel_rfl) rfl (by kernel_rfl)) ?_
    refine J.ok (OK.eqS 32 true 47 #[.int .i64 (overL m a b c d), .int .i64 (overH m a b c d)] #[.int .i64 (overL m a b c d), .int .i64 (overH m a b c d)] (((overL m a b c d) == (overL m a b c d)) && (((overH m a b c d) == (overH m a b c d)) && true)) (by kernel_rfl) (by kernel_rfl) (by kernel_rfl) true (by simp)) ?_
    refine J.run 4 K8_9 [(36, .bool ((overE m a b c d) == (overE m a b c d))), (33, .bool true)] w11 (by kernel_rfl) ?_
    refine J.head (.bool true) (congrArg Value.bool (by simp)) ?_
    refine J.run 3 K8_10 [(6, .bool true)] w11 (by kernel_rfl) ?_
    refine J.ret Try.f8 [.bool true] Try.func8 ⟨by kernel_rfl, trivial⟩ ?_
    refine hR _ _ ?_
    exact ⟨rfl, S11.nil⟩
  · skip
    refine J.head (.bool true) (congrArg Value.bool (by rw [fk1]; rfl)) ?_
    refine J.run 5 K8_11 [(6, .bool true)] w5 (by kernel_rfl) ?_
    refine J.ret Try.f8 [.bool true] Try.func8 ⟨by kernel_rfl, trivial⟩ ?_
    refine hR _ _ ?_
    exact ⟨rfl, S5.nil⟩

end Go.Proofs.Ytempepmfifljmaa
