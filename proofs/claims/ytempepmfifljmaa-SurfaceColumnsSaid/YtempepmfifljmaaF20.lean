/- Walks of functions of this seat, printed by a program over the engine. Conditions: as each theorem says. -/
import Derived.Test.YtempepmfifljmaaF19
namespace Go.Proofs.Ytempepmfifljmaa
open Go.Eng Go.RowKit
set_option linter.unusedSimpArgs false
set_option linter.unusedVariables false
theorem hb28 : HasBody Try.prog 28 := fun _ _ => by kernel_rfl
noncomputable def K28_0 : List Item := adv 12 [] (bodyOf Try.f28)
noncomputable def K28_1 : List Item := adv 5 [] K28_0
noncomputable def K28_2 : List Item := adv 3 [] K28_1
noncomputable def K28_3 : List Item := adv 2 [] K28_2
noncomputable def K28_4 : List Item := adv 3 [] K28_3
noncomputable def K28_5 : List Item := adv 4 [] (popK (popK K28_4))
noncomputable def K28_6 : List Item := adv 6 [true] K28_5
noncomputable def K28_7 : List Item := adv 7 [false] K28_5
noncomputable def K28_8 : List Item := adv 3 [] K28_7
noncomputable def K28_9 : List Item := adv 16 [false] K28_3
noncomputable def K28_10 : List Item := adv 3 [] K28_9
set_option maxRecDepth 20000 in
set_option maxHeartbeats 20000000 in
theorem cell_any (la : Option Addr) (len cap : Nat) (l : List Int) (x : Int) (w : World) (hI : Ints w la len l) (hlen : len ≤ 9223372036854775807) (h2 : 2 ≤ len) : Ret Try.prog 28 #[.slice la len cap, .int .i64 x] w (fun v w' => ∃ i, v = .tuple #[.int .i64 i, .int .i64 (i + 1)] ∧ ((0 ≤ i ∧ i + 1 < (l.length : Int)) ∧ (i = 0 ∨ l.getD i.toNat 0 ≤ x) ∧ (x < l.getD (i + 1).toNat 0 ∨ i + 2 = (l.length : Int))) ∧ Sep w [] w') := by
  have S0 := Sep.refl w
  refine Ret.named fun R hR => ?_
  refine Ret.of_J (N := 27) [(0, .slice la len cap), (1, .int .i64 x)] Try.func28 rfl rfl (Nat.le_of_ble_eq_true (by kernel_rfl)) (by kernel_rfl) ?_
  have hll := hI.len_eq
  refine J.run 12 K28_0 [(6, .int .i64 0), (0, .slice la len cap), (1, .int .i64 x)] w (by kernel_rfl) ?_
  have L28_1 : ∀ (mm_ : Nat) (i : Int) (w1 : World), (0 ≤ i ∧ i + 1 < (len : Int)) → (i = 0 ∨ l.getD (i).toNat 0 ≤ x) → Sep w [] w1 → ((len : Int) - i).toNat = mm_ → J Try.prog 28 27 R K28_0 [(6, .int .i64 i), (0, .slice la len cap), (1, .int .i64 x)] w1 := by
    intro mm1
    induction mm1 using Nat.strongRecOn with
    | _ mm1 ih1 =>
    intro i w1 h0 hle S1 hm1
    refine J.run 5 K28_1 [(8, .int .i64 (IntKind.wrap .i64 (i + 1))), (6, .int .i64 i), (0, .slice la len cap), (1, .int .i64 x)] w1 (by kernel_rfl) ?_
    refine J.head (.int .i64 (i + 1)) (congrArg (Value.int .i64) (IntWalk.i64_in _ (by omega))) ?_
    refine J.run 3 K28_2 [(11, .int .i64 (IntKind.wrap .i64 ((len : Int) - 1))), (8, .int .i64 (i + 1)), (6, .int .i64 i), (0, .slice la len cap), (1, .int .i64 x)] w1 (by kernel_rfl) ?_
    refine J.head (.int .i64 ((len : Int) - 1)) (congrArg (Value.int .i64) (IntWalk.i64_in _ (by omega))) ?_
    refine J.run 2 K28_3 [(13, .bool (decide ((i + 1) < ((len : Int) - 1)))), (6, .int .i64 i), (0, .slice la len cap), (1, .int .i64 x)] w1 (by kernel_rfl) ?_
    by_cases fk1 : (i + 1) < ((len : Int) - 1)
    · skip
      refine J.head (.bool true) (congrArg Value.bool (decide_eq_true fk1)) ?_
      refine J.run 3 K28_4 [(16, .int .i64 (IntKind.wrap .i64 (i + 1))), (14, .slice la len cap), (13, .bool true), (6, .int .i64 i), (0, .slice la len cap), (1, .int .i64 x)] w1 (by kernel_rfl) ?_
      refine J.head (.int .i64 (i + 1)) (congrArg (Value.int .i64) (IntWalk.i64_in _ (by omega))) ?_
      obtain ⟨p1, hp1, hc1⟩ := hI.at 0 (i + 1).toNat (by omega)
      refine J.ok (OK.index 17 22 1 la p1 len (i + 1).toNat (i + 1) (p1.add (i + 1).toNat) (by kernel_rfl) (by kernel_rfl) hp1 (by omega) (by omega) (by rw [Nat.mul_one])) ?_
      refine J.ok (OK.ldCell 18 3 (p1.add (i + 1).toNat) (.int .i64 (l.getD (i + 1).toNat 0)) (by kernel_rfl) (by kernel_rfl) (S1.cell hc1)) ?_
      refine J.run 4 K28_5 [(21, .bool (decide ((l.getD (i + 1).toNat 0) ≤ x))), (6, .int .i64 i), (0, .slice la len cap), (1, .int .i64 x)] w1 (by kernel_rfl) ?_
      by_cases fk2 : (l.getD (i + 1).toNat 0) ≤ x
      · skip
        refine J.head (.bool true) (congrArg Value.bool (decide_eq_true fk2)) ?_
        refine J.run 6 K28_6 [(23, .int .i64 (IntKind.wrap .i64 (i + 1))), (0, .slice la len cap), (1, .int .i64 x)] w1 (by kernel_rfl) ?_
        refine J.head (.int .i64 (i + 1)) (congrArg (Value.int .i64) (IntWalk.i64_in _ (by omega))) ?_
        refine J.run 4 K28_0 [(6, .int .i64 (i + 1)), (0, .slice la len cap), (1, .int .i64 x)] w1 (by kernel_rfl) ?_
        refine J.run 0 K28_0 [(6, .int .i64 (i + 1)), (0, .slice la len cap), (1, .int .i64 x)] w1 (by kernel_rfl) ?_
        exact ih1 _ (show ((len : Int) - (i + 1)).toNat < mm1 from by omega) (i + 1) w1 (by omega) (.inr (by omega)) S1 rfl
      · skip
        refine J.head (.bool false) (congrArg Value.bool (decide_eq_false fk2)) ?_
        refine J.run 7 K28_7 [(26, .int .i64 (IntKind.wrap .i64 (i + 1))), (24, .int .i64 i)] w1 (by kernel_rfl) ?_
        refine J.head (.int .i64 (i + 1)) (congrArg (Value.int .i64) (IntWalk.i64_in _ (by omega))) ?_
        refine J.run 3 K28_8 [(5, .int .i64 (i + 1)), (4, .int .i64 i)] w1 (by kernel_rfl) ?_
        refine J.ret Try.f28 [.int .i64 i, .int .i64 (i + 1)] Try.func28 ⟨by kernel_rfl, by kernel_rfl, trivial⟩ ?_
        refine hR _ _ ?_
        exact ⟨_, rfl, ⟨by omega, hle, by omega⟩, S1.nil⟩
    · skip
      refine J.head (.bool false) (congrArg Value.bool (decide_eq_false fk1)) ?_
      refine J.run 16 K28_9 [(26, .int .i64 (IntKind.wrap .i64 (i + 1))), (24, .int .i64 i)] w1 (by kernel_rfl) ?_
      refine J.head (.int .i64 (i + 1)) (congrArg (Value.int .i64) (IntWalk.i64_in _ (by omega))) ?_
      refine J.run 3 K28_10 [(5, .int .i64 (i + 1)), (4, .int .i64 i)] w1 (by kernel_rfl) ?_
      refine J.ret Try.f28 [.int .i64 i, .int .i64 (i + 1)] Try.func28 ⟨by kernel_rfl, by kernel_rfl, trivial⟩ ?_
      refine hR _ _ ?_
      exact ⟨_, rfl, ⟨by omega, hle, by omega⟩, S1.nil⟩
  exact L28_1 _ 0 w (by omega) (.inl rfl) S0 rfl

theorem hb9 : HasBody Try.prog 9 := fun _ _ => by kernel_rfl
noncomputable def K9_0 : List Item := adv 2 [] (bodyOf Try.f9)
noncomputable def K9_1 : List Item := adv 5 [] (popK K9_0)
noncomputable def K9_2 : List Item := adv 7 [false] (popK K9_1)
noncomputable def K9_3 : List Item := adv 2 [] (popK (popK K9_2))
noncomputable def K9_4 : List Item := adv 3 [] (popK (popK K9_3))
noncomputable def K9_5 : List Item := adv 4 [] K9_4
noncomputable def K9_6 : List Item := adv 17 [true] K9_5
noncomputable def K9_7 : List Item := adv 4 [] K9_5
noncomputable def K9_8 : List Item := adv 13 [true] K9_7
noncomputable def K9_9 : List Item := adv 4 [] K9_7
noncomputable def K9_10 : List Item := adv 9 [true] K9_9
noncomputable def K9_11 : List Item := adv 4 [] K9_9
noncomputable def K9_12 : List Item := adv 5 [true] K9_11
noncomputable def K9_13 : List Item := adv 4 [false] K9_11
noncomputable def K9_14 : List Item := adv 2 [] (popK K9_13)
noncomputable def K9_15 : List Item := adv 10 [] (popK K9_14)
noncomputable def K9_16 : List Item := adv 1 [] (popK K9_15)
noncomputable def K9_17 : List Item := adv 10 [] (popK K9_16)
noncomputable def K9_18 : List Item := adv 1 [] (popK K9_17)
noncomputable def K9_19 : List Item := adv 7 [] (popK K9_18)
noncomputable def K9_20 : List Item := adv 1 [] (rRest K9_19)
noncomputable def K9_21 : List Item := adv 2 [] (rRest K9_20)
noncomputable def K9_22 : List Item := adv 3 [] (popK K9_21)
noncomputable def K9_23 : List Item := adv 1 [] K9_22
noncomputable def K9_24 : List Item := adv 3 [] K9_23
noncomputable def K9_25 : List Item := adv 1 [] K9_24
noncomputable def K9_26 : List Item := adv 4 [] K9_25
noncomputable def K9_27 : List Item := adv 1 [] K9_26
noncomputable def K9_28 : List Item := adv 3 [] K9_27
noncomputable def K9_29 : List Item := adv 1 [] K9_28
noncomputable def K9_30 : List Item := adv 1 [] K9_29
noncomputable def K9_31 : List Item := adv 3 [] (popK K9_30)
noncomputable def K9_32 : List Item := adv 8 [] (popK (popK K9_31))
noncomputable def K9_33 : List Item := adv 5 [] K9_32
noncomputable def K9_34 : List Item := adv 4 [] K9_33
noncomputable def K9_35 : List Item := adv 1 [] K9_34
noncomputable def K9_36 : List Item := adv 4 [] (popK K9_35)
noncomputable def K9_37 : List Item := adv 2 [] K9_36
noncomputable def K9_38 : List Item := adv 4 [] (popK K9_37)
noncomputable def K9_39 : List Item := adv 21 [true] K9_4
noncomputable def K9_40 : List Item := adv 26 [true] K9_3
set_option maxRecDepth 20000 in
set_option maxHeartbeats 20000000 in
theorem lawinside_any (m : Mp) (x y le ri dn up : Int) (w : World) (hm : mpQ w m) (hle : 0 ≤ le ∧ le ≤ 65535) (hri : 0 ≤ ri ∧ ri ≤ 65535) (hdn : 0 ≤ dn ∧ dn ≤ 65535) (hup : 0 ≤ up ∧ up ≤ 65535) : Ret Try.prog 9 #[.agg #[.slice m.gX_a m.gX_n m.gX_c, .slice m.gY_a m.gY_n m.gY_c, .slice m.gZ_a m.gZ_n m.gZ_c], .int .i64 x, .int .i64 y, .int .u16 le, .int .u16 ri, .int .u16 dn, .int .u16 up] w (fun v w' => v = .bool true ∧ Sep w [] w') := by
  have S0 := Sep.refl w
  refine Ret.named fun R hR => ?_
  refine Ret.of_J (N := 184) [(0, .agg #[.slice m.gX_a m.gX_n m.gX_c, .slice m.gY_a m.gY_n m.gY_c, .slice m.gZ_a m.gZ_n m.gZ_c]), (1, .int .i64 x), (2, .int .i64 y), (3, .int .u16 le), (4, .int .u16 ri), (5, .int .u16 dn), (6, .int .u16 up)] Try.func9 rfl rfl (Nat.le_of_ble_eq_true (by kernel_rfl)) (by kernel_rfl) ?_
  obtain ⟨q1, q2, q3, q4, q5, q6, q7, q8, q9, _⟩ := id hm
  have ql1 := q2.len_eq
  have ql2 := q5.len_eq
  have ql3 := q8.len_eq
  refine J.run 2 K9_0 [(0, .agg #[.slice m.gX_a m.gX_n m.gX_c, .slice m.gY_a m.gY_n m.gY_c, .slice m.gZ_a m.gZ_n m.gZ_c]), (1, .int .i64 x), (2, .int .i64 y), (3, .int .u16 le), (4, .int .u16 ri), (5, .int .u16 dn), (6, .int .u16 up)] w (by kernel_rfl) ?_
  refine J.new S0 7 [.slice m.gX_a m.gX_n m.gX_c, .slice m.gY_a m.gY_n m.gY_c, .slice m.gZ_a m.gZ_n m.gZ_c] 25 (by kernel_rfl) ?_
  intro b1 w1 S1
  refine J.run 5 K9_1 [(7, .pointer (some ⟨b1, 0, none⟩)), (1, .int .i64 x), (2, .int .i64 y), (3, .int .u16 le), (4, .int .u16 ri), (5, .int .u16 dn), (6, .int .u16 up)] w1 (by kernel_rfl) ?_
  refine J.callF 25 11 #[] hb11 (by kernel_rfl) (awake_any  _) ?_
  rintro _ w2 ⟨rfl, T1⟩
  have S2 : Sep w [box b1 [.slice m.gX_a m.gX_n m.gX_c, .slice m.gY_a m.gY_n m.gY_c, .slice m.gZ_a m.gZ_n m.gZ_c] 25] w2 := S1.trans T1
  clear T1 S1
  refine J.run 7 K9_2 [(7, .pointer (some ⟨b1, 0, none⟩)), (1, .int .i64 x), (2, .int .i64 y), (3, .int .u16 le), (4, .int .u16 ri), (5, .int .u16 dn), (6, .int .u16 up)] w2 (by kernel_rfl) ?_
  refine J.ok (OK.ldBox S2 0 27 25 0 (.agg #[.slice m.gX_a m.gX_n m.gX_c, .slice m.gY_a m.gY_n m.gY_c, .slice m.gZ_a m.gZ_n m.gZ_c]) (by kernel_rfl) rfl (by kernel_rfl)) ?_
  refine J.callF 28 12 #[.agg #[.slice m.gX_a m.gX_n m.gX_c, .slice m.gY_a m.gY_n m.gY_c, .slice m.gZ_a m.gZ_n m.gZ_c]] hb12 (by kernel_rfl) (few_any m _ (mpQ_sep hm S2)) ?_
  rintro _ w3 ⟨rfl, T2⟩
  have S3 : Sep w [box b1 [.slice m.gX_a m.gX_n m.gX_c, .slice m.gY_a m.gY_n m.gY_c, .slice m.gZ_a m.gZ_n m.gZ_c] 25] w3 := S2.trans T2
  clear T2 S2
  refine J.run 2 K9_3 [(30, .bool (!(fewB m))), (7, .pointer (some ⟨b1, 0, none⟩)), (1, .int .i64 x), (2, .int .i64 y), (3, .int .u16 le), (4, .int .u16 ri), (5, .int .u16 dn), (6, .int .u16 up)] w3 (by kernel_rfl) ?_
  rcases Bool.eq_false_or_eq_true (fewB m) with fk1 | fk1
  · skip
    refine J.head (.bool false) (congrArg Value.bool (by rw [fk1]; rfl)) ?_
    refine J.ok (OK.ldBox S3 0 31 25 0 (.agg #[.slice m.gX_a m.gX_n m.gX_c, .slice m.gY_a m.gY_n m.gY_c, .slice m.gZ_a m.gZ_n m.gZ_c]) (by kernel_rfl) rfl (by kernel_rfl)) ?_
    refine J.callF 32 15 #[.agg #[.slice m.gX_a m.gX_n m.gX_c, .slice m.gY_a m.gY_n m.gY_c, .slice m.gZ_a m.gZ_n m.gZ_c]] hb15 (by kernel_rfl) (valid_any m _ (mpQ_sep hm S3)) ?_
    rintro _ w4 ⟨rfl, T3⟩
    have S4 : Sep w [box b1 [.slice m.gX_a m.gX_n m.gX_c, .slice m.gY_a m.gY_n m.gY_c, .slice m.gZ_a m.gZ_n m.gZ_c] 25] w4 := S3.trans T3
    clear T3 S3
    refine J.run 3 K9_4 [(35, .bool (!(validM m))), (7, .pointer (some ⟨b1, 0, none⟩)), (1, .int .i64 x), (2, .int .i64 y), (3, .int .u16 le), (4, .int .u16 ri), (5, .int .u16 dn), (6, .int .u16 up)] w4 (by kernel_rfl) ?_
    rcases Bool.eq_false_or_eq_true (validM m) with fk2 | fk2
    · skip
      refine J.head (.bool false) (congrArg Value.bool (by rw [fk2]; rfl)) ?_
      have hv := fk2
      obtain ⟨hv1, hv2, hv3, hv4⟩ := valid_facts hv
      obtain ⟨hx1, hx2, hx3⟩ := axis_facts hv1
      obtain ⟨hy1, hy2, hy3⟩ := axis_facts hv2
      have hX : m.gX_l.length = m.gX_n := by omega
      have hY : m.gY_l.length = m.gY_n := by omega
      have vm := vm_of hv (by omega) fun i hi => row_len hm hi
      have hzall : ∀ i, i < m.gX_n → ∀ j, j < m.gY_n → zF m i j ∈ allZ m := fun i hi j hj => allZ_mem (by omega) (by have := row_len hm (i := i) (by omega); have := (hv4 i (by omega)).1; omega)
      have hvz := value_all hX hY vm hzall x y
      refine J.run 4 K9_5 [(39, .bool (decide (x < (-2147483648)))), (7, .pointer (some ⟨b1, 0, none⟩)), (1, .int .i64 x), (2, .int .i64 y), (3, .int .u16 le), (4, .int .u16 ri), (5, .int .u16 dn), (6, .int .u16 up)] w4 (by kernel_rfl) ?_
      by_cases fk3 : x < (-2147483648)
      · skip
        refine J.head (.bool true) (congrArg Value.bool (decide_eq_true fk3)) ?_
        refine J.run 17 K9_6 [(14, .bool true)] w4 (by kernel_rfl) ?_
        refine J.ret Try.f9 [.bool true] Try.func9 ⟨by kernel_rfl, trivial⟩ ?_
        refine hR _ _ ?_
        exact ⟨rfl, S4.nil⟩
      · skip
        refine J.head (.bool false) (congrArg Value.bool (decide_eq_false fk3)) ?_
        refine J.run 4 K9_7 [(43, .bool (decide (x > 2147483648))), (7, .pointer (some ⟨b1, 0, none⟩)), (1, .int .i64 x), (2, .int .i64 y), (3, .int .u16 le), (4, .int .u16 ri), (5, .int .u16 dn), (6, .int .u16 up)] w4 (by kernel_rfl) ?_
        by_cases fk4 : x > 2147483648
        · skip
          refine J.head (.bool true) (congrArg Value.bool (decide_eq_true fk4)) ?_
          refine J.run 13 K9_8 [(14, .bool true)] w4 (by kernel_rfl) ?_
          refine J.ret Try.f9 [.bool true] Try.func9 ⟨by kernel_rfl, trivial⟩ ?_
          refine hR _ _ ?_
          exact ⟨rfl, S4.nil⟩
        · skip
          refine J.head (.bool false) (congrArg Value.bool (decide_eq_false fk4)) ?_
          refine J.run 4 K9_9 [(47, .bool (decide (y < (-2147483648)))), (7, .pointer (some ⟨b1, 0, none⟩)), (1, .int .i64 x), (2, .int .i64 y), (3, .int .u16 le), (4, .int .u16 ri), (5, .int .u16 dn), (6, .int .u16 up)] w4 (by kernel_rfl) ?_
          by_cases fk5 : y < (-2147483648)
          · skip
            refine J.head (.bool true) (congrArg Value.bool (decide_eq_true fk5)) ?_
            refine J.run 9 K9_10 [(14, .bool true)] w4 (by kernel_rfl) ?_
            refine J.ret Try.f9 [.bool true] Try.func9 ⟨by kernel_rfl, trivial⟩ ?_
            refine hR _ _ ?_
            exact ⟨rfl, S4.nil⟩
          · skip
            refine J.head (.bool false) (congrArg Value.bool (decide_eq_false fk5)) ?_
            refine J.run 4 K9_11 [(50, .bool (decide (y > 2147483648))), (7, .pointer (some ⟨b1, 0, none⟩)), (1, .int .i64 x), (2, .int .i64 y), (3, .int .u16 le), (4, .int .u16 ri), (5, .int .u16 dn), (6, .int .u16 up)] w4 (by kernel_rfl) ?_
            by_cases fk6 : y > 2147483648
            · skip
              refine J.head (.bool true) (congrArg Value.bool (decide_eq_true fk6)) ?_
              refine J.run 5 K9_12 [(14, .bool true)] w4 (by kernel_rfl) ?_
              refine J.ret Try.f9 [.bool true] Try.func9 ⟨by kernel_rfl, trivial⟩ ?_
              refine hR _ _ ?_
              exact ⟨rfl, S4.nil⟩
            · skip
              refine J.head (.bool false) (congrArg Value.bool (decide_eq_false fk6)) ?_
              refine J.run 4 K9_13 [(7, .pointer (some ⟨b1, 0, none⟩)), (1, .int .i64 x), (2, .int .i64 y), (3, .int .u16 le), (4, .int .u16 ri), (5, .int .u16 dn), (6, .int .u16 up)] w4 (by kernel_rfl) ?_
              refine J.ok (OK.ldBox S4 0 51 25 0 (.agg #[.slice m.gX_a m.gX_n m.gX_c, .slice m.gY_a m.gY_n m.gY_c, .slice m.gZ_a m.gZ_n m.gZ_c]) (by kernel_rfl) rfl (by kernel_rfl)) ?_
              refine J.run 2 K9_14 [(53, .int .i64 y), (52, .int .i64 x), (51, .agg #[.slice m.gX_a m.gX_n m.gX_c, .slice m.gY_a m.gY_n m.gY_c, .slice m.gZ_a m.gZ_n m.gZ_c]), (7, .pointer (some ⟨b1, 0, none⟩)), (1, .int .i64 x), (2, .int .i64 y), (3, .int .u16 le), (4, .int .u16 ri), (5, .int .u16 dn), (6, .int .u16 up)] w4 (by kernel_rfl) ?_
              refine J.callF 54 13 #[.agg #[.slice m.gX_a m.gX_n m.gX_c, .slice m.gY_a m.gY_n m.gY_c, .slice m.gZ_a m.gZ_n m.gZ_c], .int .i64 x, .int .i64 y] hb13 (by kernel_rfl) (At_any m x y _ (mpQ_sep hm S4)) ?_
              rintro _ w5 ⟨rfl, T4⟩
              have S5 : Sep w [box b1 [.slice m.gX_a m.gX_n m.gX_c, .slice m.gY_a m.gY_n m.gY_c, .slice m.gZ_a m.gZ_n m.gZ_c] 25] w5 := S4.trans T4
              clear T4 S4
              refine J.run 10 K9_15 [(57, .pointer (some ⟨b1, 0, none⟩)), (56, .func (.func 28) #[] #[]), (16, .func (.func 28) #[] #[]), (15, .int .i64 (atF m x y)), (7, .pointer (some ⟨b1, 0, none⟩)), (1, .int .i64 x), (2, .int .i64 y), (3, .int .u16 le), (4, .int .u16 ri), (5, .int .u16 dn), (6, .int .u16 up)] w5 (by kernel_rfl) ?_
              refine J.ok (OK.ldBox S5 0 58 22 0 (.slice m.gX_a m.gX_n m.gX_c) (by kernel_rfl) rfl (by kernel_rfl)) ?_
              refine J.run 1 K9_16 [(59, .int .i64 x), (58, .slice m.gX_a m.gX_n m.gX_c), (56, .func (.func 28) #[] #[]), (16, .func (.func 28) #[] #[]), (15, .int .i64 (atF m x y)), (7, .pointer (some ⟨b1, 0, none⟩)), (1, .int .i64 x), (2, .int .i64 y), (3, .int .u16 le), (4, .int .u16 ri), (5, .int .u16 dn), (6, .int .u16 up)] w5 (by kernel_rfl) ?_
              refine J.callF 60 28 #[.slice m.gX_a m.gX_n m.gX_c, .int .i64 x] hb28 (by kernel_rfl) (cell_any m.gX_a m.gX_n m.gX_c m.gX_l x _ (q2.sep S5) (by omega) (by omega)) ?_
              rintro _ w6 ⟨i1, rfl, ⟨hc1a, hc1b, hc1c⟩, T5⟩
              have S6 : Sep w [box b1 [.slice m.gX_a m.gX_n m.gX_c, .slice m.gY_a m.gY_n m.gY_c, .slice m.gZ_a m.gZ_n m.gZ_c] 25] w6 := S5.trans T5
              refine J.run 10 K9_17 [(65, .pointer (some ⟨b1, 1, none⟩)), (64, .func (.func 28) #[] #[]), (18, .int .i64 (i1 + 1)), (17, .int .i64 i1), (15, .int .i64 (atF m x y)), (7, .pointer (some ⟨b1, 0, none⟩)), (1, .int .i64 x), (2, .int .i64 y), (3, .int .u16 le), (4, .int .u16 ri), (5, .int .u16 dn), (6, .int .u16 up)] w6 (by kernel_rfl) ?_
              refine J.ok (OK.ldBox S6 0 66 22 1 (.slice m.gY_a m.gY_n m.gY_c) (by kernel_rfl) rfl (by kernel_rfl)) ?_
              refine J.run 1 K9_18 [(67, .int .i64 y), (66, .slice m.gY_a m.gY_n m.gY_c), (64, .func (.func 28) #[] #[]), (18, .int .i64 (i1 + 1)), (17, .int .i64 i1), (15, .int .i64 (atF m x y)), (7, .pointer (some ⟨b1, 0, none⟩)), (1, .int .i64 x), (2, .int .i64 y), (3, .int .u16 le), (4, .int .u16 ri), (5, .int .u16 dn), (6, .int .u16 up)] w6 (by kernel_rfl) ?_
              refine J.callF 68 28 #[.slice m.gY_a m.gY_n m.gY_c, .int .i64 y] hb28 (by kernel_rfl) (cell_any m.gY_a m.gY_n m.gY_c m.gY_l y _ (q5.sep S6) (by omega) (by omega)) ?_
              rintro _ w7 ⟨i2, rfl, ⟨hc2a, hc2b, hc2c⟩, T6⟩
              have S7 : Sep w [box b1 [.slice m.gX_a m.gX_n m.gX_c, .slice m.gY_a m.gY_n m.gY_c, .slice m.gZ_a m.gZ_n m.gZ_c] 25] w7 := S6.trans T6
              have hva := value_around hX hY vm (x := x) (y := y) (i := i1.toNat) (j := i2.toNat) (by omega) (by rcases hc1b with h_ | h_; exact .inl (by omega); exact .inr h_) (by rw [show i1.toNat + 1 = (i1 + 1).toNat by omega]; rcases hc1c with h_ | h_; exact .inl h_; exact .inr (by omega)) (by omega) (by rcases hc2b with h_ | h_; exact .inl (by omega); exact .inr h_) (by rw [show i2.toNat + 1 = (i2 + 1).toNat by omega]; rcases hc2c with h_ | h_; exact .inl h_; exact .inr (by omega))
              unfold zF at hva
              rw [show i1.toNat + 1 = (i1 + 1).toNat by omega, show i2.toNat + 1 = (i2 + 1).toNat by omega] at hva
              obtain ⟨hz1, _⟩ := hv4 i1.toNat (by omega)
              have := row_len hm (i := i1.toNat) (by omega)
              obtain ⟨hz2, _⟩ := hv4 (i1 + 1).toNat (by omega)
              have := row_len hm (i := (i1 + 1).toNat) (by omega)
              refine J.run 7 K9_19 [(20, .int .i64 (i2 + 1)), (19, .int .i64 i2), (18, .int .i64 (i1 + 1)), (17, .int .i64 i1), (15, .int .i64 (atF m x y)), (7, .pointer (some ⟨b1, 0, none⟩)), (1, .int .i64 x), (2, .int .i64 y), (3, .int .u16 le), (4, .int .u16 ri), (5, .int .u16 dn), (6, .int .u16 up)] w7 (by kernel_rfl) ?_
              obtain ⟨p1, hp1, hc1⟩ := q8.at rw0 (i1).toNat (by omega)
              have hel1 := getD_Q q9 rw0 (n := (i1).toNat) (by have := q8.len_eq; omega)
              obtain ⟨q10, q11, q12, _⟩ := id hel1
              have ql4 := q11.len_eq
              obtain ⟨p2, hp2, hc2⟩ := q11.at 0 (i2).toNat (by omega)
              have hel2 := getD_Q q12 0 (n := (i2).toNat) (by have := q11.len_eq; omega)
              obtain ⟨p3, hp3, hc3⟩ := q11.at 0 (i2 + 1).toNat (by omega)
              have hel3 := getD_Q q12 0 (n := (i2 + 1).toNat) (by have := q11.len_eq; omega)
              obtain ⟨p4, hp4, hc4⟩ := q8.at rw0 (i1 + 1).toNat (by omega)
              have hel4 := getD_Q q9 rw0 (n := (i1 + 1).toNat) (by have := q8.len_eq; omega)
              obtain ⟨q13, q14, q15, _⟩ := id hel4
              have ql5 := q14.len_eq
              obtain ⟨p5, hp5, hc5⟩ := q14.at 0 (i2).toNat (by omega)
              have hel5 := getD_Q q15 0 (n := (i2).toNat) (by have := q14.len_eq; omega)
              obtain ⟨p6, hp6, hc6⟩ := q14.at 0 (i2 + 1).toNat (by omega)
              have hel6 := getD_Q q15 0 (n := (i2 + 1).toNat) (by have := q14.len_eq; omega)
              refine J.drawStill S7 34 Try.mixed (by kernel_rfl) (by kernel_rfl) (by kernel_rfl) ?_
              intro w8 S8
              refine SL.ok (by decide) (OK.run 71 (.pointer (some ⟨b1, 2, none⟩)) (by kernel_rfl)) ?_
              refine SL.ok (by decide) (OK.ldBox S8 0 72 23 2 (.slice m.gZ_a m.gZ_n m.gZ_c) (by kernel_rfl) rfl (by kernel_rfl)) ?_
              refine SL.ok (by decide) (OK.run 73 (.int .i64 i1) (by kernel_rfl)) ?_
              refine SL.ok (by decide) (OK.index 74 23 1 m.gZ_a p1 m.gZ_n (i1).toNat i1 (p1.add ((i1).toNat * 1)) (by kernel_rfl) (by kernel_rfl) hp1 (by omega) (by omega) rfl) ?_
              refine SL.ok (by decide) (OK.ldCell 75 22 (p1.add ((i1).toNat * 1)) (.slice ((m.gZ_l.getD (i1).toNat rw0).gS_a) ((m.gZ_l.getD (i1).toNat rw0).gS_n) ((m.gZ_l.getD (i1).toNat rw0).gS_c)) (by kernel_rfl) (by kernel_rfl) (S8.cell (cell_zero (hc1 0 _ rfl)))) ?_
              refine SL.ok (by decide) (OK.run 76 (.int .i64 i2) (by kernel_rfl)) ?_
              refine SL.ok (by decide) (OK.index 77 22 1 ((m.gZ_l.getD (i1).toNat rw0).gS_a) p2 ((m.gZ_l.getD (i1).toNat rw0).gS_n) (i2).toNat i2 (p2.add (i2).toNat) (by kernel_rfl) (by kernel_rfl) hp2 (by omega) (by omega) (by rw [Nat.mul_one])) ?_
              refine SL.ok (by decide) (OK.ldCell 78 3 (p2.add (i2).toNat) (.int .i64 (((m.gZ_l.getD (i1).toNat rw0).gS_l).getD (i2).toNat 0)) (by kernel_rfl) (by kernel_rfl) (S8.cell hc2)) ?_
              refine SL.ok (by decide) (OK.run 79 (.pointer (some ⟨b1, 2, none⟩)) (by kernel_rfl)) ?_
              refine SL.ok (by decide) (OK.ldBox S8 0 80 23 2 (.slice m.gZ_a m.gZ_n m.gZ_c) (by kernel_rfl) rfl (by kernel_rfl)) ?_
              refine SL.ok (by decide) (OK.run 81 (.int .i64 i1) (by kernel_rfl)) ?_
              refine SL.ok (by decide) (OK.index 82 23 1 m.gZ_a p1 m.gZ_n (i1).toNat i1 (p1.add ((i1).toNat * 1)) (by kernel_rfl) (by kernel_rfl) hp1 (by omega) (by omega) rfl) ?_
              refine SL.ok (by decide) (OK.ldCell 83 22 (p1.add ((i1).toNat * 1)) (.slice ((m.gZ_l.getD (i1).toNat rw0).gS_a) ((m.gZ_l.getD (i1).toNat rw0).gS_n) ((m.gZ_l.getD (i1).toNat rw0).gS_c)) (by kernel_rfl) (by kernel_rfl) (S8.cell (cell_zero (hc1 0 _ rfl)))) ?_
              refine SL.ok (by decide) (OK.run 84 (.int .i64 (i2 + 1)) (by kernel_rfl)) ?_
              refine SL.ok (by decide) (OK.index 85 22 1 ((m.gZ_l.getD (i1).toNat rw0).gS_a) p3 ((m.gZ_l.getD (i1).toNat rw0).gS_n) (i2 + 1).toNat (i2 + 1) (p3.add (i2 + 1).toNat) (by kernel_rfl) (by kernel_rfl) hp3 (by omega) (by omega) (by rw [Nat.mul_one])) ?_
              refine SL.ok (by decide) (OK.ldCell 86 3 (p3.add (i2 + 1).toNat) (.int .i64 (((m.gZ_l.getD (i1).toNat rw0).gS_l).getD (i2 + 1).toNat 0)) (by kernel_rfl) (by kernel_rfl) (S8.cell hc3)) ?_
              refine SL.ok (by decide) (OK.run 87 (.pointer (some ⟨b1, 2, none⟩)) (by kernel_rfl)) ?_
              refine SL.ok (by decide) (OK.ldBox S8 0 88 23 2 (.slice m.gZ_a m.gZ_n m.gZ_c) (by kernel_rfl) rfl (by kernel_rfl)) ?_
              refine SL.ok (by decide) (OK.run 89 (.int .i64 (i1 + 1)) (by kernel_rfl)) ?_
              refine SL.ok (by decide) (OK.index 90 23 1 m.gZ_a p4 m.gZ_n (i1 + 1).toNat (i1 + 1) (p4.add ((i1 + 1).toNat * 1)) (by kernel_rfl) (by kernel_rfl) hp4 (by omega) (by omega) rfl) ?_
              refine SL.ok (by decide) (OK.ldCell 91 22 (p4.add ((i1 + 1).toNat * 1)) (.slice ((m.gZ_l.getD (i1 + 1).toNat rw0).gS_a) ((m.gZ_l.getD (i1 + 1).toNat rw0).gS_n) ((m.gZ_l.getD (i1 + 1).toNat rw0).gS_c)) (by kernel_rfl) (by kernel_rfl) (S8.cell (cell_zero (hc4 0 _ rfl)))) ?_
              refine SL.ok (by decide) (OK.run 92 (.int .i64 i2) (by kernel_rfl)) ?_
              refine SL.ok (by decide) (OK.index 93 22 1 ((m.gZ_l.getD (i1 + 1).toNat rw0).gS_a) p5 ((m.gZ_l.getD (i1 + 1).toNat rw0).gS_n) (i2).toNat i2 (p5.add (i2).toNat) (by kernel_rfl) (by kernel_rfl) hp5 (by omega) (by omega) (by rw [Nat.mul_one])) ?_
              refine SL.ok (by decide) (OK.ldCell 94 3 (p5.add (i2).toNat) (.int .i64 (((m.gZ_l.getD (i1 + 1).toNat rw0).gS_l).getD (i2).toNat 0)) (by kernel_rfl) (by kernel_rfl) (S8.cell hc5)) ?_
              refine SL.ok (by decide) (OK.run 95 (.pointer (some ⟨b1, 2, none⟩)) (by kernel_rfl)) ?_
              refine SL.ok (by decide) (OK.ldBox S8 0 96 23 2 (.slice m.gZ_a m.gZ_n m.gZ_c) (by kernel_rfl) rfl (by kernel_rfl)) ?_
              refine SL.ok (by decide) (OK.run 97 (.int .i64 (i1 + 1)) (by kernel_rfl)) ?_
              refine SL.ok (by decide) (OK.index 98 23 1 m.gZ_a p4 m.gZ_n (i1 + 1).toNat (i1 + 1) (p4.add ((i1 + 1).toNat * 1)) (by kernel_rfl) (by kernel_rfl) hp4 (by omega) (by omega) rfl) ?_
              refine SL.ok (by decide) (OK.ldCell 99 22 (p4.add ((i1 + 1).toNat * 1)) (.slice ((m.gZ_l.getD (i1 + 1).toNat rw0).gS_a) ((m.gZ_l.getD (i1 + 1).toNat rw0).gS_n) ((m.gZ_l.getD (i1 + 1).toNat rw0).gS_c)) (by kernel_rfl) (by kernel_rfl) (S8.cell (cell_zero (hc4 0 _ rfl)))) ?_
              refine SL.ok (by decide) (OK.run 100 (.int .i64 (i2 + 1)) (by kernel_rfl)) ?_
              refine SL.ok (by decide) (OK.index 101 22 1 ((m.gZ_l.getD (i1 + 1).toNat rw0).gS_a) p6 ((m.gZ_l.getD (i1 + 1).toNat rw0).gS_n) (i2 + 1).toNat (i2 + 1) (p6.add (i2 + 1).toNat) (by kernel_rfl) (by kernel_rfl) hp6 (by omega) (by omega) (by rw [Nat.mul_one])) ?_
              refine SL.ok (by decide) (OK.ldCell 102 3 (p6.add (i2 + 1).toNat) (.int .i64 (((m.gZ_l.getD (i1 + 1).toNat rw0).gS_l).getD (i2 + 1).toNat 0)) (by kernel_rfl) (by kernel_rfl) (S8.cell hc6)) ?_
              refine SL.ok (by decide) (OK.run 103 (.int .i64 (if (((m.gZ_l.getD (i1 + 1).toNat rw0).gS_l).getD (i2 + 1).toNat 0) < (if (((m.gZ_l.getD (i1 + 1).toNat rw0).gS_l).getD (i2).toNat 0) < (if (((m.gZ_l.getD (i1).toNat rw0).gS_l).getD (i2 + 1).toNat 0) < (((m.gZ_l.getD (i1).toNat rw0).gS_l).getD (i2).toNat 0) then (((m.gZ_l.getD (i1).toNat rw0).gS_l).getD (i2 + 1).toNat 0) else (((m.gZ_l.getD (i1).toNat rw0).gS_l).getD (i2).toNat 0)) then (((m.gZ_l.getD (i1 + 1).toNat rw0).gS_l).getD (i2).toNat 0) else (if (((m.gZ_l.getD (i1).toNat rw0).gS_l).getD (i2 + 1).toNat 0) < (((m.gZ_l.getD (i1).toNat rw0).gS_l).getD (i2).toNat 0) then (((m.gZ_l.getD (i1).toNat rw0).gS_l).getD (i2 + 1).toNat 0) else (((m.gZ_l.getD (i1).toNat rw0).gS_l).getD (i2).toNat 0))) then (((m.gZ_l.getD (i1 + 1).toNat rw0).gS_l).getD (i2 + 1).toNat 0) else (if (((m.gZ_l.getD (i1 + 1).toNat rw0).gS_l).getD (i2).toNat 0) < (if (((m.gZ_l.getD (i1).toNat rw0).gS_l).getD (i2 + 1).toNat 0) < (((m.gZ_l.getD (i1).toNat rw0).gS_l).getD (i2).toNat 0) then (((m.gZ_l.getD (i1).toNat rw0).gS_l).getD (i2 + 1).toNat 0) else (((m.gZ_l.getD (i1).toNat rw0).gS_l).getD (i2).toNat 0)) then (((m.gZ_l.getD (i1 + 1).toNat rw0).gS_l).getD (i2).toNat 0) else (if (((m.gZ_l.getD (i1).toNat rw0).gS_l).getD (i2 + 1).toNat 0) < (((m.gZ_l.getD (i1).toNat rw0).gS_l).getD (i2).toNat 0) then (((m.gZ_l.getD (i1).toNat rw0).gS_l).getD (i2 + 1).toNat 0) else (((m.gZ_l.getD (i1).toNat rw0).gS_l).getD (i2).toNat 0))))) (by kernel_rfl)) ?_
              refine SL.head (.int .i64 (min (if (((m.gZ_l.getD (i1 + 1).toNat rw0).gS_l).getD (i2).toNat 0) < (if (((m.gZ_l.getD (i1).toNat rw0).gS_l).getD (i2 + 1).toNat 0) < (((m.gZ_l.getD (i1).toNat rw0).gS_l).getD (i2).toNat 0) then (((m.gZ_l.getD (i1).toNat rw0).gS_l).getD (i2 + 1).toNat 0) else (((m.gZ_l.getD (i1).toNat rw0).gS_l).getD (i2).toNat 0)) then (((m.gZ_l.getD (i1 + 1).toNat rw0).gS_l).getD (i2).toNat 0) else (if (((m.gZ_l.getD (i1).toNat rw0).gS_l).getD (i2 + 1).toNat 0) < (((m.gZ_l.getD (i1).toNat rw0).gS_l).getD (i2).toNat 0) then (((m.gZ_l.getD (i1).toNat rw0).gS_l).getD (i2 + 1).toNat 0) else (((m.gZ_l.getD (i1).toNat rw0).gS_l).getD (i2).toNat 0))) (((m.gZ_l.getD (i1 + 1).toNat rw0).gS_l).getD (i2 + 1).toNat 0))) (congrArg (Value.int .i64) (by omega)) ?_
              refine SL.ok (by decide) (OK.run 21 (.int .i64 (min (if (((m.gZ_l.getD (i1 + 1).toNat rw0).gS_l).getD (i2).toNat 0) < (if (((m.gZ_l.getD (i1).toNat rw0).gS_l).getD (i2 + 1).toNat 0) < (((m.gZ_l.getD (i1).toNat rw0).gS_l).getD (i2).toNat 0) then (((m.gZ_l.getD (i1).toNat rw0).gS_l).getD (i2 + 1).toNat 0) else (((m.gZ_l.getD (i1).toNat rw0).gS_l).getD (i2).toNat 0)) then (((m.gZ_l.getD (i1 + 1).toNat rw0).gS_l).getD (i2).toNat 0) else (if (((m.gZ_l.getD (i1).toNat rw0).gS_l).getD (i2 + 1).toNat 0) < (((m.gZ_l.getD (i1).toNat rw0).gS_l).getD (i2).toNat 0) then (((m.gZ_l.getD (i1).toNat rw0).gS_l).getD (i2 + 1).toNat 0) else (((m.gZ_l.getD (i1).toNat rw0).gS_l).getD (i2).toNat 0))) (((m.gZ_l.getD (i1 + 1).toNat rw0).gS_l).getD (i2 + 1).toNat 0))) (by kernel_rfl)) ?_
              refine SL.done ?_
              refine TL.done (by kernel_rfl) ?_
              refine J.run 0 (rRest K9_19) [(21, .int .i64 (min (if (((m.gZ_l.getD (i1 + 1).toNat rw0).gS_l).getD (i2).toNat 0) < (if (((m.gZ_l.getD (i1).toNat rw0).gS_l).getD (i2 + 1).toNat 0) < (((m.gZ_l.getD (i1).toNat rw0).gS_l).getD (i2).toNat 0) then (((m.gZ_l.getD (i1).toNat rw0).gS_l).getD (i2 + 1).toNat 0) else (((m.gZ_l.getD (i1).toNat rw0).gS_l).getD (i2).toNat 0)) then (((m.gZ_l.getD (i1 + 1).toNat rw0).gS_l).getD (i2).toNat 0) else (if (((m.gZ_l.getD (i1).toNat rw0).gS_l).getD (i2 + 1).toNat 0) < (((m.gZ_l.getD (i1).toNat rw0).gS_l).getD (i2).toNat 0) then (((m.gZ_l.getD (i1).toNat rw0).gS_l).getD (i2 + 1).toNat 0) else (((m.gZ_l.getD (i1).toNat rw0).gS_l).getD (i2).toNat 0))) (((m.gZ_l.getD (i1 + 1).toNat rw0).gS_l).getD (i2 + 1).toNat 0))), (20, .int .i64 (i2 + 1)), (19, .int .i64 i2), (18, .int .i64 (i1 + 1)), (17, .int .i64 i1), (15, .int .i64 (atF m x y)), (7, .pointer (some ⟨b1, 0, none⟩)), (1, .int .i64 x), (2, .int .i64 y), (3, .int .u16 le), (4, .int .u16 ri), (5, .int .u16 dn), (6, .int .u16 up)] w8 (by kernel_rfl) ?_
              refine J.run 1 K9_20 [(21, .int .i64 (min (if (((m.gZ_l.getD (i1 + 1).toNat rw0).gS_l).getD (i2).toNat 0) < (if (((m.gZ_l.getD (i1).toNat rw0).gS_l).getD (i2 + 1).toNat 0) < (((m.gZ_l.getD (i1).toNat rw0).gS_l).getD (i2).toNat 0) then (((m.gZ_l.getD (i1).toNat rw0).gS_l).getD (i2 + 1).toNat 0) else (((m.gZ_l.getD (i1).toNat rw0).gS_l).getD (i2).toNat 0)) then (((m.gZ_l.getD (i1 + 1).toNat rw0).gS_l).getD (i2).toNat 0) else (if (((m.gZ_l.getD (i1).toNat rw0).gS_l).getD (i2 + 1).toNat 0) < (((m.gZ_l.getD (i1).toNat rw0).gS_l).getD (i2).toNat 0) then (((m.gZ_l.getD (i1).toNat rw0).gS_l).getD (i2 + 1).toNat 0) else (((m.gZ_l.getD (i1).toNat rw0).gS_l).getD (i2).toNat 0))) (((m.gZ_l.getD (i1 + 1).toNat rw0).gS_l).getD (i2 + 1).toNat 0))), (20, .int .i64 (i2 + 1)), (19, .int .i64 i2), (18, .int .i64 (i1 + 1)), (17, .int .i64 i1), (15, .int .i64 (atF m x y)), (7, .pointer (some ⟨b1, 0, none⟩)), (1, .int .i64 x), (2, .int .i64 y), (3, .int .u16 le), (4, .int .u16 ri), (5, .int .u16 dn), (6, .int .u16 up)] w8 (by kernel_rfl) ?_
              refine J.drawStill S8 34 Try.mixed (by kernel_rfl) (by kernel_rfl) (by kernel_rfl) ?_
              intro w9 S9
              refine SL.ok (by decide) (OK.run 104 (.pointer (some ⟨b1, 2, none⟩)) (by kernel_rfl)) ?_
              refine SL.ok (by decide) (OK.ldBox S9 0 105 23 2 (.slice m.gZ_a m.gZ_n m.gZ_c) (by kernel_rfl) rfl (by kernel_rfl)) ?_
              refine SL.ok (by decide) (OK.run 106 (.int .i64 i1) (by kernel_rfl)) ?_
              refine SL.ok (by decide) (OK.index 107 23 1 m.gZ_a p1 m.gZ_n (i1).toNat i1 (p1.add ((i1).toNat * 1)) (by kernel_rfl) (by kernel_rfl) hp1 (by omega) (by omega) rfl) ?_
              refine SL.ok (by decide) (OK.ldCell 108 22 (p1.add ((i1).toNat * 1)) (.slice ((m.gZ_l.getD (i1).toNat rw0).gS_a) ((m.gZ_l.getD (i1).toNat rw0).gS_n) ((m.gZ_l.getD (i1).toNat rw0).gS_c)) (by kernel_rfl) (by kernel_rfl) (S9.cell (cell_zero (hc1 0 _ rfl)))) ?_
              refine SL.ok (by decide) (OK.run 109 (.int .i64 i2) (by kernel_rfl)) ?_
              refine SL.ok (by decide) (OK.index 110 22 1 ((m.gZ_l.getD (i1).toNat rw0).gS_a) p2 ((m.gZ_l.getD (i1).toNat rw0).gS_n) (i2).toNat i2 (p2.add (i2).toNat) (by kernel_rfl) (by kernel_rfl) hp2 (by omega) (by omega) (by rw [Nat.mul_one])) ?_
              refine SL.ok (by decide) (OK.ldCell 111 3 (p2.add (i2).toNat) (.int .i64 (((m.gZ_l.getD (i1).toNat rw0).gS_l).getD (i2).toNat 0)) (by kernel_rfl) (by kernel_rfl) (S9.cell hc2)) ?_
              refine SL.ok (by decide) (OK.run 112 (.pointer (some ⟨b1, 2, none⟩)) (by kernel_rfl)) ?_
              refine SL.ok (by decide) (OK.ldBox S9 0 113 23 2 (.slice m.gZ_a m.gZ_n m.gZ_c) (by kernel_rfl) rfl (by kernel_rfl)) ?_
              refine SL.ok (by decide) (OK.run 114 (.int .i64 i1) (by kernel_rfl)) ?_
              refine SL.ok (by decide) (OK.index 115 23 1 m.gZ_a p1 m.gZ_n (i1).toNat i1 (p1.add ((i1).toNat * 1)) (by kernel_rfl) (by kernel_rfl) hp1 (by omega) (by omega) rfl) ?_
              refine SL.ok (by decide) (OK.ldCell 116 22 (p1.add ((i1).toNat * 1)) (.slice ((m.gZ_l.getD (i1).toNat rw0).gS_a) ((m.gZ_l.getD (i1).toNat rw0).gS_n) ((m.gZ_l.getD (i1).toNat rw0).gS_c)) (by kernel_rfl) (by kernel_rfl) (S9.cell (cell_zero (hc1 0 _ rfl)))) ?_
              refine SL.ok (by decide) (OK.run 117 (.int .i64 (i2 + 1)) (by kernel_rfl)) ?_
              refine SL.ok (by decide) (OK.index 118 22 1 ((m.gZ_l.getD (i1).toNat rw0).gS_a) p3 ((m.gZ_l.getD (i1).toNat rw0).gS_n) (i2 + 1).toNat (i2 + 1) (p3.add (i2 + 1).toNat) (by kernel_rfl) (by kernel_rfl) hp3 (by omega) (by omega) (by rw [Nat.mul_one])) ?_
              refine SL.ok (by decide) (OK.ldCell 119 3 (p3.add (i2 + 1).toNat) (.int .i64 (((m.gZ_l.getD (i1).toNat rw0).gS_l).getD (i2 + 1).toNat 0)) (by kernel_rfl) (by kernel_rfl) (S9.cell hc3)) ?_
              refine SL.ok (by decide) (OK.run 120 (.pointer (some ⟨b1, 2, none⟩)) (by kernel_rfl)) ?_
              refine SL.ok (by decide) (OK.ldBox S9 0 121 23 2 (.slice m.gZ_a m.gZ_n m.gZ_c) (by kernel_rfl) rfl (by kernel_rfl)) ?_
              refine SL.ok (by decide) (OK.run 122 (.int .i64 (i1 + 1)) (by kernel_rfl)) ?_
              refine SL.ok (by decide) (OK.index 123 23 1 m.gZ_a p4 m.gZ_n (i1 + 1).toNat (i1 + 1) (p4.add ((i1 + 1).toNat * 1)) (by kernel_rfl) (by kernel_rfl) hp4 (by omega) (by omega) rfl) ?_
              refine SL.ok (by decide) (OK.ldCell 124 22 (p4.add ((i1 + 1).toNat * 1)) (.slice ((m.gZ_l.getD (i1 + 1).toNat rw0).gS_a) ((m.gZ_l.getD (i1 + 1).toNat rw0).gS_n) ((m.gZ_l.getD (i1 + 1).toNat rw0).gS_c)) (by kernel_rfl) (by kernel_rfl) (S9.cell (cell_zero (hc4 0 _ rfl)))) ?_
              refine SL.ok (by decide) (OK.run 125 (.int .i64 i2) (by kernel_rfl)) ?_
              refine SL.ok (by decide) (OK.index 126 22 1 ((m.gZ_l.getD (i1 + 1).toNat rw0).gS_a) p5 ((m.gZ_l.getD (i1 + 1).toNat rw0).gS_n) (i2).toNat i2 (p5.add (i2).toNat) (by kernel_rfl) (by kernel_rfl) hp5 (by omega) (by omega) (by rw [Nat.mul_one])) ?_
              refine SL.ok (by decide) (OK.ldCell 127 3 (p5.add (i2).toNat) (.int .i64 (((m.gZ_l.getD (i1 + 1).toNat rw0).gS_l).getD (i2).toNat 0)) (by kernel_rfl) (by kernel_rfl) (S9.cell hc5)) ?_
              refine SL.ok (by decide) (OK.run 128 (.pointer (some ⟨b1, 2, none⟩)) (by kernel_rfl)) ?_
              refine SL.ok (by decide) (OK.ldBox S9 0 129 23 2 (.slice m.gZ_a m.gZ_n m.gZ_c) (by kernel_rfl) rfl (by kernel_rfl)) ?_
              refine SL.ok (by decide) (OK.run 130 (.int .i64 (i1 + 1)) (by kernel_rfl)) ?_
              refine SL.ok (by decide) (OK.index 131 23 1 m.gZ_a p4 m.gZ_n (i1 + 1).toNat (i1 + 1) (p4.add ((i1 + 1).toNat * 1)) (by kernel_rfl) (by kernel_rfl) hp4 (by omega) (by omega) rfl) ?_
              refine SL.ok (by decide) (OK.ldCell 132 22 (p4.add ((i1 + 1).toNat * 1)) (.slice ((m.gZ_l.getD (i1 + 1).toNat rw0).gS_a) ((m.gZ_l.getD (i1 + 1).toNat rw0).gS_n) ((m.gZ_l.getD (i1 + 1).toNat rw0).gS_c)) (by kernel_rfl) (by kernel_rfl) (S9.cell (cell_zero (hc4 0 _ rfl)))) ?_
              refine SL.ok (by decide) (OK.run 133 (.int .i64 (i2 + 1)) (by kernel_rfl)) ?_
              refine SL.ok (by decide) (OK.index 134 22 1 ((m.gZ_l.getD (i1 + 1).toNat rw0).gS_a) p6 ((m.gZ_l.getD (i1 + 1).toNat rw0).gS_n) (i2 + 1).toNat (i2 + 1) (p6.add (i2 + 1).toNat) (by kernel_rfl) (by kernel_rfl) hp6 (by omega) (by omega) (by rw [Nat.mul_one])) ?_
              refine SL.ok (by decide) (OK.ldCell 135 3 (p6.add (i2 + 1).toNat) (.int .i64 (((m.gZ_l.getD (i1 + 1).toNat rw0).gS_l).getD (i2 + 1).toNat 0)) (by kernel_rfl) (by kernel_rfl) (S9.cell hc6)) ?_
              refine SL.ok (by decide) (OK.run 136 (.int .i64 (if (((m.gZ_l.getD (i1 + 1).toNat rw0).gS_l).getD (i2 + 1).toNat 0) > (if (((m.gZ_l.getD (i1 + 1).toNat rw0).gS_l).getD (i2).toNat 0) > (if (((m.gZ_l.getD (i1).toNat rw0).gS_l).getD (i2 + 1).toNat 0) > (((m.gZ_l.getD (i1).toNat rw0).gS_l).getD (i2).toNat 0) then (((m.gZ_l.getD (i1).toNat rw0).gS_l).getD (i2 + 1).toNat 0) else (((m.gZ_l.getD (i1).toNat rw0).gS_l).getD (i2).toNat 0)) then (((m.gZ_l.getD (i1 + 1).toNat rw0).gS_l).getD (i2).toNat 0) else (if (((m.gZ_l.getD (i1).toNat rw0).gS_l).getD (i2 + 1).toNat 0) > (((m.gZ_l.getD (i1).toNat rw0).gS_l).getD (i2).toNat 0) then (((m.gZ_l.getD (i1).toNat rw0).gS_l).getD (i2 + 1).toNat 0) else (((m.gZ_l.getD (i1).toNat rw0).gS_l).getD (i2).toNat 0))) then (((m.gZ_l.getD (i1 + 1).toNat rw0).gS_l).getD (i2 + 1).toNat 0) else (if (((m.gZ_l.getD (i1 + 1).toNat rw0).gS_l).getD (i2).toNat 0) > (if (((m.gZ_l.getD (i1).toNat rw0).gS_l).getD (i2 + 1).toNat 0) > (((m.gZ_l.getD (i1).toNat rw0).gS_l).getD (i2).toNat 0) then (((m.gZ_l.getD (i1).toNat rw0).gS_l).getD (i2 + 1).toNat 0) else (((m.gZ_l.getD (i1).toNat rw0).gS_l).getD (i2).toNat 0)) then (((m.gZ_l.getD (i1 + 1).toNat rw0).gS_l).getD (i2).toNat 0) else (if (((m.gZ_l.getD (i1).toNat rw0).gS_l).getD (i2 + 1).toNat 0) > (((m.gZ_l.getD (i1).toNat rw0).gS_l).getD (i2).toNat 0) then (((m.gZ_l.getD (i1).toNat rw0).gS_l).getD (i2 + 1).toNat 0) else (((m.gZ_l.getD (i1).toNat rw0).gS_l).getD (i2).toNat 0))))) (by kernel_rfl)) ?_
              refine SL.head (.int .i64 (max (if (((m.gZ_l.getD (i1 + 1).toNat rw0).gS_l).getD (i2).toNat 0) > (if (((m.gZ_l.getD (i1).toNat rw0).gS_l).getD (i2 + 1).toNat 0) > (((m.gZ_l.getD (i1).toNat rw0).gS_l).getD (i2).toNat 0) then (((m.gZ_l.getD (i1).toNat rw0).gS_l).getD (i2 + 1).toNat 0) else (((m.gZ_l.getD (i1).toNat rw0).gS_l).getD (i2).toNat 0)) then (((m.gZ_l.getD (i1 + 1).toNat rw0).gS_l).getD (i2).toNat 0) else (if (((m.gZ_l.getD (i1).toNat rw0).gS_l).getD (i2 + 1).toNat 0) > (((m.gZ_l.getD (i1).toNat rw0).gS_l).getD (i2).toNat 0) then (((m.gZ_l.getD (i1).toNat rw0).gS_l).getD (i2 + 1).toNat 0) else (((m.gZ_l.getD (i1).toNat rw0).gS_l).getD (i2).toNat 0))) (((m.gZ_l.getD (i1 + 1).toNat rw0).gS_l).getD (i2 + 1).toNat 0))) (congrArg (Value.int .i64) (by omega)) ?_
              refine SL.ok (by decide) (OK.run 22 (.int .i64 (max (if (((m.gZ_l.getD (i1 + 1).toNat rw0).gS_l).getD (i2).toNat 0) > (if (((m.gZ_l.getD (i1).toNat rw0).gS_l).getD (i2 + 1).toNat 0) > (((m.gZ_l.getD (i1).toNat rw0).gS_l).getD (i2).toNat 0) then (((m.gZ_l.getD (i1).toNat rw0).gS_l).getD (i2 + 1).toNat 0) else (((m.gZ_l.getD (i1).toNat rw0).gS_l).getD (i2).toNat 0)) then (((m.gZ_l.getD (i1 + 1).toNat rw0).gS_l).getD (i2).toNat 0) else (if (((m.gZ_l.getD (i1).toNat rw0).gS_l).getD (i2 + 1).toNat 0) > (((m.gZ_l.getD (i1).toNat rw0).gS_l).getD (i2).toNat 0) then (((m.gZ_l.getD (i1).toNat rw0).gS_l).getD (i2 + 1).toNat 0) else (((m.gZ_l.getD (i1).toNat rw0).gS_l).getD (i2).toNat 0))) (((m.gZ_l.getD (i1 + 1).toNat rw0).gS_l).getD (i2 + 1).toNat 0))) (by kernel_rfl)) ?_
              refine SL.done ?_
              refine TL.done (by kernel_rfl) ?_
              refine J.run 0 (rRest K9_20) [(22, .int .i64 (max (if (((m.gZ_l.getD (i1 + 1).toNat rw0).gS_l).getD (i2).toNat 0) > (if (((m.gZ_l.getD (i1).toNat rw0).gS_l).getD (i2 + 1).toNat 0) > (((m.gZ_l.getD (i1).toNat rw0).gS_l).getD (i2).toNat 0) then (((m.gZ_l.getD (i1).toNat rw0).gS_l).getD (i2 + 1).toNat 0) else (((m.gZ_l.getD (i1).toNat rw0).gS_l).getD (i2).toNat 0)) then (((m.gZ_l.getD (i1 + 1).toNat rw0).gS_l).getD (i2).toNat 0) else (if (((m.gZ_l.getD (i1).toNat rw0).gS_l).getD (i2 + 1).toNat 0) > (((m.gZ_l.getD (i1).toNat rw0).gS_l).getD (i2).toNat 0) then (((m.gZ_l.getD (i1).toNat rw0).gS_l).getD (i2 + 1).toNat 0) else (((m.gZ_l.getD (i1).toNat rw0).gS_l).getD (i2).toNat 0))) (((m.gZ_l.getD (i1 + 1).toNat rw0).gS_l).getD (i2 + 1).toNat 0))), (21, .int .i64 (min (if (((m.gZ_l.getD (i1 + 1).toNat rw0).gS_l).getD (i2).toNat 0) < (if (((m.gZ_l.getD (i1).toNat rw0).gS_l).getD (i2 + 1).toNat 0) < (((m.gZ_l.getD (i1).toNat rw0).gS_l).getD (i2).toNat 0) then (((m.gZ_l.getD (i1).toNat rw0).gS_l).getD (i2 + 1).toNat 0) else (((m.gZ_l.getD (i1).toNat rw0).gS_l).getD (i2).toNat 0)) then (((m.gZ_l.getD (i1 + 1).toNat rw0).gS_l).getD (i2).toNat 0) else (if (((m.gZ_l.getD (i1).toNat rw0).gS_l).getD (i2 + 1).toNat 0) < (((m.gZ_l.getD (i1).toNat rw0).gS_l).getD (i2).toNat 0) then (((m.gZ_l.getD (i1).toNat rw0).gS_l).getD (i2 + 1).toNat 0) else (((m.gZ_l.getD (i1).toNat rw0).gS_l).getD (i2).toNat 0))) (((m.gZ_l.getD (i1 + 1).toNat rw0).gS_l).getD (i2 + 1).toNat 0))), (15, .int .i64 (atF m x y)), (7, .pointer (some ⟨b1, 0, none⟩)), (1, .int .i64 x), (2, .int .i64 y), (3, .int .u16 le), (4, .int .u16 ri), (5, .int .u16 dn), (6, .int .u16 up)] w9 (by kernel_rfl) ?_
              refine J.run 2 K9_21 [(22, .int .i64 (max (if (((m.gZ_l.getD (i1 + 1).toNat rw0).gS_l).getD (i2).toNat 0) > (if (((m.gZ_l.getD (i1).toNat rw0).gS_l).getD (i2 + 1).toNat 0) > (((m.gZ_l.getD (i1).toNat rw0).gS_l).getD (i2).toNat 0) then (((m.gZ_l.getD (i1).toNat rw0).gS_l).getD (i2 + 1).toNat 0) else (((m.gZ_l.getD (i1).toNat rw0).gS_l).getD (i2).toNat 0)) then (((m.gZ_l.getD (i1 + 1).toNat rw0).gS_l).getD (i2).toNat 0) else (if (((m.gZ_l.getD (i1).toNat rw0).gS_l).getD (i2 + 1).toNat 0) > (((m.gZ_l.getD (i1).toNat rw0).gS_l).getD (i2).toNat 0) then (((m.gZ_l.getD (i1).toNat rw0).gS_l).getD (i2 + 1).toNat 0) else (((m.gZ_l.getD (i1).toNat rw0).gS_l).getD (i2).toNat 0))) (((m.gZ_l.getD (i1 + 1).toNat rw0).gS_l).getD (i2 + 1).toNat 0))), (21, .int .i64 (min (if (((m.gZ_l.getD (i1 + 1).toNat rw0).gS_l).getD (i2).toNat 0) < (if (((m.gZ_l.getD (i1).toNat rw0).gS_l).getD (i2 + 1).toNat 0) < (((m.gZ_l.getD (i1).toNat rw0).gS_l).getD (i2).toNat 0) then (((m.gZ_l.getD (i1).toNat rw0).gS_l).getD (i2 + 1).toNat 0) else (((m.gZ_l.getD (i1).toNat rw0).gS_l).getD (i2).toNat 0)) then (((m.gZ_l.getD (i1 + 1).toNat rw0).gS_l).getD (i2).toNat 0) else (if (((m.gZ_l.getD (i1).toNat rw0).gS_l).getD (i2 + 1).toNat 0) < (((m.gZ_l.getD (i1).toNat rw0).gS_l).getD (i2).toNat 0) then (((m.gZ_l.getD (i1).toNat rw0).gS_l).getD (i2 + 1).toNat 0) else (((m.gZ_l.getD (i1).toNat rw0).gS_l).getD (i2).toNat 0))) (((m.gZ_l.getD (i1 + 1).toNat rw0).gS_l).getD (i2 + 1).toNat 0))), (15, .int .i64 (atF m x y)), (7, .pointer (some ⟨b1, 0, none⟩)), (1, .int .i64 x), (2, .int .i64 y), (3, .int .u16 le), (4, .int .u16 ri), (5, .int .u16 dn), (6, .int .u16 up)] w9 (by kernel_rfl) ?_
              refine J.ok (OK.ldBox S9 0 138 25 0 (.agg #[.slice m.gX_a m.gX_n m.gX_c, .slice m.gY_a m.gY_n m.gY_c, .slice m.gZ_a m.gZ_n m.gZ_c]) (by kernel_rfl) rfl (by kernel_rfl)) ?_
              refine J.run 3 K9_22 [(141, .int .i64 (IntKind.wrap .i64 le)), (139, .int .i64 x), (138, .agg #[.slice m.gX_a m.gX_n m.gX_c, .slice m.gY_a m.gY_n m.gY_c, .slice m.gZ_a m.gZ_n m.gZ_c]), (22, .int .i64 (max (if (((m.gZ_l.getD (i1 + 1).toNat rw0).gS_l).getD (i2).toNat 0) > (if (((m.gZ_l.getD (i1).toNat rw0).gS_l).getD (i2 + 1).toNat 0) > (((m.gZ_l.getD (i1).toNat rw0).gS_l).getD (i2).toNat 0) then (((m.gZ_l.getD (i1).toNat rw0).gS_l).getD (i2 + 1).toNat 0) else (((m.gZ_l.getD (i1).toNat rw0).gS_l).getD (i2).toNat 0)) then (((m.gZ_l.getD (i1 + 1).toNat rw0).gS_l).getD (i2).toNat 0) else (if (((m.gZ_l.getD (i1).toNat rw0).gS_l).getD (i2 + 1).toNat 0) > (((m.gZ_l.getD (i1).toNat rw0).gS_l).getD (i2).toNat 0) then (((m.gZ_l.getD (i1).toNat rw0).gS_l).getD (i2 + 1).toNat 0) else (((m.gZ_l.getD (i1).toNat rw0).gS_l).getD (i2).toNat 0))) (((m.gZ_l.getD (i1 + 1).toNat rw0).gS_l).getD (i2 + 1).toNat 0))), (21, .int .i64 (min (if (((m.gZ_l.getD (i1 + 1).toNat rw0).gS_l).getD (i2).toNat 0) < (if (((m.gZ_l.getD (i1).toNat rw0).gS_l).getD (i2 + 1).toNat 0) < (((m.gZ_l.getD (i1).toNat rw0).gS_l).getD (i2).toNat 0) then (((m.gZ_l.getD (i1).toNat rw0).gS_l).getD (i2 + 1).toNat 0) else (((m.gZ_l.getD (i1).toNat rw0).gS_l).getD (i2).toNat 0)) then (((m.gZ_l.getD (i1 + 1).toNat rw0).gS_l).getD (i2).toNat 0) else (if (((m.gZ_l.getD (i1).toNat rw0).gS_l).getD (i2 + 1).toNat 0) < (((m.gZ_l.getD (i1).toNat rw0).gS_l).getD (i2).toNat 0) then (((m.gZ_l.getD (i1).toNat rw0).gS_l).getD (i2 + 1).toNat 0) else (((m.gZ_l.getD (i1).toNat rw0).gS_l).getD (i2).toNat 0))) (((m.gZ_l.getD (i1 + 1).toNat rw0).gS_l).getD (i2 + 1).toNat 0))), (15, .int .i64 (atF m x y)), (1, .int .i64 x), (2, .int .i64 y), (4, .int .u16 ri), (5, .int .u16 dn), (6, .int .u16 up)] w9 (by kernel_rfl) ?_
              refine J.head (.int .i64 le) (congrArg (Value.int .i64) (IntWalk.i64_in _ (by omega))) ?_
              refine J.run 1 K9_23 [(142, .int .i64 (IntKind.wrap .i64 (x - le))), (138, .agg #[.slice m.gX_a m.gX_n m.gX_c, .slice m.gY_a m.gY_n m.gY_c, .slice m.gZ_a m.gZ_n m.gZ_c]), (22, .int .i64 (max (if (((m.gZ_l.getD (i1 + 1).toNat rw0).gS_l).getD (i2).toNat 0) > (if (((m.gZ_l.getD (i1).toNat rw0).gS_l).getD (i2 + 1).toNat 0) > (((m.gZ_l.getD (i1).toNat rw0).gS_l).getD (i2).toNat 0) then (((m.gZ_l.getD (i1).toNat rw0).gS_l).getD (i2 + 1).toNat 0) else (((m.gZ_l.getD (i1).toNat rw0).gS_l).getD (i2).toNat 0)) then (((m.gZ_l.getD (i1 + 1).toNat rw0).gS_l).getD (i2).toNat 0) else (if (((m.gZ_l.getD (i1).toNat rw0).gS_l).getD (i2 + 1).toNat 0) > (((m.gZ_l.getD (i1).toNat rw0).gS_l).getD (i2).toNat 0) then (((m.gZ_l.getD (i1).toNat rw0).gS_l).getD (i2 + 1).toNat 0) else (((m.gZ_l.getD (i1).toNat rw0).gS_l).getD (i2).toNat 0))) (((m.gZ_l.getD (i1 + 1).toNat rw0).gS_l).getD (i2 + 1).toNat 0))), (21, .int .i64 (min (if (((m.gZ_l.getD (i1 + 1).toNat rw0).gS_l).getD (i2).toNat 0) < (if (((m.gZ_l.getD (i1).toNat rw0).gS_l).getD (i2 + 1).toNat 0) < (((m.gZ_l.getD (i1).toNat rw0).gS_l).getD (i2).toNat 0) then (((m.gZ_l.getD (i1).toNat rw0).gS_l).getD (i2 + 1).toNat 0) else (((m.gZ_l.getD (i1).toNat rw0).gS_l).getD (i2).toNat 0)) then (((m.gZ_l.getD (i1 + 1).toNat rw0).gS_l).getD (i2).toNat 0) else (if (((m.gZ_l.getD (i1).toNat rw0).gS_l).getD (i2 + 1).toNat 0) < (((m.gZ_l.getD (i1).toNat rw0).gS_l).getD (i2).toNat 0) then (((m.gZ_l.getD (i1).toNat rw0).gS_l).getD (i2 + 1).toNat 0) else (((m.gZ_l.getD (i1).toNat rw0).gS_l).getD (i2).toNat 0))) (((m.gZ_l.getD (i1 + 1).toNat rw0).gS_l).getD (i2 + 1).toNat 0))), (15, .int .i64 (atF m x y)), (1, .int .i64 x), (2, .int .i64 y), (4, .int .u16 ri), (5, .int .u16 dn), (6, .int .u16 up)] w9 (by kernel_rfl) ?_
              refine J.head (.int .i64 (x - le)) (congrArg (Value.int .i64) (IntWalk.i64_in _ (by omega))) ?_
              refine J.run 3 K9_24 [(145, .int .i64 (IntKind.wrap .i64 ri)), (143, .int .i64 x), (142, .int .i64 (x - le)), (138, .agg #[.slice m.gX_a m.gX_n m.gX_c, .slice m.gY_a m.gY_n m.gY_c, .slice m.gZ_a m.gZ_n m.gZ_c]), (22, .int .i64 (max (if (((m.gZ_l.getD (i1 + 1).toNat rw0).gS_l).getD (i2).toNat 0) > (if (((m.gZ_l.getD (i1).toNat rw0).gS_l).getD (i2 + 1).toNat 0) > (((m.gZ_l.getD (i1).toNat rw0).gS_l).getD (i2).toNat 0) then (((m.gZ_l.getD (i1).toNat rw0).gS_l).getD (i2 + 1).toNat 0) else (((m.gZ_l.getD (i1).toNat rw0).gS_l).getD (i2).toNat 0)) then (((m.gZ_l.getD (i1 + 1).toNat rw0).gS_l).getD (i2).toNat 0) else (if (((m.gZ_l.getD (i1).toNat rw0).gS_l).getD (i2 + 1).toNat 0) > (((m.gZ_l.getD (i1).toNat rw0).gS_l).getD (i2).toNat 0) then (((m.gZ_l.getD (i1).toNat rw0).gS_l).getD (i2 + 1).toNat 0) else (((m.gZ_l.getD (i1).toNat rw0).gS_l).getD (i2).toNat 0))) (((m.gZ_l.getD (i1 + 1).toNat rw0).gS_l).getD (i2 + 1).toNat 0))), (21, .int .i64 (min (if (((m.gZ_l.getD (i1 + 1).toNat rw0).gS_l).getD (i2).toNat 0) < (if (((m.gZ_l.getD (i1).toNat rw0).gS_l).getD (i2 + 1).toNat 0) < (((m.gZ_l.getD (i1).toNat rw0).gS_l).getD (i2).toNat 0) then (((m.gZ_l.getD (i1).toNat rw0).gS_l).getD (i2 + 1).toNat 0) else (((m.gZ_l.getD (i1).toNat rw0).gS_l).getD (i2).toNat 0)) then (((m.gZ_l.getD (i1 + 1).toNat rw0).gS_l).getD (i2).toNat 0) else (if (((m.gZ_l.getD (i1).toNat rw0).gS_l).getD (i2 + 1).toNat 0) < (((m.gZ_l.getD (i1).toNat rw0).gS_l).getD (i2).toNat 0) then (((m.gZ_l.getD (i1).toNat rw0).gS_l).getD (i2 + 1).toNat 0) else (((m.gZ_l.getD (i1).toNat rw0).gS_l).getD (i2).toNat 0))) (((m.gZ_l.getD (i1 + 1).toNat rw0).gS_l).getD (i2 + 1).toNat 0))), (15, .int .i64 (atF m x y)), (2, .int .i64 y), (5, .int .u16 dn), (6, .int .u16 up)] w9 (by kernel_rfl) ?_
              refine J.head (.int .i64 ri) (congrArg (Value.int .i64) (IntWalk.i64_in _ (by omega))) ?_
              refine J.run 1 K9_25 [(146, .int .i64 (IntKind.wrap .i64 (x + ri))), (142, .int .i64 (x - le)), (138, .agg #[.slice m.gX_a m.gX_n m.gX_c, .slice m.gY_a m.gY_n m.gY_c, .slice m.gZ_a m.gZ_n m.gZ_c]), (22, .int .i64 (max (if (((m.gZ_l.getD (i1 + 1).toNat rw0).gS_l).getD (i2).toNat 0) > (if (((m.gZ_l.getD (i1).toNat rw0).gS_l).getD (i2 + 1).toNat 0) > (((m.gZ_l.getD (i1).toNat rw0).gS_l).getD (i2).toNat 0) then (((m.gZ_l.getD (i1).toNat rw0).gS_l).getD (i2 + 1).toNat 0) else (((m.gZ_l.getD (i1).toNat rw0).gS_l).getD (i2).toNat 0)) then (((m.gZ_l.getD (i1 + 1).toNat rw0).gS_l).getD (i2).toNat 0) else (if (((m.gZ_l.getD (i1).toNat rw0).gS_l).getD (i2 + 1).toNat 0) > (((m.gZ_l.getD (i1).toNat rw0).gS_l).getD (i2).toNat 0) then (((m.gZ_l.getD (i1).toNat rw0).gS_l).getD (i2 + 1).toNat 0) else (((m.gZ_l.getD (i1).toNat rw0).gS_l).getD (i2).toNat 0))) (((m.gZ_l.getD (i1 + 1).toNat rw0).gS_l).getD (i2 + 1).toNat 0))), (21, .int .i64 (min (if (((m.gZ_l.getD (i1 + 1).toNat rw0).gS_l).getD (i2).toNat 0) < (if (((m.gZ_l.getD (i1).toNat rw0).gS_l).getD (i2 + 1).toNat 0) < (((m.gZ_l.getD (i1).toNat rw0).gS_l).getD (i2).toNat 0) then (((m.gZ_l.getD (i1).toNat rw0).gS_l).getD (i2 + 1).toNat 0) else (((m.gZ_l.getD (i1).toNat rw0).gS_l).getD (i2).toNat 0)) then (((m.gZ_l.getD (i1 + 1).toNat rw0).gS_l).getD (i2).toNat 0) else (if (((m.gZ_l.getD (i1).toNat rw0).gS_l).getD (i2 + 1).toNat 0) < (((m.gZ_l.getD (i1).toNat rw0).gS_l).getD (i2).toNat 0) then (((m.gZ_l.getD (i1).toNat rw0).gS_l).getD (i2 + 1).toNat 0) else (((m.gZ_l.getD (i1).toNat rw0).gS_l).getD (i2).toNat 0))) (((m.gZ_l.getD (i1 + 1).toNat rw0).gS_l).getD (i2 + 1).toNat 0))), (15, .int .i64 (atF m x y)), (2, .int .i64 y), (5, .int .u16 dn), (6, .int .u16 up)] w9 (by kernel_rfl) ?_
              refine J.head (.int .i64 (x + ri)) (congrArg (Value.int .i64) (IntWalk.i64_in _ (by omega))) ?_
              refine J.run 4 K9_26 [(150, .int .i64 (IntKind.wrap .i64 dn)), (148, .int .i64 y), (147, .agg #[.int .i64 (x - le), .int .i64 (x + ri)]), (138, .agg #[.slice m.gX_a m.gX_n m.gX_c, .slice m.gY_a m.gY_n m.gY_c, .slice m.gZ_a m.gZ_n m.gZ_c]), (22, .int .i64 (max (if (((m.gZ_l.getD (i1 + 1).toNat rw0).gS_l).getD (i2).toNat 0) > (if (((m.gZ_l.getD (i1).toNat rw0).gS_l).getD (i2 + 1).toNat 0) > (((m.gZ_l.getD (i1).toNat rw0).gS_l).getD (i2).toNat 0) then (((m.gZ_l.getD (i1).toNat rw0).gS_l).getD (i2 + 1).toNat 0) else (((m.gZ_l.getD (i1).toNat rw0).gS_l).getD (i2).toNat 0)) then (((m.gZ_l.getD (i1 + 1).toNat rw0).gS_l).getD (i2).toNat 0) else (if (((m.gZ_l.getD (i1).toNat rw0).gS_l).getD (i2 + 1).toNat 0) > (((m.gZ_l.getD (i1).toNat rw0).gS_l).getD (i2).toNat 0) then (((m.gZ_l.getD (i1).toNat rw0).gS_l).getD (i2 + 1).toNat 0) else (((m.gZ_l.getD (i1).toNat rw0).gS_l).getD (i2).toNat 0))) (((m.gZ_l.getD (i1 + 1).toNat rw0).gS_l).getD (i2 + 1).toNat 0))), (21, .int .i64 (min (if (((m.gZ_l.getD (i1 + 1).toNat rw0).gS_l).getD (i2).toNat 0) < (if (((m.gZ_l.getD (i1).toNat rw0).gS_l).getD (i2 + 1).toNat 0) < (((m.gZ_l.getD (i1).toNat rw0).gS_l).getD (i2).toNat 0) then (((m.gZ_l.getD (i1).toNat rw0).gS_l).getD (i2 + 1).toNat 0) else (((m.gZ_l.getD (i1).toNat rw0).gS_l).getD (i2).toNat 0)) then (((m.gZ_l.getD (i1 + 1).toNat rw0).gS_l).getD (i2).toNat 0) else (if (((m.gZ_l.getD (i1).toNat rw0).gS_l).getD (i2 + 1).toNat 0) < (((m.gZ_l.getD (i1).toNat rw0).gS_l).getD (i2).toNat 0) then (((m.gZ_l.getD (i1).toNat rw0).gS_l).getD (i2 + 1).toNat 0) else (((m.gZ_l.getD (i1).toNat rw0).gS_l).getD (i2).toNat 0))) (((m.gZ_l.getD (i1 + 1).toNat rw0).gS_l).getD (i2 + 1).toNat 0))), (15, .int .i64 (atF m x y)), (2, .int .i64 y), (6, .int .u16 up)] w9 (by kernel_rfl) ?_
              refine J.head (.int .i64 dn) (congrArg (Value.int .i64) (IntWalk.i64_in _ (by omega))) ?_
              refine J.run 1 K9_27 [(151, .int .i64 (IntKind.wrap .i64 (y - dn))), (147, .agg #[.int .i64 (x - le), .int .i64 (x + ri)]), (138, .agg #[.slice m.gX_a m.gX_n m.gX_c, .slice m.gY_a m.gY_n m.gY_c, .slice m.gZ_a m.gZ_n m.gZ_c]), (22, .int .i64 (max (if (((m.gZ_l.getD (i1 + 1).toNat rw0).gS_l).getD (i2).toNat 0) > (if (((m.gZ_l.getD (i1).toNat rw0).gS_l).getD (i2 + 1).toNat 0) > (((m.gZ_l.getD (i1).toNat rw0).gS_l).getD (i2).toNat 0) then (((m.gZ_l.getD (i1).toNat rw0).gS_l).getD (i2 + 1).toNat 0) else (((m.gZ_l.getD (i1).toNat rw0).gS_l).getD (i2).toNat 0)) then (((m.gZ_l.getD (i1 + 1).toNat rw0).gS_l).getD (i2).toNat 0) else (if (((m.gZ_l.getD (i1).toNat rw0).gS_l).getD (i2 + 1).toNat 0) > (((m.gZ_l.getD (i1).toNat rw0).gS_l).getD (i2).toNat 0) then (((m.gZ_l.getD (i1).toNat rw0).gS_l).getD (i2 + 1).toNat 0) else (((m.gZ_l.getD (i1).toNat rw0).gS_l).getD (i2).toNat 0))) (((m.gZ_l.getD (i1 + 1).toNat rw0).gS_l).getD (i2 + 1).toNat 0))), (21, .int .i64 (min (if (((m.gZ_l.getD (i1 + 1).toNat rw0).gS_l).getD (i2).toNat 0) < (if (((m.gZ_l.getD (i1).toNat rw0).gS_l).getD (i2 + 1).toNat 0) < (((m.gZ_l.getD (i1).toNat rw0).gS_l).getD (i2).toNat 0) then (((m.gZ_l.getD (i1).toNat rw0).gS_l).getD (i2 + 1).toNat 0) else (((m.gZ_l.getD (i1).toNat rw0).gS_l).getD (i2).toNat 0)) then (((m.gZ_l.getD (i1 + 1).toNat rw0).gS_l).getD (i2).toNat 0) else (if (((m.gZ_l.getD (i1).toNat rw0).gS_l).getD (i2 + 1).toNat 0) < (((m.gZ_l.getD (i1).toNat rw0).gS_l).getD (i2).toNat 0) then (((m.gZ_l.getD (i1).toNat rw0).gS_l).getD (i2 + 1).toNat 0) else (((m.gZ_l.getD (i1).toNat rw0).gS_l).getD (i2).toNat 0))) (((m.gZ_l.getD (i1 + 1).toNat rw0).gS_l).getD (i2 + 1).toNat 0))), (15, .int .i64 (atF m x y)), (2, .int .i64 y), (6, .int .u16 up)] w9 (by kernel_rfl) ?_
              refine J.head (.int .i64 (y - dn)) (congrArg (Value.int .i64) (IntWalk.i64_in _ (by omega))) ?_
              refine J.run 3 K9_28 [(154, .int .i64 (IntKind.wrap .i64 up)), (152, .int .i64 y), (151, .int .i64 (y - dn)), (147, .agg #[.int .i64 (x - le), .int .i64 (x + ri)]), (138, .agg #[.slice m.gX_a m.gX_n m.gX_c, .slice m.gY_a m.gY_n m.gY_c, .slice m.gZ_a m.gZ_n m.gZ_c]), (22, .int .i64 (max (if (((m.gZ_l.getD (i1 + 1).toNat rw0).gS_l).getD (i2).toNat 0) > (if (((m.gZ_l.getD (i1).toNat rw0).gS_l).getD (i2 + 1).toNat 0) > (((m.gZ_l.getD (i1).toNat rw0).gS_l).getD (i2).toNat 0) then (((m.gZ_l.getD (i1).toNat rw0).gS_l).getD (i2 + 1).toNat 0) else (((m.gZ_l.getD (i1).toNat rw0).gS_l).getD (i2).toNat 0)) then (((m.gZ_l.getD (i1 + 1).toNat rw0).gS_l).getD (i2).toNat 0) else (if (((m.gZ_l.getD (i1).toNat rw0).gS_l).getD (i2 + 1).toNat 0) > (((m.gZ_l.getD (i1).toNat rw0).gS_l).getD (i2).toNat 0) then (((m.gZ_l.getD (i1).toNat rw0).gS_l).getD (i2 + 1).toNat 0) else (((m.gZ_l.getD (i1).toNat rw0).gS_l).getD (i2).toNat 0))) (((m.gZ_l.getD (i1 + 1).toNat rw0).gS_l).getD (i2 + 1).toNat 0))), (21, .int .i64 (min (if (((m.gZ_l.getD (i1 + 1).toNat rw0).gS_l).getD (i2).toNat 0) < (if (((m.gZ_l.getD (i1).toNat rw0).gS_l).getD (i2 + 1).toNat 0) < (((m.gZ_l.getD (i1).toNat rw0).gS_l).getD (i2).toNat 0) then (((m.gZ_l.getD (i1).toNat rw0).gS_l).getD (i2 + 1).toNat 0) else (((m.gZ_l.getD (i1).toNat rw0).gS_l).getD (i2).toNat 0)) then (((m.gZ_l.getD (i1 + 1).toNat rw0).gS_l).getD (i2).toNat 0) else (if (((m.gZ_l.getD (i1).toNat rw0).gS_l).getD (i2 + 1).toNat 0) < (((m.gZ_l.getD (i1).toNat rw0).gS_l).getD (i2).toNat 0) then (((m.gZ_l.getD (i1).toNat rw0).gS_l).getD (i2 + 1).toNat 0) else (((m.gZ_l.getD (i1).toNat rw0).gS_l).getD (i2).toNat 0))) (((m.gZ_l.getD (i1 + 1).toNat rw0).gS_l).getD (i2 + 1).toNat 0))), (15, .int .i64 (atF m x y))] w9 (by kernel_rfl) ?_
              refine J.head (.int .i64 up) (congrArg (Value.int .i64) (IntWalk.i64_in _ (by omega))) ?_
              refine J.run 1 K9_29 [(155, .int .i64 (IntKind.wrap .i64 (y + up))), (151, .int .i64 (y - dn)), (147, .agg #[.int .i64 (x - le), .int .i64 (x + ri)]), (138, .agg #[.slice m.gX_a m.gX_n m.gX_c, .slice m.gY_a m.gY_n m.gY_c, .slice m.gZ_a m.gZ_n m.gZ_c]), (22, .int .i64 (max (if (((m.gZ_l.getD (i1 + 1).toNat rw0).gS_l).getD (i2).toNat 0) > (if (((m.gZ_l.getD (i1).toNat rw0).gS_l).getD (i2 + 1).toNat 0) > (((m.gZ_l.getD (i1).toNat rw0).gS_l).getD (i2).toNat 0) then (((m.gZ_l.getD (i1).toNat rw0).gS_l).getD (i2 + 1).toNat 0) else (((m.gZ_l.getD (i1).toNat rw0).gS_l).getD (i2).toNat 0)) then (((m.gZ_l.getD (i1 + 1).toNat rw0).gS_l).getD (i2).toNat 0) else (if (((m.gZ_l.getD (i1).toNat rw0).gS_l).getD (i2 + 1).toNat 0) > (((m.gZ_l.getD (i1).toNat rw0).gS_l).getD (i2).toNat 0) then (((m.gZ_l.getD (i1).toNat rw0).gS_l).getD (i2 + 1).toNat 0) else (((m.gZ_l.getD (i1).toNat rw0).gS_l).getD (i2).toNat 0))) (((m.gZ_l.getD (i1 + 1).toNat rw0).gS_l).getD (i2 + 1).toNat 0))), (21, .int .i64 (min (if (((m.gZ_l.getD (i1 + 1).toNat rw0).gS_l).getD (i2).toNat 0) < (if (((m.gZ_l.getD (i1).toNat rw0).gS_l).getD (i2 + 1).toNat 0) < (((m.gZ_l.getD (i1).toNat rw0).gS_l).getD (i2).toNat 0) then (((m.gZ_l.getD (i1).toNat rw0).gS_l).getD (i2 + 1).toNat 0) else (((m.gZ_l.getD (i1).toNat rw0).gS_l).getD (i2).toNat 0)) then (((m.gZ_l.getD (i1 + 1).toNat rw0).gS_l).getD (i2).toNat 0) else (if (((m.gZ_l.getD (i1).toNat rw0).gS_l).getD (i2 + 1).toNat 0) < (((m.gZ_l.getD (i1).toNat rw0).gS_l).getD (i2).toNat 0) then (((m.gZ_l.getD (i1).toNat rw0).gS_l).getD (i2 + 1).toNat 0) else (((m.gZ_l.getD (i1).toNat rw0).gS_l).getD (i2).toNat 0))) (((m.gZ_l.getD (i1 + 1).toNat rw0).gS_l).getD (i2 + 1).toNat 0))), (15, .int .i64 (atF m x y))] w9 (by kernel_rfl) ?_
              refine J.head (.int .i64 (y + up)) (congrArg (Value.int .i64) (IntWalk.i64_in _ (by omega))) ?_
              refine J.run 1 K9_30 [(156, .agg #[.int .i64 (y - dn), .int .i64 (y + up)]), (147, .agg #[.int .i64 (x - le), .int .i64 (x + ri)]), (138, .agg #[.slice m.gX_a m.gX_n m.gX_c, .slice m.gY_a m.gY_n m.gY_c, .slice m.gZ_a m.gZ_n m.gZ_c]), (22, .int .i64 (max (if (((m.gZ_l.getD (i1 + 1).toNat rw0).gS_l).getD (i2).toNat 0) > (if (((m.gZ_l.getD (i1).toNat rw0).gS_l).getD (i2 + 1).toNat 0) > (((m.gZ_l.getD (i1).toNat rw0).gS_l).getD (i2).toNat 0) then (((m.gZ_l.getD (i1).toNat rw0).gS_l).getD (i2 + 1).toNat 0) else (((m.gZ_l.getD (i1).toNat rw0).gS_l).getD (i2).toNat 0)) then (((m.gZ_l.getD (i1 + 1).toNat rw0).gS_l).getD (i2).toNat 0) else (if (((m.gZ_l.getD (i1).toNat rw0).gS_l).getD (i2 + 1).toNat 0) > (((m.gZ_l.getD (i1).toNat rw0).gS_l).getD (i2).toNat 0) then (((m.gZ_l.getD (i1).toNat rw0).gS_l).getD (i2 + 1).toNat 0) else (((m.gZ_l.getD (i1).toNat rw0).gS_l).getD (i2).toNat 0))) (((m.gZ_l.getD (i1 + 1).toNat rw0).gS_l).getD (i2 + 1).toNat 0))), (21, .int .i64 (min (if (((m.gZ_l.getD (i1 + 1).toNat rw0).gS_l).getD (i2).toNat 0) < (if (((m.gZ_l.getD (i1).toNat rw0).gS_l).getD (i2 + 1).toNat 0) < (((m.gZ_l.getD (i1).toNat rw0).gS_l).getD (i2).toNat 0) then (((m.gZ_l.getD (i1).toNat rw0).gS_l).getD (i2 + 1).toNat 0) else (((m.gZ_l.getD (i1).toNat rw0).gS_l).getD (i2).toNat 0)) then (((m.gZ_l.getD (i1 + 1).toNat rw0).gS_l).getD (i2).toNat 0) else (if (((m.gZ_l.getD (i1).toNat rw0).gS_l).getD (i2 + 1).toNat 0) < (((m.gZ_l.getD (i1).toNat rw0).gS_l).getD (i2).toNat 0) then (((m.gZ_l.getD (i1).toNat rw0).gS_l).getD (i2 + 1).toNat 0) else (((m.gZ_l.getD (i1).toNat rw0).gS_l).getD (i2).toNat 0))) (((m.gZ_l.getD (i1 + 1).toNat rw0).gS_l).getD (i2 + 1).toNat 0))), (15, .int .i64 (atF m x y))] w9 (by kernel_rfl) ?_
              refine J.callF 157 26 #[.agg #[.slice m.gX_a m.gX_n m.gX_c, .slice m.gY_a m.gY_n m.gY_c, .slice m.gZ_a m.gZ_n m.gZ_c], .agg #[.int .i64 (x - le), .int .i64 (x + ri)], .agg #[.int .i64 (y - dn), .int .i64 (y + up)]] hb26 (by kernel_rfl) (over_any m (x - le) (x + ri) (y - dn) (y + up) _ (mpQ_sep hm S9)) ?_
              rintro _ w10 ⟨rfl, T7⟩
              have S10 : Sep w [box b1 [.slice m.gX_a m.gX_n m.gX_c, .slice m.gY_a m.gY_n m.gY_c, .slice m.gZ_a m.gZ_n m.gZ_c] 25] w10 := S9.trans T7
              clear T7 S9
              obtain ⟨e1, e2, e3⟩ := over_yes (m := m) (a := x - le) (b := x + ri) (c := y - dn) (d := y + up) hv (by omega) (by omega)
              have hvo := value_over hX hY vm (x := x) (y := y) (a := x - le) (b := x + ri) (c := y - dn) (d := y + up) (by omega) (by omega) (by omega) (by omega)
              unfold lowF at e2
              unfold highF at e3
              have hat := atF_valid hv x y
              refine J.run 3 K9_31 [(159, .int .i64 (overE m (x - le) (x + ri) (y - dn) (y + up))), (158, .agg #[.int .i64 (overL m (x - le) (x + ri) (y - dn) (y + up)), .int .i64 (overH m (x - le) (x + ri) (y - dn) (y + up))]), (22, .int .i64 (max (if (((m.gZ_l.getD (i1 + 1).toNat rw0).gS_l).getD (i2).toNat 0) > (if (((m.gZ_l.getD (i1).toNat rw0).gS_l).getD (i2 + 1).toNat 0) > (((m.gZ_l.getD (i1).toNat rw0).gS_l).getD (i2).toNat 0) then (((m.gZ_l.getD (i1).toNat rw0).gS_l).getD (i2 + 1).toNat 0) else (((m.gZ_l.getD (i1).toNat rw0).gS_l).getD (i2).toNat 0)) then (((m.gZ_l.getD (i1 + 1).toNat rw0).gS_l).getD (i2).toNat 0) else (if (((m.gZ_l.getD (i1).toNat rw0).gS_l).getD (i2 + 1).toNat 0) > (((m.gZ_l.getD (i1).toNat rw0).gS_l).getD (i2).toNat 0) then (((m.gZ_l.getD (i1).toNat rw0).gS_l).getD (i2 + 1).toNat 0) else (((m.gZ_l.getD (i1).toNat rw0).gS_l).getD (i2).toNat 0))) (((m.gZ_l.getD (i1 + 1).toNat rw0).gS_l).getD (i2 + 1).toNat 0))), (21, .int .i64 (min (if (((m.gZ_l.getD (i1 + 1).toNat rw0).gS_l).getD (i2).toNat 0) < (if (((m.gZ_l.getD (i1).toNat rw0).gS_l).getD (i2 + 1).toNat 0) < (((m.gZ_l.getD (i1).toNat rw0).gS_l).getD (i2).toNat 0) then (((m.gZ_l.getD (i1).toNat rw0).gS_l).getD (i2 + 1).toNat 0) else (((m.gZ_l.getD (i1).toNat rw0).gS_l).getD (i2).toNat 0)) then (((m.gZ_l.getD (i1 + 1).toNat rw0).gS_l).getD (i2).toNat 0) else (if (((m.gZ_l.getD (i1).toNat rw0).gS_l).getD (i2 + 1).toNat 0) < (((m.gZ_l.getD (i1).toNat rw0).gS_l).getD (i2).toNat 0) then (((m.gZ_l.getD (i1).toNat rw0).gS_l).getD (i2 + 1).toNat 0) else (((m.gZ_l.getD (i1).toNat rw0).gS_l).getD (i2).toNat 0))) (((m.gZ_l.getD (i1 + 1).toNat rw0).gS_l).getD (i2 + 1).toNat 0))), (15, .int .i64 (atF m x y))] w10 (by kernel_rfl) ?_
              refine J.new S10 23 [.int .i64 0, .int .i64 0] 47 (by kernel_rfl) ?_
              intro b2 w11 S11
              refine J.stBox S11 0 47 0 (.agg #[.int .i64 (overL m (x - le) (x + ri) (y - dn) (y + up)), .int .i64 (overH m (x - le) (x + ri) (y - dn) (y + up))]) [.int .i64 (overL m (x - le) (x + ri) (y - dn) (y + up)), .int .i64 (overH m (x - le) (x + ri) (y - dn) (y + up))] [box b2 [.int .i64 (overL m (x - le) (x + ri) (y - dn) (y + up)), .int .i64 (overH m (x - le) (x + ri) (y - dn) (y + up))] 47, box b1 [.slice m.gX_a m.gX_n m.gX_c, .slice m.gY_a m.gY_n m.gY_c, .slice m.gZ_a m.gZ_n m.gZ_c] 25] (by kernel_rfl) rfl (by kernel_rfl) (by kernel_rfl) rfl ?_
              intro w12 S12
              refine J.run 8 K9_32 [(163, .bool (decide ((atF m x y) ≥ (min (if (((m.gZ_l.getD (i1 + 1).toNat rw0).gS_l).getD (i2).toNat 0) < (if (((m.gZ_l.getD (i1).toNat rw0).gS_l).getD (i2 + 1).toNat 0) < (((m.gZ_l.getD (i1).toNat rw0).gS_l).getD (i2).toNat 0) then (((m.gZ_l.getD (i1).toNat rw0).gS_l).getD (i2 + 1).toNat 0) else (((m.gZ_l.getD (i1).toNat rw0).gS_l).getD (i2).toNat 0)) then (((m.gZ_l.getD (i1 + 1).toNat rw0).gS_l).getD (i2).toNat 0) else (if (((m.gZ_l.getD (i1).toNat rw0).gS_l).getD (i2 + 1).toNat 0) < (((m.gZ_l.getD (i1).toNat rw0).gS_l).getD (i2).toNat 0) then (((m.gZ_l.getD (i1).toNat rw0).gS_l).getD (i2 + 1).toNat 0) else (((m.gZ_l.getD (i1).toNat rw0).gS_l).getD (i2).toNat 0))) (((m.gZ_l.getD (i1 + 1).toNat rw0).gS_l).getD (i2 + 1).toNat 0))))), (24, .int .i64 (overE m (x - le) (x + ri) (y - dn) (y + up))), (23, .pointer (some ⟨b2, 0, none⟩)), (22, .int .i64 (max (if (((m.gZ_l.getD (i1 + 1).toNat rw0).gS_l).getD (i2).toNat 0) > (if (((m.gZ_l.getD (i1).toNat rw0).gS_l).getD (i2 + 1).toNat 0) > (((m.gZ_l.getD (i1).toNat rw0).gS_l).getD (i2).toNat 0) then (((m.gZ_l.getD (i1).toNat rw0).gS_l).getD (i2 + 1).toNat 0) else (((m.gZ_l.getD (i1).toNat rw0).gS_l).getD (i2).toNat 0)) then (((m.gZ_l.getD (i1 + 1).toNat rw0).gS_l).getD (i2).toNat 0) else (if (((m.gZ_l.getD (i1).toNat rw0).gS_l).getD (i2 + 1).toNat 0) > (((m.gZ_l.getD (i1).toNat rw0).gS_l).getD (i2).toNat 0) then (((m.gZ_l.getD (i1).toNat rw0).gS_l).getD (i2 + 1).toNat 0) else (((m.gZ_l.getD (i1).toNat rw0).gS_l).getD (i2).toNat 0))) (((m.gZ_l.getD (i1 + 1).toNat rw0).gS_l).getD (i2 + 1).toNat 0))), (15, .int .i64 (atF m x y))] w12 (by kernel_rfl) ?_
              have fk8 : (atF m x y) ≥ (min (if (((m.gZ_l.getD (i1 + 1).toNat rw0).gS_l).getD (i2).toNat 0) < (if (((m.gZ_l.getD (i1).toNat rw0).gS_l).getD (i2 + 1).toNat 0) < (((m.gZ_l.getD (i1).toNat rw0).gS_l).getD (i2).toNat 0) then (((m.gZ_l.getD (i1).toNat rw0).gS_l).getD (i2 + 1).toNat 0) else (((m.gZ_l.getD (i1).toNat rw0).gS_l).getD (i2).toNat 0)) then (((m.gZ_l.getD (i1 + 1).toNat rw0).gS_l).getD (i2).toNat 0) else (if (((m.gZ_l.getD (i1).toNat rw0).gS_l).getD (i2 + 1).toNat 0) < (((m.gZ_l.getD (i1).toNat rw0).gS_l).getD (i2).toNat 0) then (((m.gZ_l.getD (i1).toNat rw0).gS_l).getD (i2 + 1).toNat 0) else (((m.gZ_l.getD (i1).toNat rw0).gS_l).getD (i2).toNat 0))) (((m.gZ_l.getD (i1 + 1).toNat rw0).gS_l).getD (i2 + 1).toNat 0)) := by rw [atF_valid hv]; omega
              refine J.head (.bool true) (congrArg Value.bool (decide_eq_true fk8)) ?_
              refine J.run 5 K9_33 [(168, .bool (decide ((atF m x y) ≤ (max (if (((m.gZ_l.getD (i1 + 1).toNat rw0).gS_l).getD (i2).toNat 0) > (if (((m.gZ_l.getD (i1).toNat rw0).gS_l).getD (i2 + 1).toNat 0) > (((m.gZ_l.getD (i1).toNat rw0).gS_l).getD (i2).toNat 0) then (((m.gZ_l.getD (i1).toNat rw0).gS_l).getD (i2 + 1).toNat 0) else (((m.gZ_l.getD (i1).toNat rw0).gS_l).getD (i2).toNat 0)) then (((m.gZ_l.getD (i1 + 1).toNat rw0).gS_l).getD (i2).toNat 0) else (if (((m.gZ_l.getD (i1).toNat rw0).gS_l).getD (i2 + 1).toNat 0) > (((m.gZ_l.getD (i1).toNat rw0).gS_l).getD (i2).toNat 0) then (((m.gZ_l.getD (i1).toNat rw0).gS_l).getD (i2 + 1).toNat 0) else (((m.gZ_l.getD (i1).toNat rw0).gS_l).getD (i2).toNat 0))) (((m.gZ_l.getD (i1 + 1).toNat rw0).gS_l).getD (i2 + 1).toNat 0))))), (24, .int .i64 (overE m (x - le) (x + ri) (y - dn) (y + up))), (23, .pointer (some ⟨b2, 0, none⟩)), (15, .int .i64 (atF m x y))] w12 (by kernel_rfl) ?_
              have fk10 : (atF m x y) ≤ (max (if (((m.gZ_l.getD (i1 + 1).toNat rw0).gS_l).getD (i2).toNat 0) > (if (((m.gZ_l.getD (i1).toNat rw0).gS_l).getD (i2 + 1).toNat 0) > (((m.gZ_l.getD (i1).toNat rw0).gS_l).getD (i2).toNat 0) then (((m.gZ_l.getD (i1).toNat rw0).gS_l).getD (i2 + 1).toNat 0) else (((m.gZ_l.getD (i1).toNat rw0).gS_l).getD (i2).toNat 0)) then (((m.gZ_l.getD (i1 + 1).toNat rw0).gS_l).getD (i2).toNat 0) else (if (((m.gZ_l.getD (i1).toNat rw0).gS_l).getD (i2 + 1).toNat 0) > (((m.gZ_l.getD (i1).toNat rw0).gS_l).getD (i2).toNat 0) then (((m.gZ_l.getD (i1).toNat rw0).gS_l).getD (i2 + 1).toNat 0) else (((m.gZ_l.getD (i1).toNat rw0).gS_l).getD (i2).toNat 0))) (((m.gZ_l.getD (i1 + 1).toNat rw0).gS_l).getD (i2 + 1).toNat 0)) := by rw [atF_valid hv]; omega
              refine J.head (.bool true) (congrArg Value.bool (decide_eq_true fk10)) ?_
              refine J.run 4 K9_34 [(172, .bool ((overE m (x - le) (x + ri) (y - dn) (y + up)) == 0)), (23, .pointer (some ⟨b2, 0, none⟩)), (15, .int .i64 (atF m x y))] w12 (by kernel_rfl) ?_
              have fk12 : (overE m (x - le) (x + ri) (y - dn) (y + up)) = 0 := e1
              refine J.head (.bool true) (congrArg Value.bool (beq_iff_eq.2 fk12)) ?_
              refine J.run 1 K9_35 [(173, .pointer (some ⟨b2, 0, none⟩)), (172, .bool true), (23, .pointer (some ⟨b2, 0, none⟩)), (15, .int .i64 (atF m x y))] w12 (by kernel_rfl) ?_
              refine J.ok (OK.ldBox S12 0 174 3 0 (.int .i64 (overL m (x - le) (x + ri) (y - dn) (y + up))) (by kernel_rfl) rfl (by kernel_rfl)) ?_
              refine J.run 4 K9_36 [(178, .bool (decide ((overL m (x - le) (x + ri) (y - dn) (y + up)) ≤ (atF m x y)))), (23, .pointer (some ⟨b2, 0, none⟩)), (15, .int .i64 (atF m x y))] w12 (by kernel_rfl) ?_
              have fk14 : (overL m (x - le) (x + ri) (y - dn) (y + up)) ≤ (atF m x y) := by rw [atF_valid hv, e2]; omega
              refine J.head (.bool true) (congrArg Value.bool (decide_eq_true fk14)) ?_
              refine J.run 2 K9_37 [(180, .pointer (some ⟨b2, 1, none⟩)), (179, .int .i64 (atF m x y)), (178, .bool true)] w12 (by kernel_rfl) ?_
              refine J.ok (OK.ldBox S12 0 181 3 1 (.int .i64 (overH m (x - le) (x + ri) (y - dn) (y + up))) (by kernel_rfl) rfl (by kernel_rfl)) ?_
              refine J.run 4 K9_38 [(14, .bool (decide ((atF m x y) ≤ (overH m (x - le) (x + ri) (y - dn) (y + up)))))] w12 (by kernel_rfl) ?_
              refine J.ret Try.f9 [.bool (decide ((atF m x y) ≤ (overH m (x - le) (x + ri) (y - dn) (y + up))))] Try.func9 ⟨by kernel_rfl, trivial⟩ ?_
              refine hR _ _ ?_
              have fk15 : (atF m x y) ≤ (overH m (x - le) (x + ri) (y - dn) (y + up)) := by rw [atF_valid hv, e3]; omega
              exact ⟨congrArg Value.bool (decide_eq_true fk15), S12.nil⟩
    · skip
      refine J.head (.bool true) (congrArg Value.bool (by rw [fk2]; rfl)) ?_
      refine J.run 21 K9_39 [(14, .bool true)] w4 (by kernel_rfl) ?_
      refine J.ret Try.f9 [.bool true] Try.func9 ⟨by kernel_rfl, trivial⟩ ?_
      refine hR _ _ ?_
      exact ⟨rfl, S4.nil⟩
  · skip
    refine J.head (.bool true) (congrArg Value.bool (by rw [fk1]; rfl)) ?_
    refine J.run 26 K9_40 [(14, .bool true)] w3 (by kernel_rfl) ?_
    refine J.ret Try.f9 [.bool true] Try.func9 ⟨by kernel_rfl, trivial⟩ ?_
    refine hR _ _ ?_
    exact ⟨rfl, S3.nil⟩

end Go.Proofs.Ytempepmfifljmaa
