/- Walks of functions of this seat, printed by a program over the engine. Conditions: as each theorem says. -/
import Derived.Test.YtgedbbmdkggdcaaA6
namespace Go.Proofs.Ytgedbbmdkggdcaa
open Go.Eng Go.RowKit
set_option linter.unusedSimpArgs false
set_option linter.unusedVariables false
theorem hb4 : HasBody Try.prog 4 := fun _ _ => by kernel_rfl
noncomputable def K4_0 : List Item := adv 7 [] (bodyOf Try.f4)
noncomputable def K4_1 : List Item := adv 9 [false] (popK K4_0)
noncomputable def K4_2 : List Item := adv 3 [] (popK K4_1)
noncomputable def K4_3 : List Item := adv 10 [] (popK K4_2)
noncomputable def K4_4 : List Item := adv 5 [] K4_3
noncomputable def K4_5 : List Item := adv 13 [true] K4_4
noncomputable def K4_6 : List Item := adv 3 [] K4_4
noncomputable def K4_7 : List Item := adv 4 [] (popK K4_6)
noncomputable def K4_8 : List Item := adv 5 [false] K4_7
noncomputable def K4_9 : List Item := adv 1 [] (popK K4_8)
noncomputable def K4_10 : List Item := adv 10 [] (popK K4_9)
noncomputable def K4_11 : List Item := adv 5 [] K4_10
noncomputable def K4_12 : List Item := adv 13 [true] K4_11
noncomputable def K4_13 : List Item := adv 4 [] K4_11
noncomputable def K4_14 : List Item := adv 9 [true] K4_13
noncomputable def K4_15 : List Item := adv 4 [] K4_13
noncomputable def K4_16 : List Item := adv 5 [true] K4_15
noncomputable def K4_17 : List Item := adv 7 [false] K4_15
noncomputable def K4_18 : List Item := adv 21 [] K4_17
noncomputable def K4_19 : List Item := adv 3 [] K4_17
noncomputable def K4_20 : List Item := adv 3 [] K4_19
noncomputable def K4_21 : List Item := adv 3 [] K4_20
noncomputable def K4_22 : List Item := adv 12 [] K4_21
noncomputable def K4_23 : List Item := adv 2 [] K4_21
noncomputable def K4_24 : List Item := adv 2 [] K4_23
noncomputable def K4_25 : List Item := adv 1 [] K4_24
noncomputable def K4_26 : List Item := adv 7 [] K4_25
noncomputable def K4_27 : List Item := adv 15 [] K4_20
noncomputable def K4_28 : List Item := adv 5 [true] K4_7
noncomputable def K4_29 : List Item := adv 8 [] K4_3
noncomputable def K4_30 : List Item := adv 4 [] (popK K4_29)
noncomputable def K4_31 : List Item := adv 5 [false] K4_30
noncomputable def K4_32 : List Item := adv 1 [] (popK K4_31)
noncomputable def K4_33 : List Item := adv 10 [] (popK K4_32)
noncomputable def K4_34 : List Item := adv 9 [] K4_33
noncomputable def K4_35 : List Item := adv 9 [true] K4_34
noncomputable def K4_36 : List Item := adv 4 [] K4_34
noncomputable def K4_37 : List Item := adv 5 [true] K4_36
noncomputable def K4_38 : List Item := adv 7 [false] K4_36
noncomputable def K4_39 : List Item := adv 21 [] K4_38
noncomputable def K4_40 : List Item := adv 3 [] K4_38
noncomputable def K4_41 : List Item := adv 3 [] K4_40
noncomputable def K4_42 : List Item := adv 3 [] K4_41
noncomputable def K4_43 : List Item := adv 12 [] K4_42
noncomputable def K4_44 : List Item := adv 2 [] K4_42
noncomputable def K4_45 : List Item := adv 2 [] K4_44
noncomputable def K4_46 : List Item := adv 1 [] K4_45
noncomputable def K4_47 : List Item := adv 7 [] K4_46
noncomputable def K4_48 : List Item := adv 15 [] K4_41
noncomputable def K4_49 : List Item := adv 5 [true] K4_30
set_option maxRecDepth 20000 in
set_option maxHeartbeats 20000000 in
theorem order_any (x y bits : Int) (s : Bool) (w : World) (hx : (-9223372036854775808) ≤ x ∧ x ≤ 9223372036854775807) (hy : (-9223372036854775808) ≤ y ∧ y ≤ 9223372036854775807) (hbits : (-9223372036854775808) ≤ bits ∧ bits ≤ 9223372036854775807) : Ret Try.prog 4 #[.int .i64 x, .int .i64 y, .int .i64 bits, .bool s] w (fun v w' => v = .bool true ∧ Sep w [] w') := by
  have S0 := Sep.refl w
  refine Ret.named fun R hR => ?_
  refine Ret.of_J (N := 81) [(0, .int .i64 x), (1, .int .i64 y), (2, .int .i64 bits), (3, .bool s)] Try.func4 rfl rfl (Nat.le_of_ble_eq_true (by kernel_rfl)) (by kernel_rfl) ?_
  refine J.run 7 K4_0 [(0, .int .i64 x), (1, .int .i64 y), (2, .int .i64 bits), (3, .bool s)] w (by kernel_rfl) ?_
  refine J.callF 13 8 #[] hb8 (by kernel_rfl) (awake_any  _) ?_
  rintro _ w1 ⟨rfl, T1⟩
  have S1 : Sep w [] w1 := S0.trans T1
  clear T1
  refine J.run 9 K4_1 [(17, .bool s), (16, .int .i64 bits), (15, .int .i64 x), (0, .int .i64 x), (1, .int .i64 y), (2, .int .i64 bits), (3, .bool s)] w1 (by kernel_rfl) ?_
  refine J.callF 18 10 #[.int .i64 x, .int .i64 bits, .bool s] hb10 (by kernel_rfl) (sat_any x bits s _ (by omega)) ?_
  rintro _ w2 ⟨rfl, T2⟩
  have S2 : Sep w [] w2 := S1.trans T2
  clear T2 S1
  have := satF_bounds x bits s
  refine J.run 3 K4_2 [(21, .bool s), (20, .int .i64 bits), (19, .int .i64 y), (18, .int .i64 (satF x bits s)), (0, .int .i64 x), (1, .int .i64 y), (2, .int .i64 bits), (3, .bool s)] w2 (by kernel_rfl) ?_
  refine J.callF 22 10 #[.int .i64 y, .int .i64 bits, .bool s] hb10 (by kernel_rfl) (sat_any y bits s _ (by omega)) ?_
  rintro _ w3 ⟨rfl, T3⟩
  have S3 : Sep w [] w3 := S2.trans T3
  clear T3 S2
  have := satF_bounds y bits s
  refine J.run 10 K4_3 [(26, .bool (decide (x ≤ y))), (10, .int .i64 (satF y bits s)), (9, .int .i64 (satF x bits s)), (0, .int .i64 x), (1, .int .i64 y), (2, .int .i64 bits), (3, .bool s)] w3 (by kernel_rfl) ?_
  by_cases fk1 : x ≤ y
  · skip
    refine J.head (.bool true) (congrArg Value.bool (decide_eq_true fk1)) ?_
    refine J.run 5 K4_4 [(31, .bool (decide ((satF x bits s) > (satF y bits s)))), (9, .int .i64 (satF x bits s)), (0, .int .i64 x), (1, .int .i64 y), (2, .int .i64 bits), (3, .bool s)] w3 (by kernel_rfl) ?_
    by_cases fk2 : (satF x bits s) > (satF y bits s)
    · skip
      refine J.head (.bool true) (congrArg Value.bool (decide_eq_true fk2)) ?_
      refine J.run 13 K4_5 [(8, .bool false)] w3 (by kernel_rfl) ?_
      refine J.ret Try.f4 [.bool false] Try.func4 ⟨by kernel_rfl, trivial⟩ ?_
      refine hR _ _ ?_
      exfalso
      have hm1 : x ≤ y → satF x bits s ≤ satF y bits s := satF_mono bits s
      have hm2 := satF_idem x bits s
      have hm3 : x ≤ y → rootF x ≤ rootF y := rootF_mono
      have hm4 : 0 ≤ x → rootF x * rootF x ≤ x ∧ x < (rootF x + 1) * (rootF x + 1) := fun h => (rootF_spec h).2
      omega
    · skip
      refine J.head (.bool false) (congrArg Value.bool (decide_eq_false fk2)) ?_
      refine J.run 3 K4_6 [(34, .bool s), (33, .int .i64 bits), (32, .int .i64 (satF x bits s)), (31, .bool false), (9, .int .i64 (satF x bits s)), (0, .int .i64 x), (1, .int .i64 y)] w3 (by kernel_rfl) ?_
      refine J.callF 35 10 #[.int .i64 (satF x bits s), .int .i64 bits, .bool s] hb10 (by kernel_rfl) (sat_any (satF x bits s) bits s _ (by omega)) ?_
      rintro _ w4 ⟨rfl, T4⟩
      have S4 : Sep w [] w4 := S3.trans T4
      clear T4 S3
      have := satF_bounds (satF x bits s) bits s
      refine J.run 4 K4_7 [(38, .bool ((satF (satF x bits s) bits s) != (satF x bits s))), (0, .int .i64 x), (1, .int .i64 y)] w4 (by kernel_rfl) ?_
      by_cases fk3 : (satF (satF x bits s) bits s) = (satF x bits s)
      · skip
        refine J.head (.bool false) (congrArg Value.bool (bne_eq_false_iff_eq.2 fk3)) ?_
        refine J.run 5 K4_8 [(39, .int .i64 x), (0, .int .i64 x), (1, .int .i64 y)] w4 (by kernel_rfl) ?_
        refine J.callF 40 11 #[.int .i64 x] hb11 (by kernel_rfl) (root_any x _ (by omega)) ?_
        rintro _ w5 ⟨rfl, T5⟩
        have S5 : Sep w [] w5 := S4.trans T5
        clear T5 S4
        have := rootF_bounds (n := x) (by omega)
        refine J.run 1 K4_9 [(41, .int .i64 y), (40, .int .i64 (rootF x)), (0, .int .i64 x), (1, .int .i64 y)] w5 (by kernel_rfl) ?_
        refine J.callF 42 11 #[.int .i64 y] hb11 (by kernel_rfl) (root_any y _ (by omega)) ?_
        rintro _ w6 ⟨rfl, T6⟩
        have S6 : Sep w [] w6 := S5.trans T6
        clear T6 S5
        have := rootF_bounds (n := y) (by omega)
        refine J.run 10 K4_10 [(46, .bool (decide (x ≤ y))), (12, .int .i64 (rootF y)), (11, .int .i64 (rootF x)), (0, .int .i64 x)] w6 (by kernel_rfl) ?_
        refine J.head (.bool true) (congrArg Value.bool (decide_eq_true fk1)) ?_
        refine J.run 5 K4_11 [(51, .bool (decide ((rootF x) > (rootF y)))), (11, .int .i64 (rootF x)), (0, .int .i64 x)] w6 (by kernel_rfl) ?_
        by_cases fk5 : (rootF x) > (rootF y)
        · skip
          refine J.head (.bool true) (congrArg Value.bool (decide_eq_true fk5)) ?_
          refine J.run 13 K4_12 [(8, .bool false)] w6 (by kernel_rfl) ?_
          refine J.ret Try.f4 [.bool false] Try.func4 ⟨by kernel_rfl, trivial⟩ ?_
          refine hR _ _ ?_
          exfalso
          have hm1 : x ≤ y → satF x bits s ≤ satF y bits s := satF_mono bits s
          have hm2 := satF_idem x bits s
          have hm3 : x ≤ y → rootF x ≤ rootF y := rootF_mono
          have hm4 : 0 ≤ x → rootF x * rootF x ≤ x ∧ x < (rootF x + 1) * (rootF x + 1) := fun h => (rootF_spec h).2
          omega
        · skip
          refine J.head (.bool false) (congrArg Value.bool (decide_eq_false fk5)) ?_
          refine J.run 4 K4_13 [(55, .bool (decide ((rootF x) < 0))), (11, .int .i64 (rootF x)), (0, .int .i64 x)] w6 (by kernel_rfl) ?_
          by_cases fk6 : (rootF x) < 0
          · skip
            refine J.head (.bool true) (congrArg Value.bool (decide_eq_true fk6)) ?_
            refine J.run 9 K4_14 [(8, .bool false)] w6 (by kernel_rfl) ?_
            refine J.ret Try.f4 [.bool false] Try.func4 ⟨by kernel_rfl, trivial⟩ ?_
            refine hR _ _ ?_
            exfalso
            have hm1 : x ≤ y → satF x bits s ≤ satF y bits s := satF_mono bits s
            have hm2 := satF_idem x bits s
            have hm3 : x ≤ y → rootF x ≤ rootF y := rootF_mono
            have hm4 : 0 ≤ x → rootF x * rootF x ≤ x ∧ x < (rootF x + 1) * (rootF x + 1) := fun h => (rootF_spec h).2
            omega
          · skip
            refine J.head (.bool false) (congrArg Value.bool (decide_eq_false fk6)) ?_
            refine J.run 4 K4_15 [(58, .bool (decide ((rootF x) > 3037000499))), (11, .int .i64 (rootF x)), (0, .int .i64 x)] w6 (by kernel_rfl) ?_
            by_cases fk7 : (rootF x) > 3037000499
            · skip
              refine J.head (.bool true) (congrArg Value.bool (decide_eq_true fk7)) ?_
              refine J.run 5 K4_16 [(8, .bool false)] w6 (by kernel_rfl) ?_
              refine J.ret Try.f4 [.bool false] Try.func4 ⟨by kernel_rfl, trivial⟩ ?_
              refine hR _ _ ?_
              exfalso
              have hm1 : x ≤ y → satF x bits s ≤ satF y bits s := satF_mono bits s
              have hm2 := satF_idem x bits s
              have hm3 : x ≤ y → rootF x ≤ rootF y := rootF_mono
              have hm4 : 0 ≤ x → rootF x * rootF x ≤ x ∧ x < (rootF x + 1) * (rootF x + 1) := fun h => (rootF_spec h).2
              omega
            · skip
              refine J.head (.bool false) (congrArg Value.bool (decide_eq_false fk7)) ?_
              refine J.run 7 K4_17 [(61, .bool (decide (x < 0))), (11, .int .i64 (rootF x)), (0, .int .i64 x)] w6 (by kernel_rfl) ?_
              by_cases fk8 : x < 0
              · skip
                refine J.head (.bool true) (congrArg Value.bool (decide_eq_true fk8)) ?_
                refine J.run 21 K4_18 [(8, .bool true)] w6 (by kernel_rfl) ?_
                refine J.ret Try.f4 [.bool true] Try.func4 ⟨by kernel_rfl, trivial⟩ ?_
                refine hR _ _ ?_
                exact ⟨rfl, S6.nil⟩
              · skip
                refine J.head (.bool false) (congrArg Value.bool (decide_eq_false fk8)) ?_
                have := sq_b (m := rootF x) (by omega)
                refine J.run 3 K4_19 [(64, .int .i64 (IntKind.wrap .i64 ((rootF x) * (rootF x)))), (61, .bool false), (11, .int .i64 (rootF x)), (0, .int .i64 x)] w6 (by kernel_rfl) ?_
                refine J.head (.int .i64 ((rootF x) * (rootF x))) (congrArg (Value.int .i64) (IntWalk.i64_in _ (by omega))) ?_
                refine J.run 3 K4_20 [(67, .bool (decide (((rootF x) * (rootF x)) ≤ x))), (61, .bool false), (11, .int .i64 (rootF x)), (0, .int .i64 x)] w6 (by kernel_rfl) ?_
                by_cases fk9 : ((rootF x) * (rootF x)) ≤ x
                · skip
                  refine J.head (.bool true) (congrArg Value.bool (decide_eq_true fk9)) ?_
                  refine J.run 3 K4_21 [(70, .bool ((rootF x) == 3037000499)), (67, .bool true), (61, .bool false), (11, .int .i64 (rootF x)), (0, .int .i64 x)] w6 (by kernel_rfl) ?_
                  by_cases fk10 : (rootF x) = 3037000499
                  · skip
                    refine J.head (.bool true) (congrArg Value.bool (beq_iff_eq.2 fk10)) ?_
                    refine J.run 12 K4_22 [(8, .bool true)] w6 (by kernel_rfl) ?_
                    refine J.ret Try.f4 [.bool true] Try.func4 ⟨by kernel_rfl, trivial⟩ ?_
                    refine hR _ _ ?_
                    exact ⟨rfl, S6.nil⟩
                  · skip
                    refine J.head (.bool false) (congrArg Value.bool (beq_eq_false_iff_ne.2 fk10)) ?_
                    refine J.run 2 K4_23 [(72, .int .i64 (IntKind.wrap .i64 ((rootF x) + 1))), (70, .bool false), (67, .bool true), (61, .bool false), (11, .int .i64 (rootF x)), (0, .int .i64 x)] w6 (by kernel_rfl) ?_
                    refine J.head (.int .i64 ((rootF x) + 1)) (congrArg (Value.int .i64) (IntWalk.i64_in _ (by omega))) ?_
                    refine J.run 2 K4_24 [(74, .int .i64 (IntKind.wrap .i64 ((rootF x) + 1))), (72, .int .i64 ((rootF x) + 1)), (70, .bool false), (67, .bool true), (61, .bool false), (0, .int .i64 x)] w6 (by kernel_rfl) ?_
                    refine J.head (.int .i64 ((rootF x) + 1)) (congrArg (Value.int .i64) (IntWalk.i64_in _ (by omega))) ?_
                    have := sq_b (m := (rootF x) + 1) (by omega)
                    refine J.run 1 K4_25 [(75, .int .i64 (IntKind.wrap .i64 (((rootF x) + 1) * ((rootF x) + 1)))), (70, .bool false), (67, .bool true), (61, .bool false), (0, .int .i64 x)] w6 (by kernel_rfl) ?_
                    refine J.head (.int .i64 (((rootF x) + 1) * ((rootF x) + 1))) (congrArg (Value.int .i64) (IntWalk.i64_in _ (by omega))) ?_
                    refine J.run 7 K4_26 [(8, .bool (decide ((((rootF x) + 1) * ((rootF x) + 1)) > x)))] w6 (by kernel_rfl) ?_
                    refine J.ret Try.f4 [.bool (decide ((((rootF x) + 1) * ((rootF x) + 1)) > x))] Try.func4 ⟨by kernel_rfl, trivial⟩ ?_
                    refine hR _ _ ?_
                    exact ⟨congrArg Value.bool ((decide_eq_true (by have hm1 : x ≤ y → satF x bits s ≤ satF y bits s := satF_mono bits s; have hm2 := satF_idem x bits s; have hm3 : x ≤ y → rootF x ≤ rootF y := rootF_mono; have hm4 : 0 ≤ x → rootF x * rootF x ≤ x ∧ x < (rootF x + 1) * (rootF x + 1) := fun h => (rootF_spec h).2; omega))), S6.nil⟩
                · skip
                  refine J.head (.bool false) (congrArg Value.bool (decide_eq_false fk9)) ?_
                  refine J.run 15 K4_27 [(8, .bool false)] w6 (by kernel_rfl) ?_
                  refine J.ret Try.f4 [.bool false] Try.func4 ⟨by kernel_rfl, trivial⟩ ?_
                  refine hR _ _ ?_
                  exfalso
                  have hm1 : x ≤ y → satF x bits s ≤ satF y bits s := satF_mono bits s
                  have hm2 := satF_idem x bits s
                  have hm3 : x ≤ y → rootF x ≤ rootF y := rootF_mono
                  have hm4 : 0 ≤ x → rootF x * rootF x ≤ x ∧ x < (rootF x + 1) * (rootF x + 1) := fun h => (rootF_spec h).2
                  omega
      · skip
        refine J.head (.bool true) (congrArg Value.bool (bne_iff_ne.2 fk3)) ?_
        refine J.run 5 K4_28 [(8, .bool false)] w4 (by kernel_rfl) ?_
        refine J.ret Try.f4 [.bool false] Try.func4 ⟨by kernel_rfl, trivial⟩ ?_
        refine hR _ _ ?_
        exfalso
        have hm1 : x ≤ y → satF x bits s ≤ satF y bits s := satF_mono bits s
        have hm2 := satF_idem x bits s
        have hm3 : x ≤ y → rootF x ≤ rootF y := rootF_mono
        have hm4 : 0 ≤ x → rootF x * rootF x ≤ x ∧ x < (rootF x + 1) * (rootF x + 1) := fun h => (rootF_spec h).2
        omega
  · skip
    refine J.head (.bool false) (congrArg Value.bool (decide_eq_false fk1)) ?_
    refine J.run 8 K4_29 [(34, .bool s), (33, .int .i64 bits), (32, .int .i64 (satF x bits s)), (31, .bool false), (9, .int .i64 (satF x bits s)), (0, .int .i64 x), (1, .int .i64 y)] w3 (by kernel_rfl) ?_
    refine J.callF 35 10 #[.int .i64 (satF x bits s), .int .i64 bits, .bool s] hb10 (by kernel_rfl) (sat_any (satF x bits s) bits s _ (by omega)) ?_
    rintro _ w7 ⟨rfl, T7⟩
    have S7 : Sep w [] w7 := S3.trans T7
    clear T7 S3
    have := satF_bounds (satF x bits s) bits s
    refine J.run 4 K4_30 [(38, .bool ((satF (satF x bits s) bits s) != (satF x bits s))), (0, .int .i64 x), (1, .int .i64 y)] w7 (by kernel_rfl) ?_
    by_cases fk11 : (satF (satF x bits s) bits s) = (satF x bits s)
    · skip
      refine J.head (.bool false) (congrArg Value.bool (bne_eq_false_iff_eq.2 fk11)) ?_
      refine J.run 5 K4_31 [(39, .int .i64 x), (0, .int .i64 x), (1, .int .i64 y)] w7 (by kernel_rfl) ?_
      refine J.callF 40 11 #[.int .i64 x] hb11 (by kernel_rfl) (root_any x _ (by omega)) ?_
      rintro _ w8 ⟨rfl, T8⟩
      have S8 : Sep w [] w8 := S7.trans T8
      clear T8 S7
      have := rootF_bounds (n := x) (by omega)
      refine J.run 1 K4_32 [(41, .int .i64 y), (40, .int .i64 (rootF x)), (0, .int .i64 x), (1, .int .i64 y)] w8 (by kernel_rfl) ?_
      refine J.callF 42 11 #[.int .i64 y] hb11 (by kernel_rfl) (root_any y _ (by omega)) ?_
      rintro _ w9 ⟨rfl, T9⟩
      have S9 : Sep w [] w9 := S8.trans T9
      clear T9 S8
      have := rootF_bounds (n := y) (by omega)
      refine J.run 10 K4_33 [(46, .bool (decide (x ≤ y))), (12, .int .i64 (rootF y)), (11, .int .i64 (rootF x)), (0, .int .i64 x)] w9 (by kernel_rfl) ?_
      refine J.head (.bool false) (congrArg Value.bool (decide_eq_false fk1)) ?_
      refine J.run 9 K4_34 [(55, .bool (decide ((rootF x) < 0))), (11, .int .i64 (rootF x)), (0, .int .i64 x)] w9 (by kernel_rfl) ?_
      by_cases fk13 : (rootF x) < 0
      · skip
        refine J.head (.bool true) (congrArg Value.bool (decide_eq_true fk13)) ?_
        refine J.run 9 K4_35 [(8, .bool false)] w9 (by kernel_rfl) ?_
        refine J.ret Try.f4 [.bool false] Try.func4 ⟨by kernel_rfl, trivial⟩ ?_
        refine hR _ _ ?_
        exfalso
        have hm1 : x ≤ y → satF x bits s ≤ satF y bits s := satF_mono bits s
        have hm2 := satF_idem x bits s
        have hm3 : x ≤ y → rootF x ≤ rootF y := rootF_mono
        have hm4 : 0 ≤ x → rootF x * rootF x ≤ x ∧ x < (rootF x + 1) * (rootF x + 1) := fun h => (rootF_spec h).2
        omega
      · skip
        refine J.head (.bool false) (congrArg Value.bool (decide_eq_false fk13)) ?_
        refine J.run 4 K4_36 [(58, .bool (decide ((rootF x) > 3037000499))), (11, .int .i64 (rootF x)), (0, .int .i64 x)] w9 (by kernel_rfl) ?_
        by_cases fk14 : (rootF x) > 3037000499
        · skip
          refine J.head (.bool true) (congrArg Value.bool (decide_eq_true fk14)) ?_
          refine J.run 5 K4_37 [(8, .bool false)] w9 (by kernel_rfl) ?_
          refine J.ret Try.f4 [.bool false] Try.func4 ⟨by kernel_rfl, trivial⟩ ?_
          refine hR _ _ ?_
          exfalso
          have hm1 : x ≤ y → satF x bits s ≤ satF y bits s := satF_mono bits s
          have hm2 := satF_idem x bits s
          have hm3 : x ≤ y → rootF x ≤ rootF y := rootF_mono
          have hm4 : 0 ≤ x → rootF x * rootF x ≤ x ∧ x < (rootF x + 1) * (rootF x + 1) := fun h => (rootF_spec h).2
          omega
        · skip
          refine J.head (.bool false) (congrArg Value.bool (decide_eq_false fk14)) ?_
          refine J.run 7 K4_38 [(61, .bool (decide (x < 0))), (11, .int .i64 (rootF x)), (0, .int .i64 x)] w9 (by kernel_rfl) ?_
          by_cases fk15 : x < 0
          · skip
            refine J.head (.bool true) (congrArg Value.bool (decide_eq_true fk15)) ?_
            refine J.run 21 K4_39 [(8, .bool true)] w9 (by kernel_rfl) ?_
            refine J.ret Try.f4 [.bool true] Try.func4 ⟨by kernel_rfl, trivial⟩ ?_
            refine hR _ _ ?_
            exact ⟨rfl, S9.nil⟩
          · skip
            refine J.head (.bool false) (congrArg Value.bool (decide_eq_false fk15)) ?_
            have := sq_b (m := rootF x) (by omega)
            refine J.run 3 K4_40 [(64, .int .i64 (IntKind.wrap .i64 ((rootF x) * (rootF x)))), (61, .bool false), (11, .int .i64 (rootF x)), (0, .int .i64 x)] w9 (by kernel_rfl) ?_
            refine J.head (.int .i64 ((rootF x) * (rootF x))) (congrArg (Value.int .i64) (IntWalk.i64_in _ (by omega))) ?_
            refine J.run 3 K4_41 [(67, .bool (decide (((rootF x) * (rootF x)) ≤ x))), (61, .bool false), (11, .int .i64 (rootF x)), (0, .int .i64 x)] w9 (by kernel_rfl) ?_
            by_cases fk16 : ((rootF x) * (rootF x)) ≤ x
            · skip
              refine J.head (.bool true) (congrArg Value.bool (decide_eq_true fk16)) ?_
              refine J.run 3 K4_42 [(70, .bool ((rootF x) == 3037000499)), (67, .bool true), (61, .bool false), (11, .int .i64 (rootF x)), (0, .int .i64 x)] w9 (by kernel_rfl) ?_
              by_cases fk17 : (rootF x) = 3037000499
              · skip
                refine J.head (.bool true) (congrArg Value.bool (beq_iff_eq.2 fk17)) ?_
                refine J.run 12 K4_43 [(8, .bool true)] w9 (by kernel_rfl) ?_
                refine J.ret Try.f4 [.bool true] Try.func4 ⟨by kernel_rfl, trivial⟩ ?_
                refine hR _ _ ?_
                exact ⟨rfl, S9.nil⟩
              · skip
                refine J.head (.bool false) (congrArg Value.bool (beq_eq_false_iff_ne.2 fk17)) ?_
                refine J.run 2 K4_44 [(72, .int .i64 (IntKind.wrap .i64 ((rootF x) + 1))), (70, .bool false), (67, .bool true), (61, .bool false), (11, .int .i64 (rootF x)), (0, .int .i64 x)] w9 (by kernel_rfl) ?_
                refine J.head (.int .i64 ((rootF x) + 1)) (congrArg (Value.int .i64) (IntWalk.i64_in _ (by omega))) ?_
                refine J.run 2 K4_45 [(74, .int .i64 (IntKind.wrap .i64 ((rootF x) + 1))), (72, .int .i64 ((rootF x) + 1)), (70, .bool false), (67, .bool true), (61, .bool false), (0, .int .i64 x)] w9 (by kernel_rfl) ?_
                refine J.head (.int .i64 ((rootF x) + 1)) (congrArg (Value.int .i64) (IntWalk.i64_in _ (by omega))) ?_
                have := sq_b (m := (rootF x) + 1) (by omega)
                refine J.run 1 K4_46 [(75, .int .i64 (IntKind.wrap .i64 (((rootF x) + 1) * ((rootF x) + 1)))), (70, .bool false), (67, .bool true), (61, .bool false), (0, .int .i64 x)] w9 (by kernel_rfl) ?_
                refine J.head (.int .i64 (((rootF x) + 1) * ((rootF x) + 1))) (congrArg (Value.int .i64) (IntWalk.i64_in _ (by omega))) ?_
                refine J.run 7 K4_47 [(8, .bool (decide ((((rootF x) + 1) * ((rootF x) + 1)) > x)))] w9 (by kernel_rfl) ?_
                refine J.ret Try.f4 [.bool (decide ((((rootF x) + 1) * ((rootF x) + 1)) > x))] Try.func4 ⟨by kernel_rfl, trivial⟩ ?_
                refine hR _ _ ?_
                exact ⟨congrArg Value.bool ((decide_eq_true (by have hm1 : x ≤ y → satF x bits s ≤ satF y bits s := satF_mono bits s; have hm2 := satF_idem x bits s; have hm3 : x ≤ y → rootF x ≤ rootF y := rootF_mono; have hm4 : 0 ≤ x → rootF x * rootF x ≤ x ∧ x < (rootF x + 1) * (rootF x + 1) := fun h => (rootF_spec h).2; omega))), S9.nil⟩
            · skip
              refine J.head (.bool false) (congrArg Value.bool (decide_eq_false fk16)) ?_
              refine J.run 15 K4_48 [(8, .bool false)] w9 (by kernel_rfl) ?_
              refine J.ret Try.f4 [.bool false] Try.func4 ⟨by kernel_rfl, trivial⟩ ?_
              refine hR _ _ ?_
              exfalso
              have hm1 : x ≤ y → satF x bits s ≤ satF y bits s := satF_mono bits s
              have hm2 := satF_idem x bits s
              have hm3 : x ≤ y → rootF x ≤ rootF y := rootF_mono
              have hm4 : 0 ≤ x → rootF x * rootF x ≤ x ∧ x < (rootF x + 1) * (rootF x + 1) := fun h => (rootF_spec h).2
              omega
    · skip
      refine J.head (.bool true) (congrArg Value.bool (bne_iff_ne.2 fk11)) ?_
      refine J.run 5 K4_49 [(8, .bool false)] w7 (by kernel_rfl) ?_
      refine J.ret Try.f4 [.bool false] Try.func4 ⟨by kernel_rfl, trivial⟩ ?_
      refine hR _ _ ?_
      exfalso
      have hm1 : x ≤ y → satF x bits s ≤ satF y bits s := satF_mono bits s
      have hm2 := satF_idem x bits s
      have hm3 : x ≤ y → rootF x ≤ rootF y := rootF_mono
      have hm4 : 0 ≤ x → rootF x * rootF x ≤ x ∧ x < (rootF x + 1) * (rootF x + 1) := fun h => (rootF_spec h).2
      omega

end Go.Proofs.Ytgedbbmdkggdcaa
