/- Walks of functions of this seat, printed by a program over the engine. Conditions: as each theorem says. -/
import Derived.Test.YtgedbbmdkggdcaaA5
namespace Go.Proofs.Ytgedbbmdkggdcaa
open Go.Eng Go.RowKit
set_option linter.unusedSimpArgs false
set_option linter.unusedVariables false
theorem hb8 : HasBody Try.prog 8 := fun _ _ => by kernel_rfl
noncomputable def K8_0 : List Item := adv 6 [] (bodyOf Try.f8)
noncomputable def K8_1 : List Item := adv 8 [] (popK K8_0)
noncomputable def K8_2 : List Item := adv 8 [] (popK K8_1)
noncomputable def K8_3 : List Item := adv 11 [] (popK K8_2)
noncomputable def K8_4 : List Item := adv 4 [] K8_3
noncomputable def K8_5 : List Item := adv 4 [] K8_4
noncomputable def K8_6 : List Item := adv 4 [] K8_5
noncomputable def K8_7 : List Item := adv 4 [] K8_6
noncomputable def K8_8 : List Item := adv 4 [] K8_7
noncomputable def K8_9 : List Item := adv 3 [] (popK K8_8)
noncomputable def K8_10 : List Item := adv 4 [] (popK K8_9)
set_option maxRecDepth 20000 in
set_option maxHeartbeats 20000000 in
theorem awake_any  (w : World) : Ret Try.prog 8 #[] w (fun v w' => v = .bool true ∧ Sep w [] w') := by
  have S0 := Sep.refl w
  refine Ret.named fun R hR => ?_
  refine Ret.of_J (N := 49) [] Try.func8 rfl rfl (Nat.le_of_ble_eq_true (by kernel_rfl)) (by kernel_rfl) ?_
  refine J.run 6 K8_0 [] w (by kernel_rfl) ?_
  refine J.callF 8 18 #[.int .i64 (-7), .int .i64 2, .int .i64 3] hb18 (by kernel_rfl) (div_any (-7) 2 3 _ (by omega) (by omega)) ?_
  rintro _ w1 ⟨rfl, T1⟩
  have S1 : Sep w [] w1 := S0.trans T1
  clear T1
  have := mdX_bounds (-7) 1 2 3
  refine J.run 8 K8_1 [(2, .int .i64 (mdE (-7) 1 2 3)), (1, .int .i64 (mdX (-7) 1 2 3))] w1 (by kernel_rfl) ?_
  refine J.callF 12 18 #[.int .i64 7, .int .i64 (-2), .int .i64 1] hb18 (by kernel_rfl) (div_any 7 (-2) 1 _ (by omega) (by omega)) ?_
  rintro _ w2 ⟨rfl, T2⟩
  have S2 : Sep w [] w2 := S1.trans T2
  clear T2 S1
  have := mdX_bounds 7 1 (-2) 1
  refine J.run 8 K8_2 [(4, .int .i64 (mdE 7 1 (-2) 1)), (3, .int .i64 (mdX 7 1 (-2) 1)), (2, .int .i64 (mdE (-7) 1 2 3)), (1, .int .i64 (mdX (-7) 1 2 3))] w2 (by kernel_rfl) ?_
  refine J.callF 16 9 #[.int .i64 1099511627776, .int .i64 1099511627776, .int .i64 2199023255552, .int .i64 1] hb9 (by kernel_rfl) (muldiv_any 1099511627776 1099511627776 2199023255552 1 _ (by omega) (by omega) (by omega)) ?_
  rintro _ w3 ⟨rfl, T3⟩
  have S3 : Sep w [] w3 := S2.trans T3
  clear T3 S2
  have := mdX_bounds 1099511627776 1099511627776 2199023255552 1
  refine J.run 11 K8_3 [(21, .bool ((mdE (-7) 1 2 3) == 0)), (6, .int .i64 (mdE 1099511627776 1099511627776 2199023255552 1)), (5, .int .i64 (mdX 1099511627776 1099511627776 2199023255552 1)), (4, .int .i64 (mdE 7 1 (-2) 1)), (3, .int .i64 (mdX 7 1 (-2) 1)), (1, .int .i64 (mdX (-7) 1 2 3))] w3 (by kernel_rfl) ?_
  have fk2 : (mdE (-7) 1 2 3) = 0 := by decide +kernel
  refine J.head (.bool true) (congrArg Value.bool (beq_iff_eq.2 fk2)) ?_
  refine J.run 4 K8_4 [(25, .bool ((mdX (-7) 1 2 3) == (-3))), (6, .int .i64 (mdE 1099511627776 1099511627776 2199023255552 1)), (5, .int .i64 (mdX 1099511627776 1099511627776 2199023255552 1)), (4, .int .i64 (mdE 7 1 (-2) 1)), (3, .int .i64 (mdX 7 1 (-2) 1))] w3 (by kernel_rfl) ?_
  have fk4 : (mdX (-7) 1 2 3) = (-3) := by decide +kernel
  refine J.head (.bool true) (congrArg Value.bool (beq_iff_eq.2 fk4)) ?_
  refine J.run 4 K8_5 [(29, .bool ((mdE 7 1 (-2) 1) == 0)), (6, .int .i64 (mdE 1099511627776 1099511627776 2199023255552 1)), (5, .int .i64 (mdX 1099511627776 1099511627776 2199023255552 1)), (3, .int .i64 (mdX 7 1 (-2) 1))] w3 (by kernel_rfl) ?_
  have fk6 : (mdE 7 1 (-2) 1) = 0 := by decide +kernel
  refine J.head (.bool true) (congrArg Value.bool (beq_iff_eq.2 fk6)) ?_
  refine J.run 4 K8_6 [(33, .bool ((mdX 7 1 (-2) 1) == (-4))), (6, .int .i64 (mdE 1099511627776 1099511627776 2199023255552 1)), (5, .int .i64 (mdX 1099511627776 1099511627776 2199023255552 1))] w3 (by kernel_rfl) ?_
  have fk8 : (mdX 7 1 (-2) 1) = (-4) := by decide +kernel
  refine J.head (.bool true) (congrArg Value.bool (beq_iff_eq.2 fk8)) ?_
  refine J.run 4 K8_7 [(37, .bool ((mdE 1099511627776 1099511627776 2199023255552 1) == 0)), (5, .int .i64 (mdX 1099511627776 1099511627776 2199023255552 1))] w3 (by kernel_rfl) ?_
  have fk10 : (mdE 1099511627776 1099511627776 2199023255552 1) = 0 := by decide +kernel
  refine J.head (.bool true) (congrArg Value.bool (beq_iff_eq.2 fk10)) ?_
  refine J.run 4 K8_8 [(41, .bool ((mdX 1099511627776 1099511627776 2199023255552 1) == 549755813888))] w3 (by kernel_rfl) ?_
  have fk12 : (mdX 1099511627776 1099511627776 2199023255552 1) = 549755813888 := by decide +kernel
  refine J.head (.bool true) (congrArg Value.bool (beq_iff_eq.2 fk12)) ?_
  refine J.callF 42 10 #[.int .i64 300, .int .i64 8, .bool false] hb10 (by kernel_rfl) (sat_any 300 8 false _ (by omega)) ?_
  rintro _ w4 ⟨rfl, T4⟩
  have S4 : Sep w [] w4 := S3.trans T4
  clear T4 S3
  have := satF_bounds 300 8 false
  refine J.run 3 K8_9 [(45, .bool ((satF 300 8 false) == 255))] w4 (by kernel_rfl) ?_
  have fk14 : (satF 300 8 false) = 255 := by decide +kernel
  refine J.head (.bool true) (congrArg Value.bool (beq_iff_eq.2 fk14)) ?_
  refine J.callF 46 11 #[.int .i64 24] hb11 (by kernel_rfl) (root_any 24 _ (by omega)) ?_
  rintro _ w5 ⟨rfl, T5⟩
  have S5 : Sep w [] w5 := S4.trans T5
  clear T5 S4
  have := rootF_bounds (n := 24) (by omega)
  refine J.run 4 K8_10 [(0, .bool ((rootF 24) == 4))] w5 (by kernel_rfl) ?_
  refine J.ret Try.f8 [.bool ((rootF 24) == 4)] Try.func8 ⟨by kernel_rfl, trivial⟩ ?_
  refine hR _ _ ?_
  exact ⟨congrArg Value.bool (by exact beq_iff_eq.2 (rootF_eq ⟨by omega, by omega, by omega⟩)), S5.nil⟩

theorem hb7 : HasBody Try.prog 7 := fun _ _ => by kernel_rfl
noncomputable def K7_0 : List Item := adv 7 [] (bodyOf Try.f7)
noncomputable def K7_1 : List Item := adv 9 [false] (popK K7_0)
noncomputable def K7_2 : List Item := adv 11 [] (popK K7_1)
noncomputable def K7_3 : List Item := adv 12 [] (popK K7_2)
noncomputable def K7_4 : List Item := adv 12 [] (popK K7_3)
noncomputable def K7_5 : List Item := adv 11 [] (popK K7_4)
noncomputable def K7_6 : List Item := adv 4 [] K7_5
noncomputable def K7_7 : List Item := adv 5 [] K7_6
noncomputable def K7_8 : List Item := adv 5 [] K7_7
noncomputable def K7_9 : List Item := adv 4 [] K7_8
noncomputable def K7_10 : List Item := adv 2 [] (popK K7_9)
noncomputable def K7_11 : List Item := adv 1 [] (popK K7_10)
noncomputable def K7_12 : List Item := adv 4 [] K7_11
noncomputable def K7_13 : List Item := adv 2 [] (popK K7_12)
noncomputable def K7_14 : List Item := adv 1 [] (popK K7_13)
noncomputable def K7_15 : List Item := adv 3 [] K7_14
set_option maxRecDepth 20000 in
set_option maxHeartbeats 20000000 in
theorem divides_any (a b c mode : Int) (w : World) (ha : (-9223372036854775808) ≤ a ∧ a ≤ 9223372036854775807) (hb : (-9223372036854775808) ≤ b ∧ b ≤ 9223372036854775807) (hc : (-9223372036854775808) ≤ c ∧ c ≤ 9223372036854775807) : Ret Try.prog 7 #[.int .i64 a, .int .i64 b, .int .i64 c, .int .i64 mode] w (fun v w' => v = .bool true ∧ Sep w [] w') := by
  have S0 := Sep.refl w
  refine Ret.named fun R hR => ?_
  refine Ret.of_J (N := 85) [(0, .int .i64 a), (1, .int .i64 b), (2, .int .i64 c), (3, .int .i64 mode)] Try.func7 rfl rfl (Nat.le_of_ble_eq_true (by kernel_rfl)) (by kernel_rfl) ?_
  refine J.run 7 K7_0 [(0, .int .i64 a), (1, .int .i64 b), (2, .int .i64 c), (3, .int .i64 mode)] w (by kernel_rfl) ?_
  refine J.callF 17 8 #[] hb8 (by kernel_rfl) (awake_any  _) ?_
  rintro _ w1 ⟨rfl, T1⟩
  have S1 : Sep w [] w1 := S0.trans T1
  clear T1
  refine J.run 9 K7_1 [(22, .int .i64 mode), (21, .int .i64 b), (20, .int .i64 a), (0, .int .i64 a), (1, .int .i64 b), (2, .int .i64 c), (3, .int .i64 mode)] w1 (by kernel_rfl) ?_
  refine J.callF 23 18 #[.int .i64 a, .int .i64 b, .int .i64 mode] hb18 (by kernel_rfl) (div_any a b mode _ (by omega) (by omega)) ?_
  rintro _ w2 ⟨rfl, T2⟩
  have S2 : Sep w [] w2 := S1.trans T2
  clear T2 S1
  have := mdX_bounds a 1 b mode
  refine J.run 11 K7_2 [(29, .int .i64 mode), (28, .int .i64 b), (27, .int .i64 a), (10, .int .i64 (mdE a 1 b mode)), (9, .int .i64 (mdX a 1 b mode)), (0, .int .i64 a), (1, .int .i64 b), (2, .int .i64 c), (3, .int .i64 mode)] w2 (by kernel_rfl) ?_
  refine J.callF 30 20 #[.int .i64 a, .int .i64 b, .int .i64 mode] hb20 (by kernel_rfl) (rdiv_any a b mode _ (by omega) (by omega)) ?_
  rintro _ w3 ⟨rfl, T3⟩
  have S3 : Sep w [] w3 := S2.trans T3
  clear T3 S2
  have := mdX_bounds a 1 b mode
  refine J.run 12 K7_3 [(37, .int .i64 mode), (36, .int .i64 c), (35, .int .i64 b), (34, .int .i64 a), (12, .int .i64 (mdE a 1 b mode)), (11, .int .i64 (mdX a 1 b mode)), (10, .int .i64 (mdE a 1 b mode)), (9, .int .i64 (mdX a 1 b mode)), (0, .int .i64 a), (1, .int .i64 b), (2, .int .i64 c), (3, .int .i64 mode)] w3 (by kernel_rfl) ?_
  refine J.callF 38 9 #[.int .i64 a, .int .i64 b, .int .i64 c, .int .i64 mode] hb9 (by kernel_rfl) (muldiv_any a b c mode _ (by omega) (by omega) (by omega)) ?_
  rintro _ w4 ⟨rfl, T4⟩
  have S4 : Sep w [] w4 := S3.trans T4
  clear T4 S3
  have := mdX_bounds a b c mode
  refine J.run 12 K7_4 [(45, .int .i64 mode), (44, .int .i64 c), (43, .int .i64 b), (42, .int .i64 a), (14, .int .i64 (mdE a b c mode)), (13, .int .i64 (mdX a b c mode)), (12, .int .i64 (mdE a 1 b mode)), (11, .int .i64 (mdX a 1 b mode)), (10, .int .i64 (mdE a 1 b mode)), (9, .int .i64 (mdX a 1 b mode)), (0, .int .i64 a), (1, .int .i64 b)] w4 (by kernel_rfl) ?_
  refine J.callF 46 21 #[.int .i64 a, .int .i64 b, .int .i64 c, .int .i64 mode] hb21 (by kernel_rfl) (rmuldiv_any a b c mode _ (by omega) (by omega) (by omega)) ?_
  rintro _ w5 ⟨rfl, T5⟩
  have S5 : Sep w [] w5 := S4.trans T5
  clear T5 S4
  have := mdX_bounds a b c mode
  refine J.run 11 K7_5 [(51, .bool ((mdX a 1 b mode) == (mdX a 1 b mode))), (16, .int .i64 (mdE a b c mode)), (15, .int .i64 (mdX a b c mode)), (14, .int .i64 (mdE a b c mode)), (13, .int .i64 (mdX a b c mode)), (12, .int .i64 (mdE a 1 b mode)), (10, .int .i64 (mdE a 1 b mode)), (0, .int .i64 a), (1, .int .i64 b)] w5 (by kernel_rfl) ?_
  refine J.head (.bool true) (congrArg Value.bool (by simp)) ?_
  refine J.run 4 K7_6 [(55, .bool ((mdE a 1 b mode) == (mdE a 1 b mode))), (52, .bool true), (16, .int .i64 (mdE a b c mode)), (15, .int .i64 (mdX a b c mode)), (14, .int .i64 (mdE a b c mode)), (13, .int .i64 (mdX a b c mode)), (0, .int .i64 a), (1, .int .i64 b)] w5 (by kernel_rfl) ?_
  refine J.head (.bool true) (congrArg Value.bool (by simp)) ?_
  refine J.run 5 K7_7 [(60, .bool ((mdX a b c mode) == (mdX a b c mode))), (57, .bool true), (16, .int .i64 (mdE a b c mode)), (14, .int .i64 (mdE a b c mode)), (0, .int .i64 a), (1, .int .i64 b)] w5 (by kernel_rfl) ?_
  refine J.head (.bool true) (congrArg Value.bool (by simp)) ?_
  refine J.run 5 K7_8 [(65, .bool ((mdE a b c mode) == (mdE a b c mode))), (62, .bool true), (0, .int .i64 a), (1, .int .i64 b)] w5 (by kernel_rfl) ?_
  refine J.head (.bool true) (congrArg Value.bool (by simp)) ?_
  refine J.run 4 K7_9 [(69, .int .i64 b), (68, .int .i64 a), (67, .bool true), (0, .int .i64 a), (1, .int .i64 b)] w5 (by kernel_rfl) ?_
  refine J.callF 70 22 #[.int .i64 a, .int .i64 b] hb22 (by kernel_rfl) (floor_any a b _ (by omega) (by omega)) ?_
  rintro _ w6 ⟨rfl, T6⟩
  have S6 : Sep w [] w6 := S5.trans T6
  clear T6 S5
  have := mdX_bounds a 1 b 1
  refine J.run 2 K7_10 [(72, .int .i64 b), (71, .int .i64 a), (70, .int .i64 (mdX a 1 b 1)), (67, .bool true), (0, .int .i64 a), (1, .int .i64 b)] w6 (by kernel_rfl) ?_
  refine J.callF 73 23 #[.int .i64 a, .int .i64 b] hb23 (by kernel_rfl) (rfloor_any a b _ (by omega) (by omega)) ?_
  rintro _ w7 ⟨rfl, T7⟩
  have S7 : Sep w [] w7 := S6.trans T7
  clear T7 S6
  have := mdX_bounds a 1 b 1
  refine J.run 1 K7_11 [(74, .bool ((mdX a 1 b 1) == (mdX a 1 b 1))), (67, .bool true), (0, .int .i64 a), (1, .int .i64 b)] w7 (by kernel_rfl) ?_
  refine J.head (.bool true) (congrArg Value.bool (by simp)) ?_
  refine J.run 4 K7_12 [(78, .int .i64 b), (77, .int .i64 a), (76, .bool true), (0, .int .i64 a), (1, .int .i64 b)] w7 (by kernel_rfl) ?_
  refine J.callF 79 19 #[.int .i64 a, .int .i64 b] hb19 (by kernel_rfl) (mod_any a b _ (by omega) (by omega)) ?_
  rintro _ w8 ⟨rfl, T8⟩
  have S8 : Sep w [] w8 := S7.trans T8
  clear T8 S7
  refine J.run 2 K7_13 [(81, .int .i64 b), (80, .int .i64 a), (79, .int .i64 (modF a b)), (76, .bool true)] w8 (by kernel_rfl) ?_
  refine J.callF 82 24 #[.int .i64 a, .int .i64 b] hb24 (by kernel_rfl) (rmod_any a b _ (by omega) (by omega)) ?_
  rintro _ w9 ⟨rfl, T9⟩
  have S9 : Sep w [] w9 := S8.trans T9
  clear T9 S8
  refine J.run 1 K7_14 [(83, .bool ((modF a b) == (modF a b))), (76, .bool true)] w9 (by kernel_rfl) ?_
  refine J.head (.bool true) (congrArg Value.bool (by simp)) ?_
  refine J.run 3 K7_15 [(8, .bool true)] w9 (by kernel_rfl) ?_
  refine J.ret Try.f7 [.bool true] Try.func7 ⟨by kernel_rfl, trivial⟩ ?_
  refine hR _ _ ?_
  exact ⟨rfl, S9.nil⟩

theorem hb5 : HasBody Try.prog 5 := fun _ _ => by kernel_rfl
noncomputable def K5_0 : List Item := adv 7 [] (bodyOf Try.f5)
noncomputable def K5_1 : List Item := adv 9 [false] (popK K5_0)
noncomputable def K5_2 : List Item := adv 3 [] (popK K5_1)
noncomputable def K5_3 : List Item := adv 1 [] (popK K5_2)
noncomputable def K5_4 : List Item := adv 4 [] K5_3
noncomputable def K5_5 : List Item := adv 3 [] (popK K5_4)
noncomputable def K5_6 : List Item := adv 1 [] (popK K5_5)
noncomputable def K5_7 : List Item := adv 3 [] K5_6
noncomputable def K5_8 : List Item := adv 1 [] (popK K5_7)
noncomputable def K5_9 : List Item := adv 1 [] (popK K5_8)
noncomputable def K5_10 : List Item := adv 4 [] K5_9
noncomputable def K5_11 : List Item := adv 2 [] (popK K5_10)
noncomputable def K5_12 : List Item := adv 1 [] (popK K5_11)
noncomputable def K5_13 : List Item := adv 3 [] K5_12
set_option maxRecDepth 20000 in
set_option maxHeartbeats 20000000 in
theorem limits_any (x low high bits : Int) (s : Bool) (w : World) (hx : (-9223372036854775808) ≤ x ∧ x ≤ 9223372036854775807) (hlow : (-9223372036854775808) ≤ low ∧ low ≤ 9223372036854775807) (hhigh : (-9223372036854775808) ≤ high ∧ high ≤ 9223372036854775807) (hbits : (-9223372036854775808) ≤ bits ∧ bits ≤ 9223372036854775807) : Ret Try.prog 5 #[.int .i64 x, .int .i64 low, .int .i64 high, .int .i64 bits, .bool s] w (fun v w' => v = .bool true ∧ Sep w [] w') := by
  have S0 := Sep.refl w
  refine Ret.named fun R hR => ?_
  refine Ret.of_J (N := 49) [(0, .int .i64 x), (1, .int .i64 low), (2, .int .i64 high), (3, .int .i64 bits), (4, .bool s)] Try.func5 rfl rfl (Nat.le_of_ble_eq_true (by kernel_rfl)) (by kernel_rfl) ?_
  refine J.run 7 K5_0 [(0, .int .i64 x), (1, .int .i64 low), (2, .int .i64 high), (3, .int .i64 bits), (4, .bool s)] w (by kernel_rfl) ?_
  refine J.callF 11 8 #[] hb8 (by kernel_rfl) (awake_any  _) ?_
  rintro _ w1 ⟨rfl, T1⟩
  have S1 : Sep w [] w1 := S0.trans T1
  clear T1
  refine J.run 9 K5_1 [(15, .int .i64 high), (14, .int .i64 low), (13, .int .i64 x), (0, .int .i64 x), (1, .int .i64 low), (2, .int .i64 high), (3, .int .i64 bits), (4, .bool s)] w1 (by kernel_rfl) ?_
  refine J.callF 16 12 #[.int .i64 x, .int .i64 low, .int .i64 high] hb12 (by kernel_rfl) (clamp_any x low high _) ?_
  rintro _ w2 ⟨rfl, T2⟩
  have S2 : Sep w [] w2 := S1.trans T2
  clear T2 S1
  refine J.run 3 K5_2 [(19, .int .i64 high), (18, .int .i64 low), (17, .int .i64 x), (16, .int .i64 (min (max x low) high)), (0, .int .i64 x), (1, .int .i64 low), (3, .int .i64 bits), (4, .bool s)] w2 (by kernel_rfl) ?_
  refine J.callF 20 13 #[.int .i64 x, .int .i64 low, .int .i64 high] hb13 (by kernel_rfl) (rclamp_any x low high _) ?_
  rintro _ w3 ⟨rfl, T3⟩
  have S3 : Sep w [] w3 := S2.trans T3
  clear T3 S2
  refine J.run 1 K5_3 [(21, .bool ((min (max x low) high) == (min (max x low) high))), (0, .int .i64 x), (1, .int .i64 low), (3, .int .i64 bits), (4, .bool s)] w3 (by kernel_rfl) ?_
  refine J.head (.bool true) (congrArg Value.bool (by simp)) ?_
  refine J.run 4 K5_4 [(25, .bool s), (24, .int .i64 bits), (23, .int .i64 x), (22, .bool true), (0, .int .i64 x), (1, .int .i64 low), (3, .int .i64 bits), (4, .bool s)] w3 (by kernel_rfl) ?_
  refine J.callF 26 10 #[.int .i64 x, .int .i64 bits, .bool s] hb10 (by kernel_rfl) (sat_any x bits s _ (by omega)) ?_
  rintro _ w4 ⟨rfl, T4⟩
  have S4 : Sep w [] w4 := S3.trans T4
  clear T4 S3
  have := satF_bounds x bits s
  refine J.run 3 K5_5 [(29, .bool s), (28, .int .i64 bits), (27, .int .i64 x), (26, .int .i64 (satF x bits s)), (22, .bool true), (0, .int .i64 x), (1, .int .i64 low)] w4 (by kernel_rfl) ?_
  refine J.callF 30 14 #[.int .i64 x, .int .i64 bits, .bool s] hb14 (by kernel_rfl) (rsat_any x bits s _ (by omega)) ?_
  rintro _ w5 ⟨rfl, T5⟩
  have S5 : Sep w [] w5 := S4.trans T5
  clear T5 S4
  have := satF_bounds x bits s
  refine J.run 1 K5_6 [(31, .bool ((satF x bits s) == (satF x bits s))), (22, .bool true), (0, .int .i64 x), (1, .int .i64 low)] w5 (by kernel_rfl) ?_
  refine J.head (.bool true) (congrArg Value.bool (by simp)) ?_
  refine J.run 3 K5_7 [(34, .int .i64 x), (33, .bool true), (0, .int .i64 x), (1, .int .i64 low)] w5 (by kernel_rfl) ?_
  refine J.callF 35 11 #[.int .i64 x] hb11 (by kernel_rfl) (root_any x _ (by omega)) ?_
  rintro _ w6 ⟨rfl, T6⟩
  have S6 : Sep w [] w6 := S5.trans T6
  clear T6 S5
  have := rootF_bounds (n := x) (by omega)
  refine J.run 1 K5_8 [(36, .int .i64 x), (35, .int .i64 (rootF x)), (33, .bool true), (0, .int .i64 x), (1, .int .i64 low)] w6 (by kernel_rfl) ?_
  refine J.callF 37 15 #[.int .i64 x] hb15 (by kernel_rfl) (rroot_any x _ (by omega)) ?_
  rintro _ w7 ⟨rfl, T7⟩
  have S7 : Sep w [] w7 := S6.trans T7
  clear T7 S6
  have := rootF_bounds (n := x) (by omega)
  refine J.run 1 K5_9 [(38, .bool ((rootF x) == (rootF x))), (33, .bool true), (0, .int .i64 x), (1, .int .i64 low)] w7 (by kernel_rfl) ?_
  refine J.head (.bool true) (congrArg Value.bool (by simp)) ?_
  refine J.run 4 K5_10 [(42, .int .i64 low), (41, .int .i64 x), (40, .bool true), (0, .int .i64 x), (1, .int .i64 low)] w7 (by kernel_rfl) ?_
  refine J.callF 43 16 #[.int .i64 x, .int .i64 low] hb16 (by kernel_rfl) (gcd_any x low _ (by omega) (by omega)) ?_
  rintro _ w8 ⟨rfl, T8⟩
  have S8 : Sep w [] w8 := S7.trans T8
  clear T8 S7
  refine J.run 2 K5_11 [(45, .int .i64 low), (44, .int .i64 x), (43, .int .i64 (gcdF x low)), (40, .bool true)] w8 (by kernel_rfl) ?_
  refine J.callF 46 17 #[.int .i64 x, .int .i64 low] hb17 (by kernel_rfl) (rgcd_any x low _ (by omega) (by omega)) ?_
  rintro _ w9 ⟨rfl, T9⟩
  have S9 : Sep w [] w9 := S8.trans T9
  clear T9 S8
  refine J.run 1 K5_12 [(47, .bool ((gcdF x low) == (gcdF x low))), (40, .bool true)] w9 (by kernel_rfl) ?_
  refine J.head (.bool true) (congrArg Value.bool (by simp)) ?_
  refine J.run 3 K5_13 [(10, .bool true)] w9 (by kernel_rfl) ?_
  refine J.ret Try.f5 [.bool true] Try.func5 ⟨by kernel_rfl, trivial⟩ ?_
  refine hR _ _ ?_
  exact ⟨rfl, S9.nil⟩

theorem hb6 : HasBody Try.prog 6 := fun _ _ => by kernel_rfl
noncomputable def K6_0 : List Item := adv 7 [] (bodyOf Try.f6)
noncomputable def K6_1 : List Item := adv 10 [false] (popK K6_0)
noncomputable def K6_2 : List Item := adv 17 [true] K6_1
noncomputable def K6_3 : List Item := adv 4 [] K6_1
noncomputable def K6_4 : List Item := adv 13 [true] K6_3
noncomputable def K6_5 : List Item := adv 4 [] K6_3
noncomputable def K6_6 : List Item := adv 9 [true] K6_5
noncomputable def K6_7 : List Item := adv 4 [] K6_5
noncomputable def K6_8 : List Item := adv 5 [true] K6_7
noncomputable def K6_9 : List Item := adv 6 [false] K6_7
noncomputable def K6_10 : List Item := adv 10 [] (popK K6_9)
noncomputable def K6_11 : List Item := adv 10 [] (popK K6_10)
noncomputable def K6_12 : List Item := adv 10 [] (popK K6_11)
noncomputable def K6_13 : List Item := adv 1 [] K6_12
noncomputable def K6_14 : List Item := adv 10 [] (popK K6_13)
noncomputable def K6_15 : List Item := adv 2 [] K6_14
noncomputable def K6_16 : List Item := adv 12 [] (popK K6_15)
noncomputable def K6_17 : List Item := adv 4 [] K6_16
noncomputable def K6_18 : List Item := adv 4 [] K6_17
noncomputable def K6_19 : List Item := adv 4 [] K6_18
noncomputable def K6_20 : List Item := adv 4 [] K6_19
noncomputable def K6_21 : List Item := adv 6 [false] K6_20
noncomputable def K6_22 : List Item := adv 8 [] (popK K6_21)
noncomputable def K6_23 : List Item := adv 21 [true] K6_22
noncomputable def K6_24 : List Item := adv 5 [] K6_22
noncomputable def K6_25 : List Item := adv 16 [true] K6_24
noncomputable def K6_26 : List Item := adv 3 [] K6_24
noncomputable def K6_27 : List Item := adv 3 [] K6_26
noncomputable def K6_28 : List Item := adv 5 [] K6_27
noncomputable def K6_29 : List Item := adv 8 [false] K6_28
noncomputable def K6_30 : List Item := adv 7 [true] K6_29
noncomputable def K6_31 : List Item := adv 6 [] K6_30
noncomputable def K6_32 : List Item := adv 6 [] K6_30
noncomputable def K6_33 : List Item := adv 7 [false] K6_29
noncomputable def K6_34 : List Item := adv 2 [] K6_33
noncomputable def K6_35 : List Item := adv 7 [] K6_34
noncomputable def K6_36 : List Item := adv 4 [] K6_35
noncomputable def K6_37 : List Item := adv 4 [] K6_36
noncomputable def K6_38 : List Item := adv 7 [] K6_37
noncomputable def K6_39 : List Item := adv 7 [] K6_37
noncomputable def K6_40 : List Item := adv 22 [] K6_34
noncomputable def K6_41 : List Item := adv 5 [true] K6_28
noncomputable def K6_42 : List Item := adv 10 [true] K6_27
noncomputable def K6_43 : List Item := adv 5 [true] K6_20
noncomputable def K6_44 : List Item := adv 9 [true] K6_19
noncomputable def K6_45 : List Item := adv 13 [true] K6_18
noncomputable def K6_46 : List Item := adv 17 [true] K6_17
noncomputable def K6_47 : List Item := adv 21 [true] K6_16
set_option maxRecDepth 20000 in
set_option maxHeartbeats 20000000 in
theorem rounds_any (a b : Int) (w : World) (ha : (-9223372036854775808) ≤ a ∧ a ≤ 9223372036854775807) (hb : (-9223372036854775808) ≤ b ∧ b ≤ 9223372036854775807) : Ret Try.prog 6 #[.int .i64 a, .int .i64 b] w (fun v w' => v = .bool true ∧ Sep w [] w') := by
  have S0 := Sep.refl w
  refine Ret.named fun R hR => ?_
  refine Ret.of_J (N := 139) [(0, .int .i64 a), (1, .int .i64 b)] Try.func6 rfl rfl (Nat.le_of_ble_eq_true (by kernel_rfl)) (by kernel_rfl) ?_
  refine J.run 7 K6_0 [(0, .int .i64 a), (1, .int .i64 b)] w (by kernel_rfl) ?_
  refine J.callF 16 8 #[] hb8 (by kernel_rfl) (awake_any  _) ?_
  rintro _ w1 ⟨rfl, T1⟩
  have S1 : Sep w [] w1 := S0.trans T1
  clear T1
  refine J.run 10 K6_1 [(20, .bool (decide (a < (-1099511627776)))), (0, .int .i64 a), (1, .int .i64 b)] w1 (by kernel_rfl) ?_
  by_cases fk1 : a < (-1099511627776)
  · skip
    refine J.head (.bool true) (congrArg Value.bool (decide_eq_true fk1)) ?_
    refine J.run 17 K6_2 [(4, .bool true)] w1 (by kernel_rfl) ?_
    refine J.ret Try.f6 [.bool true] Try.func6 ⟨by kernel_rfl, trivial⟩ ?_
    refine hR _ _ ?_
    exact ⟨rfl, S1.nil⟩
  · skip
    refine J.head (.bool false) (congrArg Value.bool (decide_eq_false fk1)) ?_
    refine J.run 4 K6_3 [(24, .bool (decide (a > 1099511627776))), (0, .int .i64 a), (1, .int .i64 b)] w1 (by kernel_rfl) ?_
    by_cases fk2 : a > 1099511627776
    · skip
      refine J.head (.bool true) (congrArg Value.bool (decide_eq_true fk2)) ?_
      refine J.run 13 K6_4 [(4, .bool true)] w1 (by kernel_rfl) ?_
      refine J.ret Try.f6 [.bool true] Try.func6 ⟨by kernel_rfl, trivial⟩ ?_
      refine hR _ _ ?_
      exact ⟨rfl, S1.nil⟩
    · skip
      refine J.head (.bool false) (congrArg Value.bool (decide_eq_false fk2)) ?_
      refine J.run 4 K6_5 [(28, .bool (decide (b < 1))), (0, .int .i64 a), (1, .int .i64 b)] w1 (by kernel_rfl) ?_
      by_cases fk3 : b < 1
      · skip
        refine J.head (.bool true) (congrArg Value.bool (decide_eq_true fk3)) ?_
        refine J.run 9 K6_6 [(4, .bool true)] w1 (by kernel_rfl) ?_
        refine J.ret Try.f6 [.bool true] Try.func6 ⟨by kernel_rfl, trivial⟩ ?_
        refine hR _ _ ?_
        exact ⟨rfl, S1.nil⟩
      · skip
        refine J.head (.bool false) (congrArg Value.bool (decide_eq_false fk3)) ?_
        refine J.run 4 K6_7 [(31, .bool (decide (b > 1099511627776))), (0, .int .i64 a), (1, .int .i64 b)] w1 (by kernel_rfl) ?_
        by_cases fk4 : b > 1099511627776
        · skip
          refine J.head (.bool true) (congrArg Value.bool (decide_eq_true fk4)) ?_
          refine J.run 5 K6_8 [(4, .bool true)] w1 (by kernel_rfl) ?_
          refine J.ret Try.f6 [.bool true] Try.func6 ⟨by kernel_rfl, trivial⟩ ?_
          refine hR _ _ ?_
          exact ⟨rfl, S1.nil⟩
        · skip
          refine J.head (.bool false) (congrArg Value.bool (decide_eq_false fk4)) ?_
          refine J.run 6 K6_9 [(34, .int .i64 b), (33, .int .i64 a), (0, .int .i64 a), (1, .int .i64 b)] w1 (by kernel_rfl) ?_
          obtain ⟨D, R, f1, f2, f3, f4, f5, f6, f7, f8, f9, f10, f11, f12, f13, f14, f15, f16, f17⟩ := rounds_facts (a := a) (b := b) (by omega) (by omega)
          refine J.callF 35 18 #[.int .i64 a, .int .i64 b, .int .i64 1] hb18 (by kernel_rfl) (div_any a b 1 _ (by omega) (by omega)) ?_
          rintro _ w2 ⟨rfl, T2⟩
          have S2 : Sep w [] w2 := S1.trans T2
          clear T2 S1
          have := mdX_bounds a 1 b 1
          refine J.run 10 K6_10 [(40, .int .i64 b), (39, .int .i64 a), (6, .int .i64 (mdE a 1 b 1)), (5, .int .i64 (mdX a 1 b 1)), (0, .int .i64 a), (1, .int .i64 b)] w2 (by kernel_rfl) ?_
          refine J.callF 41 18 #[.int .i64 a, .int .i64 b, .int .i64 2] hb18 (by kernel_rfl) (div_any a b 2 _ (by omega) (by omega)) ?_
          rintro _ w3 ⟨rfl, T3⟩
          have S3 : Sep w [] w3 := S2.trans T3
          clear T3 S2
          have := mdX_bounds a 1 b 2
          refine J.run 10 K6_11 [(46, .int .i64 b), (45, .int .i64 a), (8, .int .i64 (mdE a 1 b 2)), (7, .int .i64 (mdX a 1 b 2)), (6, .int .i64 (mdE a 1 b 1)), (5, .int .i64 (mdX a 1 b 1)), (0, .int .i64 a), (1, .int .i64 b)] w3 (by kernel_rfl) ?_
          refine J.callF 47 18 #[.int .i64 a, .int .i64 b, .int .i64 3] hb18 (by kernel_rfl) (div_any a b 3 _ (by omega) (by omega)) ?_
          rintro _ w4 ⟨rfl, T4⟩
          have S4 : Sep w [] w4 := S3.trans T4
          clear T4 S3
          have := mdX_bounds a 1 b 3
          refine J.run 10 K6_12 [(52, .int .i64 (IntKind.wrap .i64 (0 - a))), (10, .int .i64 (mdE a 1 b 3)), (9, .int .i64 (mdX a 1 b 3)), (8, .int .i64 (mdE a 1 b 2)), (7, .int .i64 (mdX a 1 b 2)), (6, .int .i64 (mdE a 1 b 1)), (5, .int .i64 (mdX a 1 b 1)), (0, .int .i64 a), (1, .int .i64 b)] w4 (by kernel_rfl) ?_
          refine J.head (.int .i64 (0 - a)) (congrArg (Value.int .i64) (IntWalk.i64_in _ (by omega))) ?_
          refine J.run 1 K6_13 [(53, .int .i64 b), (52, .int .i64 (0 - a)), (10, .int .i64 (mdE a 1 b 3)), (9, .int .i64 (mdX a 1 b 3)), (8, .int .i64 (mdE a 1 b 2)), (7, .int .i64 (mdX a 1 b 2)), (6, .int .i64 (mdE a 1 b 1)), (5, .int .i64 (mdX a 1 b 1)), (0, .int .i64 a), (1, .int .i64 b)] w4 (by kernel_rfl) ?_
          refine J.callF 54 18 #[.int .i64 (0 - a), .int .i64 b, .int .i64 1] hb18 (by kernel_rfl) (div_any (0 - a) b 1 _ (by omega) (by omega)) ?_
          rintro _ w5 ⟨rfl, T5⟩
          have S5 : Sep w [] w5 := S4.trans T5
          clear T5 S4
          have := mdX_bounds (0 - a) 1 b 1
          refine J.run 10 K6_14 [(59, .int .i64 (IntKind.wrap .i64 (0 - a))), (12, .int .i64 (mdE (0 - a) 1 b 1)), (11, .int .i64 (mdX (0 - a) 1 b 1)), (10, .int .i64 (mdE a 1 b 3)), (9, .int .i64 (mdX a 1 b 3)), (8, .int .i64 (mdE a 1 b 2)), (7, .int .i64 (mdX a 1 b 2)), (6, .int .i64 (mdE a 1 b 1)), (5, .int .i64 (mdX a 1 b 1)), (0, .int .i64 a), (1, .int .i64 b)] w5 (by kernel_rfl) ?_
          refine J.head (.int .i64 (0 - a)) (congrArg (Value.int .i64) (IntWalk.i64_in _ (by omega))) ?_
          refine J.run 2 K6_15 [(61, .int .i64 (IntKind.wrap .i64 (0 - b))), (59, .int .i64 (0 - a)), (12, .int .i64 (mdE (0 - a) 1 b 1)), (11, .int .i64 (mdX (0 - a) 1 b 1)), (10, .int .i64 (mdE a 1 b 3)), (9, .int .i64 (mdX a 1 b 3)), (8, .int .i64 (mdE a 1 b 2)), (7, .int .i64 (mdX a 1 b 2)), (6, .int .i64 (mdE a 1 b 1)), (5, .int .i64 (mdX a 1 b 1)), (0, .int .i64 a), (1, .int .i64 b)] w5 (by kernel_rfl) ?_
          refine J.head (.int .i64 (0 - b)) (congrArg (Value.int .i64) (IntWalk.i64_in _ (by omega))) ?_
          refine J.callF 62 18 #[.int .i64 (0 - a), .int .i64 (0 - b), .int .i64 3] hb18 (by kernel_rfl) (div_any (0 - a) (0 - b) 3 _ (by omega) (by omega)) ?_
          rintro _ w6 ⟨rfl, T6⟩
          have S6 : Sep w [] w6 := S5.trans T6
          clear T6 S5
          have := mdX_bounds (0 - a) 1 (0 - b) 3
          refine J.run 12 K6_16 [(67, .bool ((mdE a 1 b 1) != 0)), (14, .int .i64 (mdE (0 - a) 1 (0 - b) 3)), (13, .int .i64 (mdX (0 - a) 1 (0 - b) 3)), (12, .int .i64 (mdE (0 - a) 1 b 1)), (11, .int .i64 (mdX (0 - a) 1 b 1)), (10, .int .i64 (mdE a 1 b 3)), (9, .int .i64 (mdX a 1 b 3)), (8, .int .i64 (mdE a 1 b 2)), (7, .int .i64 (mdX a 1 b 2)), (5, .int .i64 (mdX a 1 b 1)), (0, .int .i64 a), (1, .int .i64 b)] w6 (by kernel_rfl) ?_
          by_cases fk5 : (mdE a 1 b 1) = 0
          · skip
            refine J.head (.bool false) (congrArg Value.bool (bne_eq_false_iff_eq.2 fk5)) ?_
            refine J.run 4 K6_17 [(71, .bool ((mdE a 1 b 2) != 0)), (14, .int .i64 (mdE (0 - a) 1 (0 - b) 3)), (13, .int .i64 (mdX (0 - a) 1 (0 - b) 3)), (12, .int .i64 (mdE (0 - a) 1 b 1)), (11, .int .i64 (mdX (0 - a) 1 b 1)), (10, .int .i64 (mdE a 1 b 3)), (9, .int .i64 (mdX a 1 b 3)), (7, .int .i64 (mdX a 1 b 2)), (5, .int .i64 (mdX a 1 b 1)), (0, .int .i64 a), (1, .int .i64 b)] w6 (by kernel_rfl) ?_
            by_cases fk6 : (mdE a 1 b 2) = 0
            · skip
              refine J.head (.bool false) (congrArg Value.bool (bne_eq_false_iff_eq.2 fk6)) ?_
              refine J.run 4 K6_18 [(75, .bool ((mdE a 1 b 3) != 0)), (14, .int .i64 (mdE (0 - a) 1 (0 - b) 3)), (13, .int .i64 (mdX (0 - a) 1 (0 - b) 3)), (12, .int .i64 (mdE (0 - a) 1 b 1)), (11, .int .i64 (mdX (0 - a) 1 b 1)), (9, .int .i64 (mdX a 1 b 3)), (7, .int .i64 (mdX a 1 b 2)), (5, .int .i64 (mdX a 1 b 1)), (0, .int .i64 a), (1, .int .i64 b)] w6 (by kernel_rfl) ?_
              by_cases fk7 : (mdE a 1 b 3) = 0
              · skip
                refine J.head (.bool false) (congrArg Value.bool (bne_eq_false_iff_eq.2 fk7)) ?_
                refine J.run 4 K6_19 [(79, .bool ((mdE (0 - a) 1 b 1) != 0)), (14, .int .i64 (mdE (0 - a) 1 (0 - b) 3)), (13, .int .i64 (mdX (0 - a) 1 (0 - b) 3)), (11, .int .i64 (mdX (0 - a) 1 b 1)), (9, .int .i64 (mdX a 1 b 3)), (7, .int .i64 (mdX a 1 b 2)), (5, .int .i64 (mdX a 1 b 1)), (0, .int .i64 a), (1, .int .i64 b)] w6 (by kernel_rfl) ?_
                by_cases fk8 : (mdE (0 - a) 1 b 1) = 0
                · skip
                  refine J.head (.bool false) (congrArg Value.bool (bne_eq_false_iff_eq.2 fk8)) ?_
                  refine J.run 4 K6_20 [(82, .bool ((mdE (0 - a) 1 (0 - b) 3) != 0)), (13, .int .i64 (mdX (0 - a) 1 (0 - b) 3)), (11, .int .i64 (mdX (0 - a) 1 b 1)), (9, .int .i64 (mdX a 1 b 3)), (7, .int .i64 (mdX a 1 b 2)), (5, .int .i64 (mdX a 1 b 1)), (0, .int .i64 a), (1, .int .i64 b)] w6 (by kernel_rfl) ?_
                  by_cases fk9 : (mdE (0 - a) 1 (0 - b) 3) = 0
                  · skip
                    refine J.head (.bool false) (congrArg Value.bool (bne_eq_false_iff_eq.2 fk9)) ?_
                    refine J.run 6 K6_21 [(84, .int .i64 b), (83, .int .i64 a), (13, .int .i64 (mdX (0 - a) 1 (0 - b) 3)), (11, .int .i64 (mdX (0 - a) 1 b 1)), (9, .int .i64 (mdX a 1 b 3)), (7, .int .i64 (mdX a 1 b 2)), (5, .int .i64 (mdX a 1 b 1)), (1, .int .i64 b)] w6 (by kernel_rfl) ?_
                    refine J.callF 85 19 #[.int .i64 a, .int .i64 b] hb19 (by kernel_rfl) (mod_any a b _ (by omega) (by omega)) ?_
                    rintro _ w7 ⟨rfl, T7⟩
                    have S7 : Sep w [] w7 := S6.trans T7
                    clear T7 S6
                    refine J.run 8 K6_22 [(88, .bool (decide ((modF a b) < 0))), (15, .int .i64 (modF a b)), (13, .int .i64 (mdX (0 - a) 1 (0 - b) 3)), (11, .int .i64 (mdX (0 - a) 1 b 1)), (9, .int .i64 (mdX a 1 b 3)), (7, .int .i64 (mdX a 1 b 2)), (5, .int .i64 (mdX a 1 b 1)), (1, .int .i64 b)] w7 (by kernel_rfl) ?_
                    by_cases fk10 : (modF a b) < 0
                    · skip
                      refine J.head (.bool true) (congrArg Value.bool (decide_eq_true fk10)) ?_
                      refine J.run 21 K6_23 [(4, .bool false)] w7 (by kernel_rfl) ?_
                      refine J.ret Try.f6 [.bool false] Try.func6 ⟨by kernel_rfl, trivial⟩ ?_
                      refine hR _ _ ?_
                      exfalso
                      omega
                    · skip
                      refine J.head (.bool false) (congrArg Value.bool (decide_eq_false fk10)) ?_
                      refine J.run 5 K6_24 [(93, .bool (decide ((modF a b) ≥ b))), (15, .int .i64 (modF a b)), (13, .int .i64 (mdX (0 - a) 1 (0 - b) 3)), (11, .int .i64 (mdX (0 - a) 1 b 1)), (9, .int .i64 (mdX a 1 b 3)), (7, .int .i64 (mdX a 1 b 2)), (5, .int .i64 (mdX a 1 b 1)), (1, .int .i64 b)] w7 (by kernel_rfl) ?_
                      by_cases fk11 : (modF a b) ≥ b
                      · skip
                        refine J.head (.bool true) (congrArg Value.bool (decide_eq_true fk11)) ?_
                        refine J.run 16 K6_25 [(4, .bool false)] w7 (by kernel_rfl) ?_
                        refine J.ret Try.f6 [.bool false] Try.func6 ⟨by kernel_rfl, trivial⟩ ?_
                        refine hR _ _ ?_
                        exfalso
                        omega
                      · skip
                        refine J.head (.bool false) (congrArg Value.bool (decide_eq_false fk11)) ?_
                        refine J.run 3 K6_26 [(96, .int .i64 (IntKind.wrap .i64 (0 - (mdX (0 - a) 1 b 1)))), (94, .int .i64 (mdX a 1 b 2)), (93, .bool false), (15, .int .i64 (modF a b)), (13, .int .i64 (mdX (0 - a) 1 (0 - b) 3)), (9, .int .i64 (mdX a 1 b 3)), (7, .int .i64 (mdX a 1 b 2)), (5, .int .i64 (mdX a 1 b 1)), (1, .int .i64 b)] w7 (by kernel_rfl) ?_
                        refine J.head (.int .i64 (0 - (mdX (0 - a) 1 b 1))) (congrArg (Value.int .i64) (IntWalk.i64_in _ (by omega))) ?_
                        refine J.run 3 K6_27 [(99, .bool ((mdX a 1 b 2) != (0 - (mdX (0 - a) 1 b 1)))), (15, .int .i64 (modF a b)), (13, .int .i64 (mdX (0 - a) 1 (0 - b) 3)), (9, .int .i64 (mdX a 1 b 3)), (7, .int .i64 (mdX a 1 b 2)), (5, .int .i64 (mdX a 1 b 1)), (1, .int .i64 b)] w7 (by kernel_rfl) ?_
                        by_cases fk12 : (mdX a 1 b 2) = (0 - (mdX (0 - a) 1 b 1))
                        · skip
                          refine J.head (.bool false) (congrArg Value.bool (bne_eq_false_iff_eq.2 fk12)) ?_
                          refine J.run 5 K6_28 [(103, .bool ((mdX (0 - a) 1 (0 - b) 3) != (mdX a 1 b 3))), (15, .int .i64 (modF a b)), (9, .int .i64 (mdX a 1 b 3)), (7, .int .i64 (mdX a 1 b 2)), (5, .int .i64 (mdX a 1 b 1)), (1, .int .i64 b)] w7 (by kernel_rfl) ?_
                          by_cases fk13 : (mdX (0 - a) 1 (0 - b) 3) = (mdX a 1 b 3)
                          · skip
                            refine J.head (.bool false) (congrArg Value.bool (bne_eq_false_iff_eq.2 fk13)) ?_
                            refine J.run 8 K6_29 [(105, .bool ((modF a b) == 0)), (15, .int .i64 (modF a b)), (9, .int .i64 (mdX a 1 b 3)), (7, .int .i64 (mdX a 1 b 2)), (5, .int .i64 (mdX a 1 b 1)), (1, .int .i64 b)] w7 (by kernel_rfl) ?_
                            by_cases fk14 : (modF a b) = 0
                            · skip
                              refine J.head (.bool true) (congrArg Value.bool (beq_iff_eq.2 fk14)) ?_
                              refine J.run 7 K6_30 [(109, .bool ((mdX a 1 b 2) == (mdX a 1 b 1))), (9, .int .i64 (mdX a 1 b 3)), (5, .int .i64 (mdX a 1 b 1))] w7 (by kernel_rfl) ?_
                              by_cases fk15 : (mdX a 1 b 2) = (mdX a 1 b 1)
                              · skip
                                refine J.head (.bool true) (congrArg Value.bool (beq_iff_eq.2 fk15)) ?_
                                refine J.run 6 K6_31 [(4, .bool ((mdX a 1 b 3) == (mdX a 1 b 1)))] w7 (by kernel_rfl) ?_
                                refine J.ret Try.f6 [.bool ((mdX a 1 b 3) == (mdX a 1 b 1))] Try.func6 ⟨by kernel_rfl, trivial⟩ ?_
                                refine hR _ _ ?_
                                exact ⟨congrArg Value.bool ((beq_iff_eq.2 (by omega))), S7.nil⟩
                              · skip
                                refine J.head (.bool false) (congrArg Value.bool (beq_eq_false_iff_ne.2 fk15)) ?_
                                refine J.run 6 K6_32 [(4, .bool false)] w7 (by kernel_rfl) ?_
                                refine J.ret Try.f6 [.bool false] Try.func6 ⟨by kernel_rfl, trivial⟩ ?_
                                refine hR _ _ ?_
                                exfalso
                                omega
                            · skip
                              refine J.head (.bool false) (congrArg Value.bool (beq_eq_false_iff_ne.2 fk14)) ?_
                              refine J.run 7 K6_33 [(116, .int .i64 (IntKind.wrap .i64 ((mdX a 1 b 1) + 1))), (114, .int .i64 (mdX a 1 b 2)), (15, .int .i64 (modF a b)), (9, .int .i64 (mdX a 1 b 3)), (7, .int .i64 (mdX a 1 b 2)), (5, .int .i64 (mdX a 1 b 1)), (1, .int .i64 b)] w7 (by kernel_rfl) ?_
                              refine J.head (.int .i64 ((mdX a 1 b 1) + 1)) (congrArg (Value.int .i64) (IntWalk.i64_in _ (by omega))) ?_
                              refine J.run 2 K6_34 [(118, .bool ((mdX a 1 b 2) == ((mdX a 1 b 1) + 1))), (15, .int .i64 (modF a b)), (9, .int .i64 (mdX a 1 b 3)), (7, .int .i64 (mdX a 1 b 2)), (5, .int .i64 (mdX a 1 b 1)), (1, .int .i64 b)] w7 (by kernel_rfl) ?_
                              by_cases fk16 : (mdX a 1 b 2) = ((mdX a 1 b 1) + 1)
                              · skip
                                refine J.head (.bool true) (congrArg Value.bool (beq_iff_eq.2 fk16)) ?_
                                refine J.run 7 K6_35 [(125, .int .i64 (IntKind.wrap .i64 (b - (modF a b)))), (122, .int .i64 (modF a b)), (121, .bool ((mdX a 1 b 3) == (mdX a 1 b 2))), (118, .bool true), (9, .int .i64 (mdX a 1 b 3)), (7, .int .i64 (mdX a 1 b 2)), (5, .int .i64 (mdX a 1 b 1))] w7 (by kernel_rfl) ?_
                                refine J.head (.int .i64 (b - (modF a b))) (congrArg (Value.int .i64) (IntWalk.i64_in _ (by omega))) ?_
                                refine J.run 4 K6_36 [(129, .bool (((mdX a 1 b 3) == (mdX a 1 b 2)) == (decide ((modF a b) ≥ (b - (modF a b)))))), (9, .int .i64 (mdX a 1 b 3)), (7, .int .i64 (mdX a 1 b 2)), (5, .int .i64 (mdX a 1 b 1))] w7 (by kernel_rfl) ?_
                                have fk18 : (((mdX a 1 b 3) == (mdX a 1 b 2)) == (decide ((modF a b) ≥ (b - (modF a b))))) = true := bool_eq (by omega)
                                refine J.head (.bool true) (congrArg Value.bool fk18) ?_
                                refine J.run 4 K6_37 [(133, .bool ((mdX a 1 b 3) == (mdX a 1 b 2))), (129, .bool true), (9, .int .i64 (mdX a 1 b 3)), (5, .int .i64 (mdX a 1 b 1))] w7 (by kernel_rfl) ?_
                                by_cases fk19 : (mdX a 1 b 3) = (mdX a 1 b 2)
                                · skip
                                  refine J.head (.bool true) (congrArg Value.bool (beq_iff_eq.2 fk19)) ?_
                                  refine J.run 7 K6_38 [(4, .bool true)] w7 (by kernel_rfl) ?_
                                  refine J.ret Try.f6 [.bool true] Try.func6 ⟨by kernel_rfl, trivial⟩ ?_
                                  refine hR _ _ ?_
                                  exact ⟨rfl, S7.nil⟩
                                · skip
                                  refine J.head (.bool false) (congrArg Value.bool (beq_eq_false_iff_ne.2 fk19)) ?_
                                  refine J.run 7 K6_39 [(4, .bool ((mdX a 1 b 3) == (mdX a 1 b 1)))] w7 (by kernel_rfl) ?_
                                  refine J.ret Try.f6 [.bool ((mdX a 1 b 3) == (mdX a 1 b 1))] Try.func6 ⟨by kernel_rfl, trivial⟩ ?_
                                  refine hR _ _ ?_
                                  exact ⟨congrArg Value.bool ((beq_iff_eq.2 (by omega))), S7.nil⟩
                              · skip
                                refine J.head (.bool false) (congrArg Value.bool (beq_eq_false_iff_ne.2 fk16)) ?_
                                refine J.run 22 K6_40 [(4, .bool false)] w7 (by kernel_rfl) ?_
                                refine J.ret Try.f6 [.bool false] Try.func6 ⟨by kernel_rfl, trivial⟩ ?_
                                refine hR _ _ ?_
                                exfalso
                                omega
                          · skip
                            refine J.head (.bool true) (congrArg Value.bool (bne_iff_ne.2 fk13)) ?_
                            refine J.run 5 K6_41 [(4, .bool false)] w7 (by kernel_rfl) ?_
                            refine J.ret Try.f6 [.bool false] Try.func6 ⟨by kernel_rfl, trivial⟩ ?_
                            refine hR _ _ ?_
                            exfalso
                            omega
                        · skip
                          refine J.head (.bool true) (congrArg Value.bool (bne_iff_ne.2 fk12)) ?_
                          refine J.run 10 K6_42 [(4, .bool false)] w7 (by kernel_rfl) ?_
                          refine J.ret Try.f6 [.bool false] Try.func6 ⟨by kernel_rfl, trivial⟩ ?_
                          refine hR _ _ ?_
                          exfalso
                          omega
                  · skip
                    refine J.head (.bool true) (congrArg Value.bool (bne_iff_ne.2 fk9)) ?_
                    refine J.run 5 K6_43 [(4, .bool false)] w6 (by kernel_rfl) ?_
                    refine J.ret Try.f6 [.bool false] Try.func6 ⟨by kernel_rfl, trivial⟩ ?_
                    refine hR _ _ ?_
                    exfalso
                    omega
                · skip
                  refine J.head (.bool true) (congrArg Value.bool (bne_iff_ne.2 fk8)) ?_
                  refine J.run 9 K6_44 [(4, .bool false)] w6 (by kernel_rfl) ?_
                  refine J.ret Try.f6 [.bool false] Try.func6 ⟨by kernel_rfl, trivial⟩ ?_
                  refine hR _ _ ?_
                  exfalso
                  omega
              · skip
                refine J.head (.bool true) (congrArg Value.bool (bne_iff_ne.2 fk7)) ?_
                refine J.run 13 K6_45 [(4, .bool false)] w6 (by kernel_rfl) ?_
                refine J.ret Try.f6 [.bool false] Try.func6 ⟨by kernel_rfl, trivial⟩ ?_
                refine hR _ _ ?_
                exfalso
                omega
            · skip
              refine J.head (.bool true) (congrArg Value.bool (bne_iff_ne.2 fk6)) ?_
              refine J.run 17 K6_46 [(4, .bool false)] w6 (by kernel_rfl) ?_
              refine J.ret Try.f6 [.bool false] Try.func6 ⟨by kernel_rfl, trivial⟩ ?_
              refine hR _ _ ?_
              exfalso
              omega
          · skip
            refine J.head (.bool true) (congrArg Value.bool (bne_iff_ne.2 fk5)) ?_
            refine J.run 21 K6_47 [(4, .bool false)] w6 (by kernel_rfl) ?_
            refine J.ret Try.f6 [.bool false] Try.func6 ⟨by kernel_rfl, trivial⟩ ?_
            refine hR _ _ ?_
            exfalso
            omega

theorem hb3 : HasBody Try.prog 3 := fun _ _ => by kernel_rfl
noncomputable def K3_0 : List Item := adv 7 [] (bodyOf Try.f3)
noncomputable def K3_1 : List Item := adv 10 [false] (popK K3_0)
noncomputable def K3_2 : List Item := adv 16 [false] K3_1
noncomputable def K3_3 : List Item := adv 12 [] (popK K3_2)
noncomputable def K3_4 : List Item := adv 13 [] (popK K3_3)
noncomputable def K3_5 : List Item := adv 5 [] K3_4
noncomputable def K3_6 : List Item := adv 8 [false] K3_5
noncomputable def K3_7 : List Item := adv 4 [] K3_6
noncomputable def K3_8 : List Item := adv 5 [true] K3_7
noncomputable def K3_9 : List Item := adv 2 [] K3_8
noncomputable def K3_10 : List Item := adv 2 [] K3_9
noncomputable def K3_11 : List Item := adv 12 [] (popK K3_10)
noncomputable def K3_12 : List Item := adv 5 [] K3_11
noncomputable def K3_13 : List Item := adv 8 [false] K3_12
noncomputable def K3_14 : List Item := adv 13 [true] K3_13
noncomputable def K3_15 : List Item := adv 4 [] K3_13
noncomputable def K3_16 : List Item := adv 9 [true] K3_15
noncomputable def K3_17 : List Item := adv 4 [] K3_15
noncomputable def K3_18 : List Item := adv 5 [true] K3_17
noncomputable def K3_19 : List Item := adv 6 [false] K3_17
noncomputable def K3_20 : List Item := adv 3 [] K3_19
noncomputable def K3_21 : List Item := adv 11 [] (popK K3_20)
noncomputable def K3_22 : List Item := adv 4 [] K3_21
noncomputable def K3_23 : List Item := adv 6 [] K3_22
noncomputable def K3_24 : List Item := adv 6 [] K3_22
noncomputable def K3_25 : List Item := adv 10 [] K3_21
noncomputable def K3_26 : List Item := adv 5 [true] K3_12
noncomputable def K3_27 : List Item := adv 10 [true] K3_11
noncomputable def K3_28 : List Item := adv 8 [false] K3_7
noncomputable def K3_29 : List Item := adv 13 [true] K3_28
noncomputable def K3_30 : List Item := adv 4 [] K3_28
noncomputable def K3_31 : List Item := adv 9 [true] K3_30
noncomputable def K3_32 : List Item := adv 4 [] K3_30
noncomputable def K3_33 : List Item := adv 5 [true] K3_32
noncomputable def K3_34 : List Item := adv 6 [false] K3_32
noncomputable def K3_35 : List Item := adv 3 [] K3_34
noncomputable def K3_36 : List Item := adv 11 [] (popK K3_35)
noncomputable def K3_37 : List Item := adv 4 [] K3_36
noncomputable def K3_38 : List Item := adv 6 [] K3_37
noncomputable def K3_39 : List Item := adv 6 [] K3_37
noncomputable def K3_40 : List Item := adv 10 [] K3_36
noncomputable def K3_41 : List Item := adv 12 [false] K3_6
noncomputable def K3_42 : List Item := adv 13 [true] K3_41
noncomputable def K3_43 : List Item := adv 4 [] K3_41
noncomputable def K3_44 : List Item := adv 9 [true] K3_43
noncomputable def K3_45 : List Item := adv 4 [] K3_43
noncomputable def K3_46 : List Item := adv 5 [true] K3_45
noncomputable def K3_47 : List Item := adv 6 [false] K3_45
noncomputable def K3_48 : List Item := adv 3 [] K3_47
noncomputable def K3_49 : List Item := adv 11 [] (popK K3_48)
noncomputable def K3_50 : List Item := adv 4 [] K3_49
noncomputable def K3_51 : List Item := adv 6 [] K3_50
noncomputable def K3_52 : List Item := adv 6 [] K3_50
noncomputable def K3_53 : List Item := adv 10 [] K3_49
noncomputable def K3_54 : List Item := adv 5 [true] K3_5
noncomputable def K3_55 : List Item := adv 10 [true] K3_4
noncomputable def K3_56 : List Item := adv 4 [] K3_1
noncomputable def K3_57 : List Item := adv 4 [] K3_56
noncomputable def K3_58 : List Item := adv 7 [true] K3_57
noncomputable def K3_59 : List Item := adv 11 [] (popK K3_58)
noncomputable def K3_60 : List Item := adv 5 [] K3_59
noncomputable def K3_61 : List Item := adv 8 [false] K3_60
noncomputable def K3_62 : List Item := adv 12 [] (popK K3_61)
noncomputable def K3_63 : List Item := adv 13 [] (popK K3_62)
noncomputable def K3_64 : List Item := adv 5 [] K3_63
noncomputable def K3_65 : List Item := adv 8 [false] K3_64
noncomputable def K3_66 : List Item := adv 4 [] K3_65
noncomputable def K3_67 : List Item := adv 5 [true] K3_66
noncomputable def K3_68 : List Item := adv 2 [] K3_67
noncomputable def K3_69 : List Item := adv 2 [] K3_68
noncomputable def K3_70 : List Item := adv 12 [] (popK K3_69)
noncomputable def K3_71 : List Item := adv 5 [] K3_70
noncomputable def K3_72 : List Item := adv 8 [false] K3_71
noncomputable def K3_73 : List Item := adv 13 [true] K3_72
noncomputable def K3_74 : List Item := adv 4 [] K3_72
noncomputable def K3_75 : List Item := adv 9 [true] K3_74
noncomputable def K3_76 : List Item := adv 4 [] K3_74
noncomputable def K3_77 : List Item := adv 5 [true] K3_76
noncomputable def K3_78 : List Item := adv 6 [false] K3_76
noncomputable def K3_79 : List Item := adv 3 [] K3_78
noncomputable def K3_80 : List Item := adv 11 [] (popK K3_79)
noncomputable def K3_81 : List Item := adv 4 [] K3_80
noncomputable def K3_82 : List Item := adv 6 [] K3_81
noncomputable def K3_83 : List Item := adv 6 [] K3_81
noncomputable def K3_84 : List Item := adv 10 [] K3_80
noncomputable def K3_85 : List Item := adv 5 [true] K3_71
noncomputable def K3_86 : List Item := adv 10 [true] K3_70
noncomputable def K3_87 : List Item := adv 8 [false] K3_66
noncomputable def K3_88 : List Item := adv 13 [true] K3_87
noncomputable def K3_89 : List Item := adv 4 [] K3_87
noncomputable def K3_90 : List Item := adv 9 [true] K3_89
noncomputable def K3_91 : List Item := adv 4 [] K3_89
noncomputable def K3_92 : List Item := adv 5 [true] K3_91
noncomputable def K3_93 : List Item := adv 6 [false] K3_91
noncomputable def K3_94 : List Item := adv 3 [] K3_93
noncomputable def K3_95 : List Item := adv 11 [] (popK K3_94)
noncomputable def K3_96 : List Item := adv 4 [] K3_95
noncomputable def K3_97 : List Item := adv 6 [] K3_96
noncomputable def K3_98 : List Item := adv 6 [] K3_96
noncomputable def K3_99 : List Item := adv 10 [] K3_95
noncomputable def K3_100 : List Item := adv 12 [false] K3_65
noncomputable def K3_101 : List Item := adv 13 [true] K3_100
noncomputable def K3_102 : List Item := adv 4 [] K3_100
noncomputable def K3_103 : List Item := adv 9 [true] K3_102
noncomputable def K3_104 : List Item := adv 4 [] K3_102
noncomputable def K3_105 : List Item := adv 5 [true] K3_104
noncomputable def K3_106 : List Item := adv 6 [false] K3_104
noncomputable def K3_107 : List Item := adv 3 [] K3_106
noncomputable def K3_108 : List Item := adv 11 [] (popK K3_107)
noncomputable def K3_109 : List Item := adv 4 [] K3_108
noncomputable def K3_110 : List Item := adv 6 [] K3_109
noncomputable def K3_111 : List Item := adv 6 [] K3_109
noncomputable def K3_112 : List Item := adv 10 [] K3_108
noncomputable def K3_113 : List Item := adv 5 [true] K3_64
noncomputable def K3_114 : List Item := adv 10 [true] K3_63
noncomputable def K3_115 : List Item := adv 5 [true] K3_60
noncomputable def K3_116 : List Item := adv 10 [true] K3_59
noncomputable def K3_117 : List Item := adv 8 [false] K3_57
noncomputable def K3_118 : List Item := adv 12 [] (popK K3_117)
noncomputable def K3_119 : List Item := adv 13 [] (popK K3_118)
noncomputable def K3_120 : List Item := adv 5 [] K3_119
noncomputable def K3_121 : List Item := adv 8 [false] K3_120
noncomputable def K3_122 : List Item := adv 4 [] K3_121
noncomputable def K3_123 : List Item := adv 5 [true] K3_122
noncomputable def K3_124 : List Item := adv 2 [] K3_123
noncomputable def K3_125 : List Item := adv 2 [] K3_124
noncomputable def K3_126 : List Item := adv 12 [] (popK K3_125)
noncomputable def K3_127 : List Item := adv 5 [] K3_126
noncomputable def K3_128 : List Item := adv 8 [false] K3_127
noncomputable def K3_129 : List Item := adv 13 [true] K3_128
noncomputable def K3_130 : List Item := adv 4 [] K3_128
noncomputable def K3_131 : List Item := adv 9 [true] K3_130
noncomputable def K3_132 : List Item := adv 4 [] K3_130
noncomputable def K3_133 : List Item := adv 5 [true] K3_132
noncomputable def K3_134 : List Item := adv 6 [false] K3_132
noncomputable def K3_135 : List Item := adv 3 [] K3_134
noncomputable def K3_136 : List Item := adv 11 [] (popK K3_135)
noncomputable def K3_137 : List Item := adv 4 [] K3_136
noncomputable def K3_138 : List Item := adv 6 [] K3_137
noncomputable def K3_139 : List Item := adv 6 [] K3_137
noncomputable def K3_140 : List Item := adv 10 [] K3_136
noncomputable def K3_141 : List Item := adv 5 [true] K3_127
noncomputable def K3_142 : List Item := adv 10 [true] K3_126
noncomputable def K3_143 : List Item := adv 8 [false] K3_122
noncomputable def K3_144 : List Item := adv 13 [true] K3_143
noncomputable def K3_145 : List Item := adv 4 [] K3_143
noncomputable def K3_146 : List Item := adv 9 [true] K3_145
noncomputable def K3_147 : List Item := adv 4 [] K3_145
noncomputable def K3_148 : List Item := adv 5 [true] K3_147
noncomputable def K3_149 : List Item := adv 6 [false] K3_147
noncomputable def K3_150 : List Item := adv 3 [] K3_149
noncomputable def K3_151 : List Item := adv 11 [] (popK K3_150)
noncomputable def K3_152 : List Item := adv 4 [] K3_151
noncomputable def K3_153 : List Item := adv 6 [] K3_152
noncomputable def K3_154 : List Item := adv 6 [] K3_152
noncomputable def K3_155 : List Item := adv 10 [] K3_151
noncomputable def K3_156 : List Item := adv 12 [false] K3_121
noncomputable def K3_157 : List Item := adv 13 [true] K3_156
noncomputable def K3_158 : List Item := adv 4 [] K3_156
noncomputable def K3_159 : List Item := adv 9 [true] K3_158
noncomputable def K3_160 : List Item := adv 4 [] K3_158
noncomputable def K3_161 : List Item := adv 5 [true] K3_160
noncomputable def K3_162 : List Item := adv 6 [false] K3_160
noncomputable def K3_163 : List Item := adv 3 [] K3_162
noncomputable def K3_164 : List Item := adv 11 [] (popK K3_163)
noncomputable def K3_165 : List Item := adv 4 [] K3_164
noncomputable def K3_166 : List Item := adv 6 [] K3_165
noncomputable def K3_167 : List Item := adv 6 [] K3_165
noncomputable def K3_168 : List Item := adv 10 [] K3_164
noncomputable def K3_169 : List Item := adv 5 [true] K3_120
noncomputable def K3_170 : List Item := adv 10 [true] K3_119
noncomputable def K3_171 : List Item := adv 12 [false] K3_56
noncomputable def K3_172 : List Item := adv 12 [] (popK K3_171)
noncomputable def K3_173 : List Item := adv 13 [] (popK K3_172)
noncomputable def K3_174 : List Item := adv 5 [] K3_173
noncomputable def K3_175 : List Item := adv 8 [false] K3_174
noncomputable def K3_176 : List Item := adv 4 [] K3_175
noncomputable def K3_177 : List Item := adv 5 [true] K3_176
noncomputable def K3_178 : List Item := adv 2 [] K3_177
noncomputable def K3_179 : List Item := adv 2 [] K3_178
noncomputable def K3_180 : List Item := adv 12 [] (popK K3_179)
noncomputable def K3_181 : List Item := adv 5 [] K3_180
noncomputable def K3_182 : List Item := adv 8 [false] K3_181
noncomputable def K3_183 : List Item := adv 13 [true] K3_182
noncomputable def K3_184 : List Item := adv 4 [] K3_182
noncomputable def K3_185 : List Item := adv 9 [true] K3_184
noncomputable def K3_186 : List Item := adv 4 [] K3_184
noncomputable def K3_187 : List Item := adv 5 [true] K3_186
noncomputable def K3_188 : List Item := adv 6 [false] K3_186
noncomputable def K3_189 : List Item := adv 3 [] K3_188
noncomputable def K3_190 : List Item := adv 11 [] (popK K3_189)
noncomputable def K3_191 : List Item := adv 4 [] K3_190
noncomputable def K3_192 : List Item := adv 6 [] K3_191
noncomputable def K3_193 : List Item := adv 6 [] K3_191
noncomputable def K3_194 : List Item := adv 10 [] K3_190
noncomputable def K3_195 : List Item := adv 5 [true] K3_181
noncomputable def K3_196 : List Item := adv 10 [true] K3_180
noncomputable def K3_197 : List Item := adv 8 [false] K3_176
noncomputable def K3_198 : List Item := adv 13 [true] K3_197
noncomputable def K3_199 : List Item := adv 4 [] K3_197
noncomputable def K3_200 : List Item := adv 9 [true] K3_199
noncomputable def K3_201 : List Item := adv 4 [] K3_199
noncomputable def K3_202 : List Item := adv 5 [true] K3_201
noncomputable def K3_203 : List Item := adv 6 [false] K3_201
noncomputable def K3_204 : List Item := adv 3 [] K3_203
noncomputable def K3_205 : List Item := adv 11 [] (popK K3_204)
noncomputable def K3_206 : List Item := adv 4 [] K3_205
noncomputable def K3_207 : List Item := adv 6 [] K3_206
noncomputable def K3_208 : List Item := adv 6 [] K3_206
noncomputable def K3_209 : List Item := adv 10 [] K3_205
noncomputable def K3_210 : List Item := adv 12 [false] K3_175
noncomputable def K3_211 : List Item := adv 13 [true] K3_210
noncomputable def K3_212 : List Item := adv 4 [] K3_210
noncomputable def K3_213 : List Item := adv 9 [true] K3_212
noncomputable def K3_214 : List Item := adv 4 [] K3_212
noncomputable def K3_215 : List Item := adv 5 [true] K3_214
noncomputable def K3_216 : List Item := adv 6 [false] K3_214
noncomputable def K3_217 : List Item := adv 3 [] K3_216
noncomputable def K3_218 : List Item := adv 11 [] (popK K3_217)
noncomputable def K3_219 : List Item := adv 4 [] K3_218
noncomputable def K3_220 : List Item := adv 6 [] K3_219
noncomputable def K3_221 : List Item := adv 6 [] K3_219
noncomputable def K3_222 : List Item := adv 10 [] K3_218
noncomputable def K3_223 : List Item := adv 5 [true] K3_174
noncomputable def K3_224 : List Item := adv 10 [true] K3_173
set_option maxRecDepth 20000 in
set_option maxHeartbeats 20000000 in
theorem products_any (a b c mode : Int) (w : World) (ha : (-9223372036854775808) ≤ a ∧ a ≤ 9223372036854775807) (hb : (-9223372036854775808) ≤ b ∧ b ≤ 9223372036854775807) (hc : (-9223372036854775808) ≤ c ∧ c ≤ 9223372036854775807) : Ret Try.prog 3 #[.int .i64 a, .int .i64 b, .int .i64 c, .int .i64 mode] w (fun v w' => v = .bool true ∧ Sep w [] w') := by
  have S0 := Sep.refl w
  refine Ret.named fun R hR => ?_
  refine Ret.of_J (N := 124) [(0, .int .i64 a), (1, .int .i64 b), (2, .int .i64 c), (3, .int .i64 mode)] Try.func3 rfl rfl (Nat.le_of_ble_eq_true (by kernel_rfl)) (by kernel_rfl) ?_
  refine J.run 7 K3_0 [(0, .int .i64 a), (1, .int .i64 b), (2, .int .i64 c), (3, .int .i64 mode)] w (by kernel_rfl) ?_
  refine J.callF 19 8 #[] hb8 (by kernel_rfl) (awake_any  _) ?_
  rintro _ w1 ⟨rfl, T1⟩
  have S1 : Sep w [] w1 := S0.trans T1
  clear T1
  refine J.run 10 K3_1 [(23, .bool (b != 0)), (0, .int .i64 a), (1, .int .i64 b), (2, .int .i64 c), (3, .int .i64 mode)] w1 (by kernel_rfl) ?_
  by_cases fk1 : b = 0
  · skip
    refine J.head (.bool false) (congrArg Value.bool (bne_eq_false_iff_eq.2 fk1)) ?_
    refine J.run 16 K3_2 [(50, .int .i64 mode), (49, .int .i64 c), (48, .int .i64 b), (47, .int .i64 a), (0, .int .i64 a), (1, .int .i64 b), (2, .int .i64 c), (3, .int .i64 mode)] w1 (by kernel_rfl) ?_
    refine J.callF 51 9 #[.int .i64 a, .int .i64 b, .int .i64 c, .int .i64 mode] hb9 (by kernel_rfl) (muldiv_any a b c mode _ (by omega) (by omega) (by omega)) ?_
    rintro _ w2 ⟨rfl, T2⟩
    have S2 : Sep w [] w2 := S1.trans T2
    clear T2 S1
    have := mdX_bounds a b c mode
    refine J.run 12 K3_3 [(58, .int .i64 mode), (57, .int .i64 c), (56, .int .i64 a), (55, .int .i64 b), (12, .int .i64 (mdE a b c mode)), (11, .int .i64 (mdX a b c mode)), (0, .int .i64 a), (1, .int .i64 b), (2, .int .i64 c), (3, .int .i64 mode)] w2 (by kernel_rfl) ?_
    refine J.callF 59 9 #[.int .i64 b, .int .i64 a, .int .i64 c, .int .i64 mode] hb9 (by kernel_rfl) (muldiv_any b a c mode _ (by omega) (by omega) (by omega)) ?_
    rintro _ w3 ⟨rfl, T3⟩
    have S3 : Sep w [] w3 := S2.trans T3
    clear T3 S2
    have := mdX_bounds b a c mode
    obtain ⟨hc1, hc2⟩ := md_comm a b c mode
    refine J.run 13 K3_4 [(65, .bool ((mdX a b c mode) != (mdX b a c mode))), (14, .int .i64 (mdE b a c mode)), (12, .int .i64 (mdE a b c mode)), (11, .int .i64 (mdX a b c mode)), (0, .int .i64 a), (1, .int .i64 b), (2, .int .i64 c), (3, .int .i64 mode)] w3 (by kernel_rfl) ?_
    by_cases fk2 : (mdX a b c mode) = (mdX b a c mode)
    · skip
      refine J.head (.bool false) (congrArg Value.bool (bne_eq_false_iff_eq.2 fk2)) ?_
      refine J.run 5 K3_5 [(69, .bool ((mdE a b c mode) != (mdE b a c mode))), (12, .int .i64 (mdE a b c mode)), (11, .int .i64 (mdX a b c mode)), (0, .int .i64 a), (1, .int .i64 b), (2, .int .i64 c), (3, .int .i64 mode)] w3 (by kernel_rfl) ?_
      by_cases fk3 : (mdE a b c mode) = (mdE b a c mode)
      · skip
        refine J.head (.bool false) (congrArg Value.bool (bne_eq_false_iff_eq.2 fk3)) ?_
        refine J.run 8 K3_6 [(72, .bool (decide (a > (-4611686018427387904)))), (12, .int .i64 (mdE a b c mode)), (11, .int .i64 (mdX a b c mode)), (0, .int .i64 a), (1, .int .i64 b), (2, .int .i64 c), (3, .int .i64 mode)] w3 (by kernel_rfl) ?_
        by_cases fk4 : a > (-4611686018427387904)
        · skip
          refine J.head (.bool true) (congrArg Value.bool (decide_eq_true fk4)) ?_
          refine J.run 4 K3_7 [(75, .bool (decide (b > (-4611686018427387904)))), (12, .int .i64 (mdE a b c mode)), (11, .int .i64 (mdX a b c mode)), (0, .int .i64 a), (1, .int .i64 b), (2, .int .i64 c), (3, .int .i64 mode)] w3 (by kernel_rfl) ?_
          by_cases fk5 : b > (-4611686018427387904)
          · skip
            refine J.head (.bool true) (congrArg Value.bool (decide_eq_true fk5)) ?_
            refine J.run 5 K3_8 [(78, .int .i64 (IntKind.wrap .i64 (0 - a))), (12, .int .i64 (mdE a b c mode)), (11, .int .i64 (mdX a b c mode)), (0, .int .i64 a), (1, .int .i64 b), (2, .int .i64 c), (3, .int .i64 mode)] w3 (by kernel_rfl) ?_
            refine J.head (.int .i64 (0 - a)) (congrArg (Value.int .i64) (IntWalk.i64_in _ (by omega))) ?_
            refine J.run 2 K3_9 [(80, .int .i64 (IntKind.wrap .i64 (0 - b))), (78, .int .i64 (0 - a)), (12, .int .i64 (mdE a b c mode)), (11, .int .i64 (mdX a b c mode)), (0, .int .i64 a), (1, .int .i64 b), (2, .int .i64 c), (3, .int .i64 mode)] w3 (by kernel_rfl) ?_
            refine J.head (.int .i64 (0 - b)) (congrArg (Value.int .i64) (IntWalk.i64_in _ (by omega))) ?_
            refine J.run 2 K3_10 [(82, .int .i64 mode), (81, .int .i64 c), (80, .int .i64 (0 - b)), (78, .int .i64 (0 - a)), (12, .int .i64 (mdE a b c mode)), (11, .int .i64 (mdX a b c mode)), (0, .int .i64 a), (1, .int .i64 b), (2, .int .i64 c), (3, .int .i64 mode)] w3 (by kernel_rfl) ?_
            refine J.callF 83 9 #[.int .i64 (0 - a), .int .i64 (0 - b), .int .i64 c, .int .i64 mode] hb9 (by kernel_rfl) (muldiv_any (0 - a) (0 - b) c mode _ (by omega) (by omega) (by omega)) ?_
            rintro _ w4 ⟨rfl, T4⟩
            have S4 : Sep w [] w4 := S3.trans T4
            clear T4 S3
            have := mdX_bounds (0 - a) (0 - b) c mode
            obtain ⟨hn1, hn2⟩ := md_negs a b c mode
            refine J.run 12 K3_11 [(89, .bool ((mdX (0 - a) (0 - b) c mode) != (mdX a b c mode))), (16, .int .i64 (mdE (0 - a) (0 - b) c mode)), (12, .int .i64 (mdE a b c mode)), (11, .int .i64 (mdX a b c mode)), (0, .int .i64 a), (1, .int .i64 b), (2, .int .i64 c), (3, .int .i64 mode)] w4 (by kernel_rfl) ?_
            by_cases fk6 : (mdX (0 - a) (0 - b) c mode) = (mdX a b c mode)
            · skip
              refine J.head (.bool false) (congrArg Value.bool (bne_eq_false_iff_eq.2 fk6)) ?_
              refine J.run 5 K3_12 [(93, .bool ((mdE (0 - a) (0 - b) c mode) != (mdE a b c mode))), (12, .int .i64 (mdE a b c mode)), (11, .int .i64 (mdX a b c mode)), (0, .int .i64 a), (1, .int .i64 b), (2, .int .i64 c), (3, .int .i64 mode)] w4 (by kernel_rfl) ?_
              by_cases fk7 : (mdE (0 - a) (0 - b) c mode) = (mdE a b c mode)
              · skip
                refine J.head (.bool false) (congrArg Value.bool (bne_eq_false_iff_eq.2 fk7)) ?_
                refine J.run 8 K3_13 [(96, .bool (decide (b < 0))), (12, .int .i64 (mdE a b c mode)), (11, .int .i64 (mdX a b c mode)), (0, .int .i64 a), (1, .int .i64 b), (2, .int .i64 c), (3, .int .i64 mode)] w4 (by kernel_rfl) ?_
                by_cases fk8 : b < 0
                · skip
                  refine J.head (.bool true) (congrArg Value.bool (decide_eq_true fk8)) ?_
                  refine J.run 13 K3_14 [(8, .bool true)] w4 (by kernel_rfl) ?_
                  refine J.ret Try.f3 [.bool true] Try.func3 ⟨by kernel_rfl, trivial⟩ ?_
                  refine hR _ _ ?_
                  exact ⟨rfl, S4.nil⟩
                · skip
                  refine J.head (.bool false) (congrArg Value.bool (decide_eq_false fk8)) ?_
                  refine J.run 4 K3_15 [(100, .bool (decide (c < 1))), (12, .int .i64 (mdE a b c mode)), (11, .int .i64 (mdX a b c mode)), (0, .int .i64 a), (1, .int .i64 b), (2, .int .i64 c), (3, .int .i64 mode)] w4 (by kernel_rfl) ?_
                  by_cases fk9 : c < 1
                  · skip
                    refine J.head (.bool true) (congrArg Value.bool (decide_eq_true fk9)) ?_
                    refine J.run 9 K3_16 [(8, .bool true)] w4 (by kernel_rfl) ?_
                    refine J.ret Try.f3 [.bool true] Try.func3 ⟨by kernel_rfl, trivial⟩ ?_
                    refine hR _ _ ?_
                    exact ⟨rfl, S4.nil⟩
                  · skip
                    refine J.head (.bool false) (congrArg Value.bool (decide_eq_false fk9)) ?_
                    refine J.run 4 K3_17 [(103, .bool (a == 9223372036854775807)), (12, .int .i64 (mdE a b c mode)), (11, .int .i64 (mdX a b c mode)), (0, .int .i64 a), (1, .int .i64 b), (2, .int .i64 c), (3, .int .i64 mode)] w4 (by kernel_rfl) ?_
                    by_cases fk10 : a = 9223372036854775807
                    · skip
                      refine J.head (.bool true) (congrArg Value.bool (beq_iff_eq.2 fk10)) ?_
                      refine J.run 5 K3_18 [(8, .bool true)] w4 (by kernel_rfl) ?_
                      refine J.ret Try.f3 [.bool true] Try.func3 ⟨by kernel_rfl, trivial⟩ ?_
                      refine hR _ _ ?_
                      exact ⟨rfl, S4.nil⟩
                    · skip
                      refine J.head (.bool false) (congrArg Value.bool (beq_eq_false_iff_ne.2 fk10)) ?_
                      refine J.run 6 K3_19 [(106, .int .i64 (IntKind.wrap .i64 (a + 1))), (12, .int .i64 (mdE a b c mode)), (11, .int .i64 (mdX a b c mode)), (1, .int .i64 b), (2, .int .i64 c), (3, .int .i64 mode)] w4 (by kernel_rfl) ?_
                      refine J.head (.int .i64 (a + 1)) (congrArg (Value.int .i64) (IntWalk.i64_in _ (by omega))) ?_
                      refine J.run 3 K3_20 [(109, .int .i64 mode), (108, .int .i64 c), (107, .int .i64 b), (106, .int .i64 (a + 1)), (12, .int .i64 (mdE a b c mode)), (11, .int .i64 (mdX a b c mode))] w4 (by kernel_rfl) ?_
                      refine J.callF 110 9 #[.int .i64 (a + 1), .int .i64 b, .int .i64 c, .int .i64 mode] hb9 (by kernel_rfl) (muldiv_any (a + 1) b c mode _ (by omega) (by omega) (by omega)) ?_
                      rintro _ w5 ⟨rfl, T5⟩
                      have S5 : Sep w [] w5 := S4.trans T5
                      clear T5 S4
                      have := mdX_bounds (a + 1) b c mode
                      refine J.run 11 K3_21 [(115, .bool ((mdE a b c mode) != 0)), (18, .int .i64 (mdE (a + 1) b c mode)), (17, .int .i64 (mdX (a + 1) b c mode)), (11, .int .i64 (mdX a b c mode))] w5 (by kernel_rfl) ?_
                      by_cases fk11 : (mdE a b c mode) = 0
                      · skip
                        refine J.head (.bool false) (congrArg Value.bool (bne_eq_false_iff_eq.2 fk11)) ?_
                        refine J.run 4 K3_22 [(119, .bool ((mdE (a + 1) b c mode) != 0)), (17, .int .i64 (mdX (a + 1) b c mode)), (11, .int .i64 (mdX a b c mode))] w5 (by kernel_rfl) ?_
                        by_cases fk12 : (mdE (a + 1) b c mode) = 0
                        · skip
                          refine J.head (.bool false) (congrArg Value.bool (bne_eq_false_iff_eq.2 fk12)) ?_
                          refine J.run 6 K3_23 [(8, .bool (decide ((mdX a b c mode) ≤ (mdX (a + 1) b c mode))))] w5 (by kernel_rfl) ?_
                          refine J.ret Try.f3 [.bool (decide ((mdX a b c mode) ≤ (mdX (a + 1) b c mode)))] Try.func3 ⟨by kernel_rfl, trivial⟩ ?_
                          refine hR _ _ ?_
                          exact ⟨congrArg Value.bool ((decide_eq_true (by have hmono := md_mono (a := a) (b := b) (c := c) (m := mode) (by omega) (by omega) (by omega) (by omega); omega))), S5.nil⟩
                        · skip
                          refine J.head (.bool true) (congrArg Value.bool (bne_iff_ne.2 fk12)) ?_
                          refine J.run 6 K3_24 [(8, .bool true)] w5 (by kernel_rfl) ?_
                          refine J.ret Try.f3 [.bool true] Try.func3 ⟨by kernel_rfl, trivial⟩ ?_
                          refine hR _ _ ?_
                          exact ⟨rfl, S5.nil⟩
                      · skip
                        refine J.head (.bool true) (congrArg Value.bool (bne_iff_ne.2 fk11)) ?_
                        refine J.run 10 K3_25 [(8, .bool true)] w5 (by kernel_rfl) ?_
                        refine J.ret Try.f3 [.bool true] Try.func3 ⟨by kernel_rfl, trivial⟩ ?_
                        refine hR _ _ ?_
                        exact ⟨rfl, S5.nil⟩
              · skip
                refine J.head (.bool true) (congrArg Value.bool (bne_iff_ne.2 fk7)) ?_
                refine J.run 5 K3_26 [(8, .bool false)] w4 (by kernel_rfl) ?_
                refine J.ret Try.f3 [.bool false] Try.func3 ⟨by kernel_rfl, trivial⟩ ?_
                refine hR _ _ ?_
                exfalso
                omega
            · skip
              refine J.head (.bool true) (congrArg Value.bool (bne_iff_ne.2 fk6)) ?_
              refine J.run 10 K3_27 [(8, .bool false)] w4 (by kernel_rfl) ?_
              refine J.ret Try.f3 [.bool false] Try.func3 ⟨by kernel_rfl, trivial⟩ ?_
              refine hR _ _ ?_
              exfalso
              omega
          · skip
            refine J.head (.bool false) (congrArg Value.bool (decide_eq_false fk5)) ?_
            refine J.run 8 K3_28 [(96, .bool (decide (b < 0))), (12, .int .i64 (mdE a b c mode)), (11, .int .i64 (mdX a b c mode)), (0, .int .i64 a), (1, .int .i64 b), (2, .int .i64 c), (3, .int .i64 mode)] w3 (by kernel_rfl) ?_
            by_cases fk13 : b < 0
            · skip
              refine J.head (.bool true) (congrArg Value.bool (decide_eq_true fk13)) ?_
              refine J.run 13 K3_29 [(8, .bool true)] w3 (by kernel_rfl) ?_
              refine J.ret Try.f3 [.bool true] Try.func3 ⟨by kernel_rfl, trivial⟩ ?_
              refine hR _ _ ?_
              exact ⟨rfl, S3.nil⟩
            · skip
              refine J.head (.bool false) (congrArg Value.bool (decide_eq_false fk13)) ?_
              refine J.run 4 K3_30 [(100, .bool (decide (c < 1))), (12, .int .i64 (mdE a b c mode)), (11, .int .i64 (mdX a b c mode)), (0, .int .i64 a), (1, .int .i64 b), (2, .int .i64 c), (3, .int .i64 mode)] w3 (by kernel_rfl) ?_
              by_cases fk14 : c < 1
              · skip
                refine J.head (.bool true) (congrArg Value.bool (decide_eq_true fk14)) ?_
                refine J.run 9 K3_31 [(8, .bool true)] w3 (by kernel_rfl) ?_
                refine J.ret Try.f3 [.bool true] Try.func3 ⟨by kernel_rfl, trivial⟩ ?_
                refine hR _ _ ?_
                exact ⟨rfl, S3.nil⟩
              · skip
                refine J.head (.bool false) (congrArg Value.bool (decide_eq_false fk14)) ?_
                refine J.run 4 K3_32 [(103, .bool (a == 9223372036854775807)), (12, .int .i64 (mdE a b c mode)), (11, .int .i64 (mdX a b c mode)), (0, .int .i64 a), (1, .int .i64 b), (2, .int .i64 c), (3, .int .i64 mode)] w3 (by kernel_rfl) ?_
                by_cases fk15 : a = 9223372036854775807
                · skip
                  refine J.head (.bool true) (congrArg Value.bool (beq_iff_eq.2 fk15)) ?_
                  refine J.run 5 K3_33 [(8, .bool true)] w3 (by kernel_rfl) ?_
                  refine J.ret Try.f3 [.bool true] Try.func3 ⟨by kernel_rfl, trivial⟩ ?_
                  refine hR _ _ ?_
                  exact ⟨rfl, S3.nil⟩
                · skip
                  refine J.head (.bool false) (congrArg Value.bool (beq_eq_false_iff_ne.2 fk15)) ?_
                  refine J.run 6 K3_34 [(106, .int .i64 (IntKind.wrap .i64 (a + 1))), (12, .int .i64 (mdE a b c mode)), (11, .int .i64 (mdX a b c mode)), (1, .int .i64 b), (2, .int .i64 c), (3, .int .i64 mode)] w3 (by kernel_rfl) ?_
                  refine J.head (.int .i64 (a + 1)) (congrArg (Value.int .i64) (IntWalk.i64_in _ (by omega))) ?_
                  refine J.run 3 K3_35 [(109, .int .i64 mode), (108, .int .i64 c), (107, .int .i64 b), (106, .int .i64 (a + 1)), (12, .int .i64 (mdE a b c mode)), (11, .int .i64 (mdX a b c mode))] w3 (by kernel_rfl) ?_
                  refine J.callF 110 9 #[.int .i64 (a + 1), .int .i64 b, .int .i64 c, .int .i64 mode] hb9 (by kernel_rfl) (muldiv_any (a + 1) b c mode _ (by omega) (by omega) (by omega)) ?_
                  rintro _ w6 ⟨rfl, T6⟩
                  have S6 : Sep w [] w6 := S3.trans T6
                  clear T6 S3
                  have := mdX_bounds (a + 1) b c mode
                  refine J.run 11 K3_36 [(115, .bool ((mdE a b c mode) != 0)), (18, .int .i64 (mdE (a + 1) b c mode)), (17, .int .i64 (mdX (a + 1) b c mode)), (11, .int .i64 (mdX a b c mode))] w6 (by kernel_rfl) ?_
                  by_cases fk16 : (mdE a b c mode) = 0
                  · skip
                    refine J.head (.bool false) (congrArg Value.bool (bne_eq_false_iff_eq.2 fk16)) ?_
                    refine J.run 4 K3_37 [(119, .bool ((mdE (a + 1) b c mode) != 0)), (17, .int .i64 (mdX (a + 1) b c mode)), (11, .int .i64 (mdX a b c mode))] w6 (by kernel_rfl) ?_
                    by_cases fk17 : (mdE (a + 1) b c mode) = 0
                    · skip
                      refine J.head (.bool false) (congrArg Value.bool (bne_eq_false_iff_eq.2 fk17)) ?_
                      refine J.run 6 K3_38 [(8, .bool (decide ((mdX a b c mode) ≤ (mdX (a + 1) b c mode))))] w6 (by kernel_rfl) ?_
                      refine J.ret Try.f3 [.bool (decide ((mdX a b c mode) ≤ (mdX (a + 1) b c mode)))] Try.func3 ⟨by kernel_rfl, trivial⟩ ?_
                      refine hR _ _ ?_
                      exact ⟨congrArg Value.bool ((decide_eq_true (by have hmono := md_mono (a := a) (b := b) (c := c) (m := mode) (by omega) (by omega) (by omega) (by omega); omega))), S6.nil⟩
                    · skip
                      refine J.head (.bool true) (congrArg Value.bool (bne_iff_ne.2 fk17)) ?_
                      refine J.run 6 K3_39 [(8, .bool true)] w6 (by kernel_rfl) ?_
                      refine J.ret Try.f3 [.bool true] Try.func3 ⟨by kernel_rfl, trivial⟩ ?_
                      refine hR _ _ ?_
                      exact ⟨rfl, S6.nil⟩
                  · skip
                    refine J.head (.bool true) (congrArg Value.bool (bne_iff_ne.2 fk16)) ?_
                    refine J.run 10 K3_40 [(8, .bool true)] w6 (by kernel_rfl) ?_
                    refine J.ret Try.f3 [.bool true] Try.func3 ⟨by kernel_rfl, trivial⟩ ?_
                    refine hR _ _ ?_
                    exact ⟨rfl, S6.nil⟩
        · skip
          refine J.head (.bool false) (congrArg Value.bool (decide_eq_false fk4)) ?_
          refine J.run 12 K3_41 [(96, .bool (decide (b < 0))), (12, .int .i64 (mdE a b c mode)), (11, .int .i64 (mdX a b c mode)), (0, .int .i64 a), (1, .int .i64 b), (2, .int .i64 c), (3, .int .i64 mode)] w3 (by kernel_rfl) ?_
          by_cases fk18 : b < 0
          · skip
            refine J.head (.bool true) (congrArg Value.bool (decide_eq_true fk18)) ?_
            refine J.run 13 K3_42 [(8, .bool true)] w3 (by kernel_rfl) ?_
            refine J.ret Try.f3 [.bool true] Try.func3 ⟨by kernel_rfl, trivial⟩ ?_
            refine hR _ _ ?_
            exact ⟨rfl, S3.nil⟩
          · skip
            refine J.head (.bool false) (congrArg Value.bool (decide_eq_false fk18)) ?_
            refine J.run 4 K3_43 [(100, .bool (decide (c < 1))), (12, .int .i64 (mdE a b c mode)), (11, .int .i64 (mdX a b c mode)), (0, .int .i64 a), (1, .int .i64 b), (2, .int .i64 c), (3, .int .i64 mode)] w3 (by kernel_rfl) ?_
            by_cases fk19 : c < 1
            · skip
              refine J.head (.bool true) (congrArg Value.bool (decide_eq_true fk19)) ?_
              refine J.run 9 K3_44 [(8, .bool true)] w3 (by kernel_rfl) ?_
              refine J.ret Try.f3 [.bool true] Try.func3 ⟨by kernel_rfl, trivial⟩ ?_
              refine hR _ _ ?_
              exact ⟨rfl, S3.nil⟩
            · skip
              refine J.head (.bool false) (congrArg Value.bool (decide_eq_false fk19)) ?_
              refine J.run 4 K3_45 [(103, .bool (a == 9223372036854775807)), (12, .int .i64 (mdE a b c mode)), (11, .int .i64 (mdX a b c mode)), (0, .int .i64 a), (1, .int .i64 b), (2, .int .i64 c), (3, .int .i64 mode)] w3 (by kernel_rfl) ?_
              by_cases fk20 : a = 9223372036854775807
              · skip
                refine J.head (.bool true) (congrArg Value.bool (beq_iff_eq.2 fk20)) ?_
                refine J.run 5 K3_46 [(8, .bool true)] w3 (by kernel_rfl) ?_
                refine J.ret Try.f3 [.bool true] Try.func3 ⟨by kernel_rfl, trivial⟩ ?_
                refine hR _ _ ?_
                exact ⟨rfl, S3.nil⟩
              · skip
                refine J.head (.bool false) (congrArg Value.bool (beq_eq_false_iff_ne.2 fk20)) ?_
                refine J.run 6 K3_47 [(106, .int .i64 (IntKind.wrap .i64 (a + 1))), (12, .int .i64 (mdE a b c mode)), (11, .int .i64 (mdX a b c mode)), (1, .int .i64 b), (2, .int .i64 c), (3, .int .i64 mode)] w3 (by kernel_rfl) ?_
                refine J.head (.int .i64 (a + 1)) (congrArg (Value.int .i64) (IntWalk.i64_in _ (by omega))) ?_
                refine J.run 3 K3_48 [(109, .int .i64 mode), (108, .int .i64 c), (107, .int .i64 b), (106, .int .i64 (a + 1)), (12, .int .i64 (mdE a b c mode)), (11, .int .i64 (mdX a b c mode))] w3 (by kernel_rfl) ?_
                refine J.callF 110 9 #[.int .i64 (a + 1), .int .i64 b, .int .i64 c, .int .i64 mode] hb9 (by kernel_rfl) (muldiv_any (a + 1) b c mode _ (by omega) (by omega) (by omega)) ?_
                rintro _ w7 ⟨rfl, T7⟩
                have S7 : Sep w [] w7 := S3.trans T7
                clear T7 S3
                have := mdX_bounds (a + 1) b c mode
                refine J.run 11 K3_49 [(115, .bool ((mdE a b c mode) != 0)), (18, .int .i64 (mdE (a + 1) b c mode)), (17, .int .i64 (mdX (a + 1) b c mode)), (11, .int .i64 (mdX a b c mode))] w7 (by kernel_rfl) ?_
                by_cases fk21 : (mdE a b c mode) = 0
                · skip
                  refine J.head (.bool false) (congrArg Value.bool (bne_eq_false_iff_eq.2 fk21)) ?_
                  refine J.run 4 K3_50 [(119, .bool ((mdE (a + 1) b c mode) != 0)), (17, .int .i64 (mdX (a + 1) b c mode)), (11, .int .i64 (mdX a b c mode))] w7 (by kernel_rfl) ?_
                  by_cases fk22 : (mdE (a + 1) b c mode) = 0
                  · skip
                    refine J.head (.bool false) (congrArg Value.bool (bne_eq_false_iff_eq.2 fk22)) ?_
                    refine J.run 6 K3_51 [(8, .bool (decide ((mdX a b c mode) ≤ (mdX (a + 1) b c mode))))] w7 (by kernel_rfl) ?_
                    refine J.ret Try.f3 [.bool (decide ((mdX a b c mode) ≤ (mdX (a + 1) b c mode)))] Try.func3 ⟨by kernel_rfl, trivial⟩ ?_
                    refine hR _ _ ?_
                    exact ⟨congrArg Value.bool ((decide_eq_true (by have hmono := md_mono (a := a) (b := b) (c := c) (m := mode) (by omega) (by omega) (by omega) (by omega); omega))), S7.nil⟩
                  · skip
                    refine J.head (.bool true) (congrArg Value.bool (bne_iff_ne.2 fk22)) ?_
                    refine J.run 6 K3_52 [(8, .bool true)] w7 (by kernel_rfl) ?_
                    refine J.ret Try.f3 [.bool true] Try.func3 ⟨by kernel_rfl, trivial⟩ ?_
                    refine hR _ _ ?_
                    exact ⟨rfl, S7.nil⟩
                · skip
                  refine J.head (.bool true) (congrArg Value.bool (bne_iff_ne.2 fk21)) ?_
                  refine J.run 10 K3_53 [(8, .bool true)] w7 (by kernel_rfl) ?_
                  refine J.ret Try.f3 [.bool true] Try.func3 ⟨by kernel_rfl, trivial⟩ ?_
                  refine hR _ _ ?_
                  exact ⟨rfl, S7.nil⟩
      · skip
        refine J.head (.bool true) (congrArg Value.bool (bne_iff_ne.2 fk3)) ?_
        refine J.run 5 K3_54 [(8, .bool false)] w3 (by kernel_rfl) ?_
        refine J.ret Try.f3 [.bool false] Try.func3 ⟨by kernel_rfl, trivial⟩ ?_
        refine hR _ _ ?_
        exfalso
        omega
    · skip
      refine J.head (.bool true) (congrArg Value.bool (bne_iff_ne.2 fk2)) ?_
      refine J.run 10 K3_55 [(8, .bool false)] w3 (by kernel_rfl) ?_
      refine J.ret Try.f3 [.bool false] Try.func3 ⟨by kernel_rfl, trivial⟩ ?_
      refine hR _ _ ?_
      exfalso
      omega
  · skip
    refine J.head (.bool true) (congrArg Value.bool (bne_iff_ne.2 fk1)) ?_
    refine J.run 4 K3_56 [(27, .bool (decide (mode ≥ 1))), (0, .int .i64 a), (1, .int .i64 b), (2, .int .i64 c), (3, .int .i64 mode)] w1 (by kernel_rfl) ?_
    by_cases fk23 : mode ≥ 1
    · skip
      refine J.head (.bool true) (congrArg Value.bool (decide_eq_true fk23)) ?_
      refine J.run 4 K3_57 [(30, .bool (decide (mode ≤ 3))), (0, .int .i64 a), (1, .int .i64 b), (2, .int .i64 c), (3, .int .i64 mode)] w1 (by kernel_rfl) ?_
      by_cases fk24 : mode ≤ 3
      · skip
        refine J.head (.bool true) (congrArg Value.bool (decide_eq_true fk24)) ?_
        refine J.run 7 K3_58 [(35, .int .i64 mode), (34, .int .i64 b), (33, .int .i64 b), (32, .int .i64 a), (0, .int .i64 a), (1, .int .i64 b), (2, .int .i64 c), (3, .int .i64 mode)] w1 (by kernel_rfl) ?_
        refine J.callF 36 9 #[.int .i64 a, .int .i64 b, .int .i64 b, .int .i64 mode] hb9 (by kernel_rfl) (muldiv_any a b b mode _ (by omega) (by omega) (by omega)) ?_
        rintro _ w8 ⟨rfl, T8⟩
        have S8 : Sep w [] w8 := S1.trans T8
        clear T8 S1
        have := mdX_bounds a b b mode
        obtain ⟨hs1, hs2⟩ := md_same (a := a) (b := b) (m := mode) (by omega) (by omega) (by omega)
        refine J.run 11 K3_59 [(41, .bool ((mdE a b b mode) != 0)), (9, .int .i64 (mdX a b b mode)), (0, .int .i64 a), (1, .int .i64 b), (2, .int .i64 c), (3, .int .i64 mode)] w8 (by kernel_rfl) ?_
        by_cases fk25 : (mdE a b b mode) = 0
        · skip
          refine J.head (.bool false) (congrArg Value.bool (bne_eq_false_iff_eq.2 fk25)) ?_
          refine J.run 5 K3_60 [(45, .bool ((mdX a b b mode) != a)), (0, .int .i64 a), (1, .int .i64 b), (2, .int .i64 c), (3, .int .i64 mode)] w8 (by kernel_rfl) ?_
          by_cases fk26 : (mdX a b b mode) = a
          · skip
            refine J.head (.bool false) (congrArg Value.bool (bne_eq_false_iff_eq.2 fk26)) ?_
            refine J.run 8 K3_61 [(50, .int .i64 mode), (49, .int .i64 c), (48, .int .i64 b), (47, .int .i64 a), (0, .int .i64 a), (1, .int .i64 b), (2, .int .i64 c), (3, .int .i64 mode)] w8 (by kernel_rfl) ?_
            refine J.callF 51 9 #[.int .i64 a, .int .i64 b, .int .i64 c, .int .i64 mode] hb9 (by kernel_rfl) (muldiv_any a b c mode _ (by omega) (by omega) (by omega)) ?_
            rintro _ w9 ⟨rfl, T9⟩
            have S9 : Sep w [] w9 := S8.trans T9
            clear T9 S8
            have := mdX_bounds a b c mode
            refine J.run 12 K3_62 [(58, .int .i64 mode), (57, .int .i64 c), (56, .int .i64 a), (55, .int .i64 b), (12, .int .i64 (mdE a b c mode)), (11, .int .i64 (mdX a b c mode)), (0, .int .i64 a), (1, .int .i64 b), (2, .int .i64 c), (3, .int .i64 mode)] w9 (by kernel_rfl) ?_
            refine J.callF 59 9 #[.int .i64 b, .int .i64 a, .int .i64 c, .int .i64 mode] hb9 (by kernel_rfl) (muldiv_any b a c mode _ (by omega) (by omega) (by omega)) ?_
            rintro _ w10 ⟨rfl, T10⟩
            have S10 : Sep w [] w10 := S9.trans T10
            clear T10 S9
            have := mdX_bounds b a c mode
            obtain ⟨hc1, hc2⟩ := md_comm a b c mode
            refine J.run 13 K3_63 [(65, .bool ((mdX a b c mode) != (mdX b a c mode))), (14, .int .i64 (mdE b a c mode)), (12, .int .i64 (mdE a b c mode)), (11, .int .i64 (mdX a b c mode)), (0, .int .i64 a), (1, .int .i64 b), (2, .int .i64 c), (3, .int .i64 mode)] w10 (by kernel_rfl) ?_
            by_cases fk27 : (mdX a b c mode) = (mdX b a c mode)
            · skip
              refine J.head (.bool false) (congrArg Value.bool (bne_eq_false_iff_eq.2 fk27)) ?_
              refine J.run 5 K3_64 [(69, .bool ((mdE a b c mode) != (mdE b a c mode))), (12, .int .i64 (mdE a b c mode)), (11, .int .i64 (mdX a b c mode)), (0, .int .i64 a), (1, .int .i64 b), (2, .int .i64 c), (3, .int .i64 mode)] w10 (by kernel_rfl) ?_
              by_cases fk28 : (mdE a b c mode) = (mdE b a c mode)
              · skip
                refine J.head (.bool false) (congrArg Value.bool (bne_eq_false_iff_eq.2 fk28)) ?_
                refine J.run 8 K3_65 [(72, .bool (decide (a > (-4611686018427387904)))), (12, .int .i64 (mdE a b c mode)), (11, .int .i64 (mdX a b c mode)), (0, .int .i64 a), (1, .int .i64 b), (2, .int .i64 c), (3, .int .i64 mode)] w10 (by kernel_rfl) ?_
                by_cases fk29 : a > (-4611686018427387904)
                · skip
                  refine J.head (.bool true) (congrArg Value.bool (decide_eq_true fk29)) ?_
                  refine J.run 4 K3_66 [(75, .bool (decide (b > (-4611686018427387904)))), (12, .int .i64 (mdE a b c mode)), (11, .int .i64 (mdX a b c mode)), (0, .int .i64 a), (1, .int .i64 b), (2, .int .i64 c), (3, .int .i64 mode)] w10 (by kernel_rfl) ?_
                  by_cases fk30 : b > (-4611686018427387904)
                  · skip
                    refine J.head (.bool true) (congrArg Value.bool (decide_eq_true fk30)) ?_
                    refine J.run 5 K3_67 [(78, .int .i64 (IntKind.wrap .i64 (0 - a))), (12, .int .i64 (mdE a b c mode)), (11, .int .i64 (mdX a b c mode)), (0, .int .i64 a), (1, .int .i64 b), (2, .int .i64 c), (3, .int .i64 mode)] w10 (by kernel_rfl) ?_
                    refine J.head (.int .i64 (0 - a)) (congrArg (Value.int .i64) (IntWalk.i64_in _ (by omega))) ?_
                    refine J.run 2 K3_68 [(80, .int .i64 (IntKind.wrap .i64 (0 - b))), (78, .int .i64 (0 - a)), (12, .int .i64 (mdE a b c mode)), (11, .int .i64 (mdX a b c mode)), (0, .int .i64 a), (1, .int .i64 b), (2, .int .i64 c), (3, .int .i64 mode)] w10 (by kernel_rfl) ?_
                    refine J.head (.int .i64 (0 - b)) (congrArg (Value.int .i64) (IntWalk.i64_in _ (by omega))) ?_
                    refine J.run 2 K3_69 [(82, .int .i64 mode), (81, .int .i64 c), (80, .int .i64 (0 - b)), (78, .int .i64 (0 - a)), (12, .int .i64 (mdE a b c mode)), (11, .int .i64 (mdX a b c mode)), (0, .int .i64 a), (1, .int .i64 b), (2, .int .i64 c), (3, .int .i64 mode)] w10 (by kernel_rfl) ?_
                    refine J.callF 83 9 #[.int .i64 (0 - a), .int .i64 (0 - b), .int .i64 c, .int .i64 mode] hb9 (by kernel_rfl) (muldiv_any (0 - a) (0 - b) c mode _ (by omega) (by omega) (by omega)) ?_
                    rintro _ w11 ⟨rfl, T11⟩
                    have S11 : Sep w [] w11 := S10.trans T11
                    clear T11 S10
                    have := mdX_bounds (0 - a) (0 - b) c mode
                    obtain ⟨hn1, hn2⟩ := md_negs a b c mode
                    refine J.run 12 K3_70 [(89, .bool ((mdX (0 - a) (0 - b) c mode) != (mdX a b c mode))), (16, .int .i64 (mdE (0 - a) (0 - b) c mode)), (12, .int .i64 (mdE a b c mode)), (11, .int .i64 (mdX a b c mode)), (0, .int .i64 a), (1, .int .i64 b), (2, .int .i64 c), (3, .int .i64 mode)] w11 (by kernel_rfl) ?_
                    by_cases fk31 : (mdX (0 - a) (0 - b) c mode) = (mdX a b c mode)
                    · skip
                      refine J.head (.bool false) (congrArg Value.bool (bne_eq_false_iff_eq.2 fk31)) ?_
                      refine J.run 5 K3_71 [(93, .bool ((mdE (0 - a) (0 - b) c mode) != (mdE a b c mode))), (12, .int .i64 (mdE a b c mode)), (11, .int .i64 (mdX a b c mode)), (0, .int .i64 a), (1, .int .i64 b), (2, .int .i64 c), (3, .int .i64 mode)] w11 (by kernel_rfl) ?_
                      by_cases fk32 : (mdE (0 - a) (0 - b) c mode) = (mdE a b c mode)
                      · skip
                        refine J.head (.bool false) (congrArg Value.bool (bne_eq_false_iff_eq.2 fk32)) ?_
                        refine J.run 8 K3_72 [(96, .bool (decide (b < 0))), (12, .int .i64 (mdE a b c mode)), (11, .int .i64 (mdX a b c mode)), (0, .int .i64 a), (1, .int .i64 b), (2, .int .i64 c), (3, .int .i64 mode)] w11 (by kernel_rfl) ?_
                        by_cases fk33 : b < 0
                        · skip
                          refine J.head (.bool true) (congrArg Value.bool (decide_eq_true fk33)) ?_
                          refine J.run 13 K3_73 [(8, .bool true)] w11 (by kernel_rfl) ?_
                          refine J.ret Try.f3 [.bool true] Try.func3 ⟨by kernel_rfl, trivial⟩ ?_
                          refine hR _ _ ?_
                          exact ⟨rfl, S11.nil⟩
                        · skip
                          refine J.head (.bool false) (congrArg Value.bool (decide_eq_false fk33)) ?_
                          refine J.run 4 K3_74 [(100, .bool (decide (c < 1))), (12, .int .i64 (mdE a b c mode)), (11, .int .i64 (mdX a b c mode)), (0, .int .i64 a), (1, .int .i64 b), (2, .int .i64 c), (3, .int .i64 mode)] w11 (by kernel_rfl) ?_
                          by_cases fk34 : c < 1
                          · skip
                            refine J.head (.bool true) (congrArg Value.bool (decide_eq_true fk34)) ?_
                            refine J.run 9 K3_75 [(8, .bool true)] w11 (by kernel_rfl) ?_
                            refine J.ret Try.f3 [.bool true] Try.func3 ⟨by kernel_rfl, trivial⟩ ?_
                            refine hR _ _ ?_
                            exact ⟨rfl, S11.nil⟩
                          · skip
                            refine J.head (.bool false) (congrArg Value.bool (decide_eq_false fk34)) ?_
                            refine J.run 4 K3_76 [(103, .bool (a == 9223372036854775807)), (12, .int .i64 (mdE a b c mode)), (11, .int .i64 (mdX a b c mode)), (0, .int .i64 a), (1, .int .i64 b), (2, .int .i64 c), (3, .int .i64 mode)] w11 (by kernel_rfl) ?_
                            by_cases fk35 : a = 9223372036854775807
                            · skip
                              refine J.head (.bool true) (congrArg Value.bool (beq_iff_eq.2 fk35)) ?_
                              refine J.run 5 K3_77 [(8, .bool true)] w11 (by kernel_rfl) ?_
                              refine J.ret Try.f3 [.bool true] Try.func3 ⟨by kernel_rfl, trivial⟩ ?_
                              refine hR _ _ ?_
                              exact ⟨rfl, S11.nil⟩
                            · skip
                              refine J.head (.bool false) (congrArg Value.bool (beq_eq_false_iff_ne.2 fk35)) ?_
                              refine J.run 6 K3_78 [(106, .int .i64 (IntKind.wrap .i64 (a + 1))), (12, .int .i64 (mdE a b c mode)), (11, .int .i64 (mdX a b c mode)), (1, .int .i64 b), (2, .int .i64 c), (3, .int .i64 mode)] w11 (by kernel_rfl) ?_
                              refine J.head (.int .i64 (a + 1)) (congrArg (Value.int .i64) (IntWalk.i64_in _ (by omega))) ?_
                              refine J.run 3 K3_79 [(109, .int .i64 mode), (108, .int .i64 c), (107, .int .i64 b), (106, .int .i64 (a + 1)), (12, .int .i64 (mdE a b c mode)), (11, .int .i64 (mdX a b c mode))] w11 (by kernel_rfl) ?_
                              refine J.callF 110 9 #[.int .i64 (a + 1), .int .i64 b, .int .i64 c, .int .i64 mode] hb9 (by kernel_rfl) (muldiv_any (a + 1) b c mode _ (by omega) (by omega) (by omega)) ?_
                              rintro _ w12 ⟨rfl, T12⟩
                              have S12 : Sep w [] w12 := S11.trans T12
                              clear T12 S11
                              have := mdX_bounds (a + 1) b c mode
                              refine J.run 11 K3_80 [(115, .bool ((mdE a b c mode) != 0)), (18, .int .i64 (mdE (a + 1) b c mode)), (17, .int .i64 (mdX (a + 1) b c mode)), (11, .int .i64 (mdX a b c mode))] w12 (by kernel_rfl) ?_
                              by_cases fk36 : (mdE a b c mode) = 0
                              · skip
                                refine J.head (.bool false) (congrArg Value.bool (bne_eq_false_iff_eq.2 fk36)) ?_
                                refine J.run 4 K3_81 [(119, .bool ((mdE (a + 1) b c mode) != 0)), (17, .int .i64 (mdX (a + 1) b c mode)), (11, .int .i64 (mdX a b c mode))] w12 (by kernel_rfl) ?_
                                by_cases fk37 : (mdE (a + 1) b c mode) = 0
                                · skip
                                  refine J.head (.bool false) (congrArg Value.bool (bne_eq_false_iff_eq.2 fk37)) ?_
                                  refine J.run 6 K3_82 [(8, .bool (decide ((mdX a b c mode) ≤ (mdX (a + 1) b c mode))))] w12 (by kernel_rfl) ?_
                                  refine J.ret Try.f3 [.bool (decide ((mdX a b c mode) ≤ (mdX (a + 1) b c mode)))] Try.func3 ⟨by kernel_rfl, trivial⟩ ?_
                                  refine hR _ _ ?_
                                  exact ⟨congrArg Value.bool ((decide_eq_true (by have hmono := md_mono (a := a) (b := b) (c := c) (m := mode) (by omega) (by omega) (by omega) (by omega); omega))), S12.nil⟩
                                · skip
                                  refine J.head (.bool true) (congrArg Value.bool (bne_iff_ne.2 fk37)) ?_
                                  refine J.run 6 K3_83 [(8, .bool true)] w12 (by kernel_rfl) ?_
                                  refine J.ret Try.f3 [.bool true] Try.func3 ⟨by kernel_rfl, trivial⟩ ?_
                                  refine hR _ _ ?_
                                  exact ⟨rfl, S12.nil⟩
                              · skip
                                refine J.head (.bool true) (congrArg Value.bool (bne_iff_ne.2 fk36)) ?_
                                refine J.run 10 K3_84 [(8, .bool true)] w12 (by kernel_rfl) ?_
                                refine J.ret Try.f3 [.bool true] Try.func3 ⟨by kernel_rfl, trivial⟩ ?_
                                refine hR _ _ ?_
                                exact ⟨rfl, S12.nil⟩
                      · skip
                        refine J.head (.bool true) (congrArg Value.bool (bne_iff_ne.2 fk32)) ?_
                        refine J.run 5 K3_85 [(8, .bool false)] w11 (by kernel_rfl) ?_
                        refine J.ret Try.f3 [.bool false] Try.func3 ⟨by kernel_rfl, trivial⟩ ?_
                        refine hR _ _ ?_
                        exfalso
                        omega
                    · skip
                      refine J.head (.bool true) (congrArg Value.bool (bne_iff_ne.2 fk31)) ?_
                      refine J.run 10 K3_86 [(8, .bool false)] w11 (by kernel_rfl) ?_
                      refine J.ret Try.f3 [.bool false] Try.func3 ⟨by kernel_rfl, trivial⟩ ?_
                      refine hR _ _ ?_
                      exfalso
                      omega
                  · skip
                    refine J.head (.bool false) (congrArg Value.bool (decide_eq_false fk30)) ?_
                    refine J.run 8 K3_87 [(96, .bool (decide (b < 0))), (12, .int .i64 (mdE a b c mode)), (11, .int .i64 (mdX a b c mode)), (0, .int .i64 a), (1, .int .i64 b), (2, .int .i64 c), (3, .int .i64 mode)] w10 (by kernel_rfl) ?_
                    by_cases fk38 : b < 0
                    · skip
                      refine J.head (.bool true) (congrArg Value.bool (decide_eq_true fk38)) ?_
                      refine J.run 13 K3_88 [(8, .bool true)] w10 (by kernel_rfl) ?_
                      refine J.ret Try.f3 [.bool true] Try.func3 ⟨by kernel_rfl, trivial⟩ ?_
                      refine hR _ _ ?_
                      exact ⟨rfl, S10.nil⟩
                    · skip
                      refine J.head (.bool false) (congrArg Value.bool (decide_eq_false fk38)) ?_
                      refine J.run 4 K3_89 [(100, .bool (decide (c < 1))), (12, .int .i64 (mdE a b c mode)), (11, .int .i64 (mdX a b c mode)), (0, .int .i64 a), (1, .int .i64 b), (2, .int .i64 c), (3, .int .i64 mode)] w10 (by kernel_rfl) ?_
                      by_cases fk39 : c < 1
                      · skip
                        refine J.head (.bool true) (congrArg Value.bool (decide_eq_true fk39)) ?_
                        refine J.run 9 K3_90 [(8, .bool true)] w10 (by kernel_rfl) ?_
                        refine J.ret Try.f3 [.bool true] Try.func3 ⟨by kernel_rfl, trivial⟩ ?_
                        refine hR _ _ ?_
                        exact ⟨rfl, S10.nil⟩
                      · skip
                        refine J.head (.bool false) (congrArg Value.bool (decide_eq_false fk39)) ?_
                        refine J.run 4 K3_91 [(103, .bool (a == 9223372036854775807)), (12, .int .i64 (mdE a b c mode)), (11, .int .i64 (mdX a b c mode)), (0, .int .i64 a), (1, .int .i64 b), (2, .int .i64 c), (3, .int .i64 mode)] w10 (by kernel_rfl) ?_
                        by_cases fk40 : a = 9223372036854775807
                        · skip
                          refine J.head (.bool true) (congrArg Value.bool (beq_iff_eq.2 fk40)) ?_
                          refine J.run 5 K3_92 [(8, .bool true)] w10 (by kernel_rfl) ?_
                          refine J.ret Try.f3 [.bool true] Try.func3 ⟨by kernel_rfl, trivial⟩ ?_
                          refine hR _ _ ?_
                          exact ⟨rfl, S10.nil⟩
                        · skip
                          refine J.head (.bool false) (congrArg Value.bool (beq_eq_false_iff_ne.2 fk40)) ?_
                          refine J.run 6 K3_93 [(106, .int .i64 (IntKind.wrap .i64 (a + 1))), (12, .int .i64 (mdE a b c mode)), (11, .int .i64 (mdX a b c mode)), (1, .int .i64 b), (2, .int .i64 c), (3, .int .i64 mode)] w10 (by kernel_rfl) ?_
                          refine J.head (.int .i64 (a + 1)) (congrArg (Value.int .i64) (IntWalk.i64_in _ (by omega))) ?_
                          refine J.run 3 K3_94 [(109, .int .i64 mode), (108, .int .i64 c), (107, .int .i64 b), (106, .int .i64 (a + 1)), (12, .int .i64 (mdE a b c mode)), (11, .int .i64 (mdX a b c mode))] w10 (by kernel_rfl) ?_
                          refine J.callF 110 9 #[.int .i64 (a + 1), .int .i64 b, .int .i64 c, .int .i64 mode] hb9 (by kernel_rfl) (muldiv_any (a + 1) b c mode _ (by omega) (by omega) (by omega)) ?_
                          rintro _ w13 ⟨rfl, T13⟩
                          have S13 : Sep w [] w13 := S10.trans T13
                          clear T13 S10
                          have := mdX_bounds (a + 1) b c mode
                          refine J.run 11 K3_95 [(115, .bool ((mdE a b c mode) != 0)), (18, .int .i64 (mdE (a + 1) b c mode)), (17, .int .i64 (mdX (a + 1) b c mode)), (11, .int .i64 (mdX a b c mode))] w13 (by kernel_rfl) ?_
                          by_cases fk41 : (mdE a b c mode) = 0
                          · skip
                            refine J.head (.bool false) (congrArg Value.bool (bne_eq_false_iff_eq.2 fk41)) ?_
                            refine J.run 4 K3_96 [(119, .bool ((mdE (a + 1) b c mode) != 0)), (17, .int .i64 (mdX (a + 1) b c mode)), (11, .int .i64 (mdX a b c mode))] w13 (by kernel_rfl) ?_
                            by_cases fk42 : (mdE (a + 1) b c mode) = 0
                            · skip
                              refine J.head (.bool false) (congrArg Value.bool (bne_eq_false_iff_eq.2 fk42)) ?_
                              refine J.run 6 K3_97 [(8, .bool (decide ((mdX a b c mode) ≤ (mdX (a + 1) b c mode))))] w13 (by kernel_rfl) ?_
                              refine J.ret Try.f3 [.bool (decide ((mdX a b c mode) ≤ (mdX (a + 1) b c mode)))] Try.func3 ⟨by kernel_rfl, trivial⟩ ?_
                              refine hR _ _ ?_
                              exact ⟨congrArg Value.bool ((decide_eq_true (by have hmono := md_mono (a := a) (b := b) (c := c) (m := mode) (by omega) (by omega) (by omega) (by omega); omega))), S13.nil⟩
                            · skip
                              refine J.head (.bool true) (congrArg Value.bool (bne_iff_ne.2 fk42)) ?_
                              refine J.run 6 K3_98 [(8, .bool true)] w13 (by kernel_rfl) ?_
                              refine J.ret Try.f3 [.bool true] Try.func3 ⟨by kernel_rfl, trivial⟩ ?_
                              refine hR _ _ ?_
                              exact ⟨rfl, S13.nil⟩
                          · skip
                            refine J.head (.bool true) (congrArg Value.bool (bne_iff_ne.2 fk41)) ?_
                            refine J.run 10 K3_99 [(8, .bool true)] w13 (by kernel_rfl) ?_
                            refine J.ret Try.f3 [.bool true] Try.func3 ⟨by kernel_rfl, trivial⟩ ?_
                            refine hR _ _ ?_
                            exact ⟨rfl, S13.nil⟩
                · skip
                  refine J.head (.bool false) (congrArg Value.bool (decide_eq_false fk29)) ?_
                  refine J.run 12 K3_100 [(96, .bool (decide (b < 0))), (12, .int .i64 (mdE a b c mode)), (11, .int .i64 (mdX a b c mode)), (0, .int .i64 a), (1, .int .i64 b), (2, .int .i64 c), (3, .int .i64 mode)] w10 (by kernel_rfl) ?_
                  by_cases fk43 : b < 0
                  · skip
                    refine J.head (.bool true) (congrArg Value.bool (decide_eq_true fk43)) ?_
                    refine J.run 13 K3_101 [(8, .bool true)] w10 (by kernel_rfl) ?_
                    refine J.ret Try.f3 [.bool true] Try.func3 ⟨by kernel_rfl, trivial⟩ ?_
                    refine hR _ _ ?_
                    exact ⟨rfl, S10.nil⟩
                  · skip
                    refine J.head (.bool false) (congrArg Value.bool (decide_eq_false fk43)) ?_
                    refine J.run 4 K3_102 [(100, .bool (decide (c < 1))), (12, .int .i64 (mdE a b c mode)), (11, .int .i64 (mdX a b c mode)), (0, .int .i64 a), (1, .int .i64 b), (2, .int .i64 c), (3, .int .i64 mode)] w10 (by kernel_rfl) ?_
                    by_cases fk44 : c < 1
                    · skip
                      refine J.head (.bool true) (congrArg Value.bool (decide_eq_true fk44)) ?_
                      refine J.run 9 K3_103 [(8, .bool true)] w10 (by kernel_rfl) ?_
                      refine J.ret Try.f3 [.bool true] Try.func3 ⟨by kernel_rfl, trivial⟩ ?_
                      refine hR _ _ ?_
                      exact ⟨rfl, S10.nil⟩
                    · skip
                      refine J.head (.bool false) (congrArg Value.bool (decide_eq_false fk44)) ?_
                      refine J.run 4 K3_104 [(103, .bool (a == 9223372036854775807)), (12, .int .i64 (mdE a b c mode)), (11, .int .i64 (mdX a b c mode)), (0, .int .i64 a), (1, .int .i64 b), (2, .int .i64 c), (3, .int .i64 mode)] w10 (by kernel_rfl) ?_
                      by_cases fk45 : a = 9223372036854775807
                      · skip
                        refine J.head (.bool true) (congrArg Value.bool (beq_iff_eq.2 fk45)) ?_
                        refine J.run 5 K3_105 [(8, .bool true)] w10 (by kernel_rfl) ?_
                        refine J.ret Try.f3 [.bool true] Try.func3 ⟨by kernel_rfl, trivial⟩ ?_
                        refine hR _ _ ?_
                        exact ⟨rfl, S10.nil⟩
                      · skip
                        refine J.head (.bool false) (congrArg Value.bool (beq_eq_false_iff_ne.2 fk45)) ?_
                        refine J.run 6 K3_106 [(106, .int .i64 (IntKind.wrap .i64 (a + 1))), (12, .int .i64 (mdE a b c mode)), (11, .int .i64 (mdX a b c mode)), (1, .int .i64 b), (2, .int .i64 c), (3, .int .i64 mode)] w10 (by kernel_rfl) ?_
                        refine J.head (.int .i64 (a + 1)) (congrArg (Value.int .i64) (IntWalk.i64_in _ (by omega))) ?_
                        refine J.run 3 K3_107 [(109, .int .i64 mode), (108, .int .i64 c), (107, .int .i64 b), (106, .int .i64 (a + 1)), (12, .int .i64 (mdE a b c mode)), (11, .int .i64 (mdX a b c mode))] w10 (by kernel_rfl) ?_
                        refine J.callF 110 9 #[.int .i64 (a + 1), .int .i64 b, .int .i64 c, .int .i64 mode] hb9 (by kernel_rfl) (muldiv_any (a + 1) b c mode _ (by omega) (by omega) (by omega)) ?_
                        rintro _ w14 ⟨rfl, T14⟩
                        have S14 : Sep w [] w14 := S10.trans T14
                        clear T14 S10
                        have := mdX_bounds (a + 1) b c mode
                        refine J.run 11 K3_108 [(115, .bool ((mdE a b c mode) != 0)), (18, .int .i64 (mdE (a + 1) b c mode)), (17, .int .i64 (mdX (a + 1) b c mode)), (11, .int .i64 (mdX a b c mode))] w14 (by kernel_rfl) ?_
                        by_cases fk46 : (mdE a b c mode) = 0
                        · skip
                          refine J.head (.bool false) (congrArg Value.bool (bne_eq_false_iff_eq.2 fk46)) ?_
                          refine J.run 4 K3_109 [(119, .bool ((mdE (a + 1) b c mode) != 0)), (17, .int .i64 (mdX (a + 1) b c mode)), (11, .int .i64 (mdX a b c mode))] w14 (by kernel_rfl) ?_
                          by_cases fk47 : (mdE (a + 1) b c mode) = 0
                          · skip
                            refine J.head (.bool false) (congrArg Value.bool (bne_eq_false_iff_eq.2 fk47)) ?_
                            refine J.run 6 K3_110 [(8, .bool (decide ((mdX a b c mode) ≤ (mdX (a + 1) b c mode))))] w14 (by kernel_rfl) ?_
                            refine J.ret Try.f3 [.bool (decide ((mdX a b c mode) ≤ (mdX (a + 1) b c mode)))] Try.func3 ⟨by kernel_rfl, trivial⟩ ?_
                            refine hR _ _ ?_
                            exact ⟨congrArg Value.bool ((decide_eq_true (by have hmono := md_mono (a := a) (b := b) (c := c) (m := mode) (by omega) (by omega) (by omega) (by omega); omega))), S14.nil⟩
                          · skip
                            refine J.head (.bool true) (congrArg Value.bool (bne_iff_ne.2 fk47)) ?_
                            refine J.run 6 K3_111 [(8, .bool true)] w14 (by kernel_rfl) ?_
                            refine J.ret Try.f3 [.bool true] Try.func3 ⟨by kernel_rfl, trivial⟩ ?_
                            refine hR _ _ ?_
                            exact ⟨rfl, S14.nil⟩
                        · skip
                          refine J.head (.bool true) (congrArg Value.bool (bne_iff_ne.2 fk46)) ?_
                          refine J.run 10 K3_112 [(8, .bool true)] w14 (by kernel_rfl) ?_
                          refine J.ret Try.f3 [.bool true] Try.func3 ⟨by kernel_rfl, trivial⟩ ?_
                          refine hR _ _ ?_
                          exact ⟨rfl, S14.nil⟩
              · skip
                refine J.head (.bool true) (congrArg Value.bool (bne_iff_ne.2 fk28)) ?_
                refine J.run 5 K3_113 [(8, .bool false)] w10 (by kernel_rfl) ?_
                refine J.ret Try.f3 [.bool false] Try.func3 ⟨by kernel_rfl, trivial⟩ ?_
                refine hR _ _ ?_
                exfalso
                omega
            · skip
              refine J.head (.bool true) (congrArg Value.bool (bne_iff_ne.2 fk27)) ?_
              refine J.run 10 K3_114 [(8, .bool false)] w10 (by kernel_rfl) ?_
              refine J.ret Try.f3 [.bool false] Try.func3 ⟨by kernel_rfl, trivial⟩ ?_
              refine hR _ _ ?_
              exfalso
              omega
          · skip
            refine J.head (.bool true) (congrArg Value.bool (bne_iff_ne.2 fk26)) ?_
            refine J.run 5 K3_115 [(8, .bool false)] w8 (by kernel_rfl) ?_
            refine J.ret Try.f3 [.bool false] Try.func3 ⟨by kernel_rfl, trivial⟩ ?_
            refine hR _ _ ?_
            exfalso
            omega
        · skip
          refine J.head (.bool true) (congrArg Value.bool (bne_iff_ne.2 fk25)) ?_
          refine J.run 10 K3_116 [(8, .bool false)] w8 (by kernel_rfl) ?_
          refine J.ret Try.f3 [.bool false] Try.func3 ⟨by kernel_rfl, trivial⟩ ?_
          refine hR _ _ ?_
          exfalso
          omega
      · skip
        refine J.head (.bool false) (congrArg Value.bool (decide_eq_false fk24)) ?_
        refine J.run 8 K3_117 [(50, .int .i64 mode), (49, .int .i64 c), (48, .int .i64 b), (47, .int .i64 a), (0, .int .i64 a), (1, .int .i64 b), (2, .int .i64 c), (3, .int .i64 mode)] w1 (by kernel_rfl) ?_
        refine J.callF 51 9 #[.int .i64 a, .int .i64 b, .int .i64 c, .int .i64 mode] hb9 (by kernel_rfl) (muldiv_any a b c mode _ (by omega) (by omega) (by omega)) ?_
        rintro _ w15 ⟨rfl, T15⟩
        have S15 : Sep w [] w15 := S1.trans T15
        clear T15 S1
        have := mdX_bounds a b c mode
        refine J.run 12 K3_118 [(58, .int .i64 mode), (57, .int .i64 c), (56, .int .i64 a), (55, .int .i64 b), (12, .int .i64 (mdE a b c mode)), (11, .int .i64 (mdX a b c mode)), (0, .int .i64 a), (1, .int .i64 b), (2, .int .i64 c), (3, .int .i64 mode)] w15 (by kernel_rfl) ?_
        refine J.callF 59 9 #[.int .i64 b, .int .i64 a, .int .i64 c, .int .i64 mode] hb9 (by kernel_rfl) (muldiv_any b a c mode _ (by omega) (by omega) (by omega)) ?_
        rintro _ w16 ⟨rfl, T16⟩
        have S16 : Sep w [] w16 := S15.trans T16
        clear T16 S15
        have := mdX_bounds b a c mode
        obtain ⟨hc1, hc2⟩ := md_comm a b c mode
        refine J.run 13 K3_119 [(65, .bool ((mdX a b c mode) != (mdX b a c mode))), (14, .int .i64 (mdE b a c mode)), (12, .int .i64 (mdE a b c mode)), (11, .int .i64 (mdX a b c mode)), (0, .int .i64 a), (1, .int .i64 b), (2, .int .i64 c), (3, .int .i64 mode)] w16 (by kernel_rfl) ?_
        by_cases fk48 : (mdX a b c mode) = (mdX b a c mode)
        · skip
          refine J.head (.bool false) (congrArg Value.bool (bne_eq_false_iff_eq.2 fk48)) ?_
          refine J.run 5 K3_120 [(69, .bool ((mdE a b c mode) != (mdE b a c mode))), (12, .int .i64 (mdE a b c mode)), (11, .int .i64 (mdX a b c mode)), (0, .int .i64 a), (1, .int .i64 b), (2, .int .i64 c), (3, .int .i64 mode)] w16 (by kernel_rfl) ?_
          by_cases fk49 : (mdE a b c mode) = (mdE b a c mode)
          · skip
            refine J.head (.bool false) (congrArg Value.bool (bne_eq_false_iff_eq.2 fk49)) ?_
            refine J.run 8 K3_121 [(72, .bool (decide (a > (-4611686018427387904)))), (12, .int .i64 (mdE a b c mode)), (11, .int .i64 (mdX a b c mode)), (0, .int .i64 a), (1, .int .i64 b), (2, .int .i64 c), (3, .int .i64 mode)] w16 (by kernel_rfl) ?_
            by_cases fk50 : a > (-4611686018427387904)
            · skip
              refine J.head (.bool true) (congrArg Value.bool (decide_eq_true fk50)) ?_
              refine J.run 4 K3_122 [(75, .bool (decide (b > (-4611686018427387904)))), (12, .int .i64 (mdE a b c mode)), (11, .int .i64 (mdX a b c mode)), (0, .int .i64 a), (1, .int .i64 b), (2, .int .i64 c), (3, .int .i64 mode)] w16 (by kernel_rfl) ?_
              by_cases fk51 : b > (-4611686018427387904)
              · skip
                refine J.head (.bool true) (congrArg Value.bool (decide_eq_true fk51)) ?_
                refine J.run 5 K3_123 [(78, .int .i64 (IntKind.wrap .i64 (0 - a))), (12, .int .i64 (mdE a b c mode)), (11, .int .i64 (mdX a b c mode)), (0, .int .i64 a), (1, .int .i64 b), (2, .int .i64 c), (3, .int .i64 mode)] w16 (by kernel_rfl) ?_
                refine J.head (.int .i64 (0 - a)) (congrArg (Value.int .i64) (IntWalk.i64_in _ (by omega))) ?_
                refine J.run 2 K3_124 [(80, .int .i64 (IntKind.wrap .i64 (0 - b))), (78, .int .i64 (0 - a)), (12, .int .i64 (mdE a b c mode)), (11, .int .i64 (mdX a b c mode)), (0, .int .i64 a), (1, .int .i64 b), (2, .int .i64 c), (3, .int .i64 mode)] w16 (by kernel_rfl) ?_
                refine J.head (.int .i64 (0 - b)) (congrArg (Value.int .i64) (IntWalk.i64_in _ (by omega))) ?_
                refine J.run 2 K3_125 [(82, .int .i64 mode), (81, .int .i64 c), (80, .int .i64 (0 - b)), (78, .int .i64 (0 - a)), (12, .int .i64 (mdE a b c mode)), (11, .int .i64 (mdX a b c mode)), (0, .int .i64 a), (1, .int .i64 b), (2, .int .i64 c), (3, .int .i64 mode)] w16 (by kernel_rfl) ?_
                refine J.callF 83 9 #[.int .i64 (0 - a), .int .i64 (0 - b), .int .i64 c, .int .i64 mode] hb9 (by kernel_rfl) (muldiv_any (0 - a) (0 - b) c mode _ (by omega) (by omega) (by omega)) ?_
                rintro _ w17 ⟨rfl, T17⟩
                have S17 : Sep w [] w17 := S16.trans T17
                clear T17 S16
                have := mdX_bounds (0 - a) (0 - b) c mode
                obtain ⟨hn1, hn2⟩ := md_negs a b c mode
                refine J.run 12 K3_126 [(89, .bool ((mdX (0 - a) (0 - b) c mode) != (mdX a b c mode))), (16, .int .i64 (mdE (0 - a) (0 - b) c mode)), (12, .int .i64 (mdE a b c mode)), (11, .int .i64 (mdX a b c mode)), (0, .int .i64 a), (1, .int .i64 b), (2, .int .i64 c), (3, .int .i64 mode)] w17 (by kernel_rfl) ?_
                by_cases fk52 : (mdX (0 - a) (0 - b) c mode) = (mdX a b c mode)
                · skip
                  refine J.head (.bool false) (congrArg Value.bool (bne_eq_false_iff_eq.2 fk52)) ?_
                  refine J.run 5 K3_127 [(93, .bool ((mdE (0 - a) (0 - b) c mode) != (mdE a b c mode))), (12, .int .i64 (mdE a b c mode)), (11, .int .i64 (mdX a b c mode)), (0, .int .i64 a), (1, .int .i64 b), (2, .int .i64 c), (3, .int .i64 mode)] w17 (by kernel_rfl) ?_
                  by_cases fk53 : (mdE (0 - a) (0 - b) c mode) = (mdE a b c mode)
                  · skip
                    refine J.head (.bool false) (congrArg Value.bool (bne_eq_false_iff_eq.2 fk53)) ?_
                    refine J.run 8 K3_128 [(96, .bool (decide (b < 0))), (12, .int .i64 (mdE a b c mode)), (11, .int .i64 (mdX a b c mode)), (0, .int .i64 a), (1, .int .i64 b), (2, .int .i64 c), (3, .int .i64 mode)] w17 (by kernel_rfl) ?_
                    by_cases fk54 : b < 0
                    · skip
                      refine J.head (.bool true) (congrArg Value.bool (decide_eq_true fk54)) ?_
                      refine J.run 13 K3_129 [(8, .bool true)] w17 (by kernel_rfl) ?_
                      refine J.ret Try.f3 [.bool true] Try.func3 ⟨by kernel_rfl, trivial⟩ ?_
                      refine hR _ _ ?_
                      exact ⟨rfl, S17.nil⟩
                    · skip
                      refine J.head (.bool false) (congrArg Value.bool (decide_eq_false fk54)) ?_
                      refine J.run 4 K3_130 [(100, .bool (decide (c < 1))), (12, .int .i64 (mdE a b c mode)), (11, .int .i64 (mdX a b c mode)), (0, .int .i64 a), (1, .int .i64 b), (2, .int .i64 c), (3, .int .i64 mode)] w17 (by kernel_rfl) ?_
                      by_cases fk55 : c < 1
                      · skip
                        refine J.head (.bool true) (congrArg Value.bool (decide_eq_true fk55)) ?_
                        refine J.run 9 K3_131 [(8, .bool true)] w17 (by kernel_rfl) ?_
                        refine J.ret Try.f3 [.bool true] Try.func3 ⟨by kernel_rfl, trivial⟩ ?_
                        refine hR _ _ ?_
                        exact ⟨rfl, S17.nil⟩
                      · skip
                        refine J.head (.bool false) (congrArg Value.bool (decide_eq_false fk55)) ?_
                        refine J.run 4 K3_132 [(103, .bool (a == 9223372036854775807)), (12, .int .i64 (mdE a b c mode)), (11, .int .i64 (mdX a b c mode)), (0, .int .i64 a), (1, .int .i64 b), (2, .int .i64 c), (3, .int .i64 mode)] w17 (by kernel_rfl) ?_
                        by_cases fk56 : a = 9223372036854775807
                        · skip
                          refine J.head (.bool true) (congrArg Value.bool (beq_iff_eq.2 fk56)) ?_
                          refine J.run 5 K3_133 [(8, .bool true)] w17 (by kernel_rfl) ?_
                          refine J.ret Try.f3 [.bool true] Try.func3 ⟨by kernel_rfl, trivial⟩ ?_
                          refine hR _ _ ?_
                          exact ⟨rfl, S17.nil⟩
                        · skip
                          refine J.head (.bool false) (congrArg Value.bool (beq_eq_false_iff_ne.2 fk56)) ?_
                          refine J.run 6 K3_134 [(106, .int .i64 (IntKind.wrap .i64 (a + 1))), (12, .int .i64 (mdE a b c mode)), (11, .int .i64 (mdX a b c mode)), (1, .int .i64 b), (2, .int .i64 c), (3, .int .i64 mode)] w17 (by kernel_rfl) ?_
                          refine J.head (.int .i64 (a + 1)) (congrArg (Value.int .i64) (IntWalk.i64_in _ (by omega))) ?_
                          refine J.run 3 K3_135 [(109, .int .i64 mode), (108, .int .i64 c), (107, .int .i64 b), (106, .int .i64 (a + 1)), (12, .int .i64 (mdE a b c mode)), (11, .int .i64 (mdX a b c mode))] w17 (by kernel_rfl) ?_
                          refine J.callF 110 9 #[.int .i64 (a + 1), .int .i64 b, .int .i64 c, .int .i64 mode] hb9 (by kernel_rfl) (muldiv_any (a + 1) b c mode _ (by omega) (by omega) (by omega)) ?_
                          rintro _ w18 ⟨rfl, T18⟩
                          have S18 : Sep w [] w18 := S17.trans T18
                          clear T18 S17
                          have := mdX_bounds (a + 1) b c mode
                          refine J.run 11 K3_136 [(115, .bool ((mdE a b c mode) != 0)), (18, .int .i64 (mdE (a + 1) b c mode)), (17, .int .i64 (mdX (a + 1) b c mode)), (11, .int .i64 (mdX a b c mode))] w18 (by kernel_rfl) ?_
                          by_cases fk57 : (mdE a b c mode) = 0
                          · skip
                            refine J.head (.bool false) (congrArg Value.bool (bne_eq_false_iff_eq.2 fk57)) ?_
                            refine J.run 4 K3_137 [(119, .bool ((mdE (a + 1) b c mode) != 0)), (17, .int .i64 (mdX (a + 1) b c mode)), (11, .int .i64 (mdX a b c mode))] w18 (by kernel_rfl) ?_
                            by_cases fk58 : (mdE (a + 1) b c mode) = 0
                            · skip
                              refine J.head (.bool false) (congrArg Value.bool (bne_eq_false_iff_eq.2 fk58)) ?_
                              refine J.run 6 K3_138 [(8, .bool (decide ((mdX a b c mode) ≤ (mdX (a + 1) b c mode))))] w18 (by kernel_rfl) ?_
                              refine J.ret Try.f3 [.bool (decide ((mdX a b c mode) ≤ (mdX (a + 1) b c mode)))] Try.func3 ⟨by kernel_rfl, trivial⟩ ?_
                              refine hR _ _ ?_
                              exact ⟨congrArg Value.bool ((decide_eq_true (by have hmono := md_mono (a := a) (b := b) (c := c) (m := mode) (by omega) (by omega) (by omega) (by omega); omega))), S18.nil⟩
                            · skip
                              refine J.head (.bool true) (congrArg Value.bool (bne_iff_ne.2 fk58)) ?_
                              refine J.run 6 K3_139 [(8, .bool true)] w18 (by kernel_rfl) ?_
                              refine J.ret Try.f3 [.bool true] Try.func3 ⟨by kernel_rfl, trivial⟩ ?_
                              refine hR _ _ ?_
                              exact ⟨rfl, S18.nil⟩
                          · skip
                            refine J.head (.bool true) (congrArg Value.bool (bne_iff_ne.2 fk57)) ?_
                            refine J.run 10 K3_140 [(8, .bool true)] w18 (by kernel_rfl) ?_
                            refine J.ret Try.f3 [.bool true] Try.func3 ⟨by kernel_rfl, trivial⟩ ?_
                            refine hR _ _ ?_
                            exact ⟨rfl, S18.nil⟩
                  · skip
                    refine J.head (.bool true) (congrArg Value.bool (bne_iff_ne.2 fk53)) ?_
                    refine J.run 5 K3_141 [(8, .bool false)] w17 (by kernel_rfl) ?_
                    refine J.ret Try.f3 [.bool false] Try.func3 ⟨by kernel_rfl, trivial⟩ ?_
                    refine hR _ _ ?_
                    exfalso
                    omega
                · skip
                  refine J.head (.bool true) (congrArg Value.bool (bne_iff_ne.2 fk52)) ?_
                  refine J.run 10 K3_142 [(8, .bool false)] w17 (by kernel_rfl) ?_
                  refine J.ret Try.f3 [.bool false] Try.func3 ⟨by kernel_rfl, trivial⟩ ?_
                  refine hR _ _ ?_
                  exfalso
                  omega
              · skip
                refine J.head (.bool false) (congrArg Value.bool (decide_eq_false fk51)) ?_
                refine J.run 8 K3_143 [(96, .bool (decide (b < 0))), (12, .int .i64 (mdE a b c mode)), (11, .int .i64 (mdX a b c mode)), (0, .int .i64 a), (1, .int .i64 b), (2, .int .i64 c), (3, .int .i64 mode)] w16 (by kernel_rfl) ?_
                by_cases fk59 : b < 0
                · skip
                  refine J.head (.bool true) (congrArg Value.bool (decide_eq_true fk59)) ?_
                  refine J.run 13 K3_144 [(8, .bool true)] w16 (by kernel_rfl) ?_
                  refine J.ret Try.f3 [.bool true] Try.func3 ⟨by kernel_rfl, trivial⟩ ?_
                  refine hR _ _ ?_
                  exact ⟨rfl, S16.nil⟩
                · skip
                  refine J.head (.bool false) (congrArg Value.bool (decide_eq_false fk59)) ?_
                  refine J.run 4 K3_145 [(100, .bool (decide (c < 1))), (12, .int .i64 (mdE a b c mode)), (11, .int .i64 (mdX a b c mode)), (0, .int .i64 a), (1, .int .i64 b), (2, .int .i64 c), (3, .int .i64 mode)] w16 (by kernel_rfl) ?_
                  by_cases fk60 : c < 1
                  · skip
                    refine J.head (.bool true) (congrArg Value.bool (decide_eq_true fk60)) ?_
                    refine J.run 9 K3_146 [(8, .bool true)] w16 (by kernel_rfl) ?_
                    refine J.ret Try.f3 [.bool true] Try.func3 ⟨by kernel_rfl, trivial⟩ ?_
                    refine hR _ _ ?_
                    exact ⟨rfl, S16.nil⟩
                  · skip
                    refine J.head (.bool false) (congrArg Value.bool (decide_eq_false fk60)) ?_
                    refine J.run 4 K3_147 [(103, .bool (a == 9223372036854775807)), (12, .int .i64 (mdE a b c mode)), (11, .int .i64 (mdX a b c mode)), (0, .int .i64 a), (1, .int .i64 b), (2, .int .i64 c), (3, .int .i64 mode)] w16 (by kernel_rfl) ?_
                    by_cases fk61 : a = 9223372036854775807
                    · skip
                      refine J.head (.bool true) (congrArg Value.bool (beq_iff_eq.2 fk61)) ?_
                      refine J.run 5 K3_148 [(8, .bool true)] w16 (by kernel_rfl) ?_
                      refine J.ret Try.f3 [.bool true] Try.func3 ⟨by kernel_rfl, trivial⟩ ?_
                      refine hR _ _ ?_
                      exact ⟨rfl, S16.nil⟩
                    · skip
                      refine J.head (.bool false) (congrArg Value.bool (beq_eq_false_iff_ne.2 fk61)) ?_
                      refine J.run 6 K3_149 [(106, .int .i64 (IntKind.wrap .i64 (a + 1))), (12, .int .i64 (mdE a b c mode)), (11, .int .i64 (mdX a b c mode)), (1, .int .i64 b), (2, .int .i64 c), (3, .int .i64 mode)] w16 (by kernel_rfl) ?_
                      refine J.head (.int .i64 (a + 1)) (congrArg (Value.int .i64) (IntWalk.i64_in _ (by omega))) ?_
                      refine J.run 3 K3_150 [(109, .int .i64 mode), (108, .int .i64 c), (107, .int .i64 b), (106, .int .i64 (a + 1)), (12, .int .i64 (mdE a b c mode)), (11, .int .i64 (mdX a b c mode))] w16 (by kernel_rfl) ?_
                      refine J.callF 110 9 #[.int .i64 (a + 1), .int .i64 b, .int .i64 c, .int .i64 mode] hb9 (by kernel_rfl) (muldiv_any (a + 1) b c mode _ (by omega) (by omega) (by omega)) ?_
                      rintro _ w19 ⟨rfl, T19⟩
                      have S19 : Sep w [] w19 := S16.trans T19
                      clear T19 S16
                      have := mdX_bounds (a + 1) b c mode
                      refine J.run 11 K3_151 [(115, .bool ((mdE a b c mode) != 0)), (18, .int .i64 (mdE (a + 1) b c mode)), (17, .int .i64 (mdX (a + 1) b c mode)), (11, .int .i64 (mdX a b c mode))] w19 (by kernel_rfl) ?_
                      by_cases fk62 : (mdE a b c mode) = 0
                      · skip
                        refine J.head (.bool false) (congrArg Value.bool (bne_eq_false_iff_eq.2 fk62)) ?_
                        refine J.run 4 K3_152 [(119, .bool ((mdE (a + 1) b c mode) != 0)), (17, .int .i64 (mdX (a + 1) b c mode)), (11, .int .i64 (mdX a b c mode))] w19 (by kernel_rfl) ?_
                        by_cases fk63 : (mdE (a + 1) b c mode) = 0
                        · skip
                          refine J.head (.bool false) (congrArg Value.bool (bne_eq_false_iff_eq.2 fk63)) ?_
                          refine J.run 6 K3_153 [(8, .bool (decide ((mdX a b c mode) ≤ (mdX (a + 1) b c mode))))] w19 (by kernel_rfl) ?_
                          refine J.ret Try.f3 [.bool (decide ((mdX a b c mode) ≤ (mdX (a + 1) b c mode)))] Try.func3 ⟨by kernel_rfl, trivial⟩ ?_
                          refine hR _ _ ?_
                          exact ⟨congrArg Value.bool ((decide_eq_true (by have hmono := md_mono (a := a) (b := b) (c := c) (m := mode) (by omega) (by omega) (by omega) (by omega); omega))), S19.nil⟩
                        · skip
                          refine J.head (.bool true) (congrArg Value.bool (bne_iff_ne.2 fk63)) ?_
                          refine J.run 6 K3_154 [(8, .bool true)] w19 (by kernel_rfl) ?_
                          refine J.ret Try.f3 [.bool true] Try.func3 ⟨by kernel_rfl, trivial⟩ ?_
                          refine hR _ _ ?_
                          exact ⟨rfl, S19.nil⟩
                      · skip
                        refine J.head (.bool true) (congrArg Value.bool (bne_iff_ne.2 fk62)) ?_
                        refine J.run 10 K3_155 [(8, .bool true)] w19 (by kernel_rfl) ?_
                        refine J.ret Try.f3 [.bool true] Try.func3 ⟨by kernel_rfl, trivial⟩ ?_
                        refine hR _ _ ?_
                        exact ⟨rfl, S19.nil⟩
            · skip
              refine J.head (.bool false) (congrArg Value.bool (decide_eq_false fk50)) ?_
              refine J.run 12 K3_156 [(96, .bool (decide (b < 0))), (12, .int .i64 (mdE a b c mode)), (11, .int .i64 (mdX a b c mode)), (0, .int .i64 a), (1, .int .i64 b), (2, .int .i64 c), (3, .int .i64 mode)] w16 (by kernel_rfl) ?_
              by_cases fk64 : b < 0
              · skip
                refine J.head (.bool true) (congrArg Value.bool (decide_eq_true fk64)) ?_
                refine J.run 13 K3_157 [(8, .bool true)] w16 (by kernel_rfl) ?_
                refine J.ret Try.f3 [.bool true] Try.func3 ⟨by kernel_rfl, trivial⟩ ?_
                refine hR _ _ ?_
                exact ⟨rfl, S16.nil⟩
              · skip
                refine J.head (.bool false) (congrArg Value.bool (decide_eq_false fk64)) ?_
                refine J.run 4 K3_158 [(100, .bool (decide (c < 1))), (12, .int .i64 (mdE a b c mode)), (11, .int .i64 (mdX a b c mode)), (0, .int .i64 a), (1, .int .i64 b), (2, .int .i64 c), (3, .int .i64 mode)] w16 (by kernel_rfl) ?_
                by_cases fk65 : c < 1
                · skip
                  refine J.head (.bool true) (congrArg Value.bool (decide_eq_true fk65)) ?_
                  refine J.run 9 K3_159 [(8, .bool true)] w16 (by kernel_rfl) ?_
                  refine J.ret Try.f3 [.bool true] Try.func3 ⟨by kernel_rfl, trivial⟩ ?_
                  refine hR _ _ ?_
                  exact ⟨rfl, S16.nil⟩
                · skip
                  refine J.head (.bool false) (congrArg Value.bool (decide_eq_false fk65)) ?_
                  refine J.run 4 K3_160 [(103, .bool (a == 9223372036854775807)), (12, .int .i64 (mdE a b c mode)), (11, .int .i64 (mdX a b c mode)), (0, .int .i64 a), (1, .int .i64 b), (2, .int .i64 c), (3, .int .i64 mode)] w16 (by kernel_rfl) ?_
                  by_cases fk66 : a = 9223372036854775807
                  · skip
                    refine J.head (.bool true) (congrArg Value.bool (beq_iff_eq.2 fk66)) ?_
                    refine J.run 5 K3_161 [(8, .bool true)] w16 (by kernel_rfl) ?_
                    refine J.ret Try.f3 [.bool true] Try.func3 ⟨by kernel_rfl, trivial⟩ ?_
                    refine hR _ _ ?_
                    exact ⟨rfl, S16.nil⟩
                  · skip
                    refine J.head (.bool false) (congrArg Value.bool (beq_eq_false_iff_ne.2 fk66)) ?_
                    refine J.run 6 K3_162 [(106, .int .i64 (IntKind.wrap .i64 (a + 1))), (12, .int .i64 (mdE a b c mode)), (11, .int .i64 (mdX a b c mode)), (1, .int .i64 b), (2, .int .i64 c), (3, .int .i64 mode)] w16 (by kernel_rfl) ?_
                    refine J.head (.int .i64 (a + 1)) (congrArg (Value.int .i64) (IntWalk.i64_in _ (by omega))) ?_
                    refine J.run 3 K3_163 [(109, .int .i64 mode), (108, .int .i64 c), (107, .int .i64 b), (106, .int .i64 (a + 1)), (12, .int .i64 (mdE a b c mode)), (11, .int .i64 (mdX a b c mode))] w16 (by kernel_rfl) ?_
                    refine J.callF 110 9 #[.int .i64 (a + 1), .int .i64 b, .int .i64 c, .int .i64 mode] hb9 (by kernel_rfl) (muldiv_any (a + 1) b c mode _ (by omega) (by omega) (by omega)) ?_
                    rintro _ w20 ⟨rfl, T20⟩
                    have S20 : Sep w [] w20 := S16.trans T20
                    clear T20 S16
                    have := mdX_bounds (a + 1) b c mode
                    refine J.run 11 K3_164 [(115, .bool ((mdE a b c mode) != 0)), (18, .int .i64 (mdE (a + 1) b c mode)), (17, .int .i64 (mdX (a + 1) b c mode)), (11, .int .i64 (mdX a b c mode))] w20 (by kernel_rfl) ?_
                    by_cases fk67 : (mdE a b c mode) = 0
                    · skip
                      refine J.head (.bool false) (congrArg Value.bool (bne_eq_false_iff_eq.2 fk67)) ?_
                      refine J.run 4 K3_165 [(119, .bool ((mdE (a + 1) b c mode) != 0)), (17, .int .i64 (mdX (a + 1) b c mode)), (11, .int .i64 (mdX a b c mode))] w20 (by kernel_rfl) ?_
                      by_cases fk68 : (mdE (a + 1) b c mode) = 0
                      · skip
                        refine J.head (.bool false) (congrArg Value.bool (bne_eq_false_iff_eq.2 fk68)) ?_
                        refine J.run 6 K3_166 [(8, .bool (decide ((mdX a b c mode) ≤ (mdX (a + 1) b c mode))))] w20 (by kernel_rfl) ?_
                        refine J.ret Try.f3 [.bool (decide ((mdX a b c mode) ≤ (mdX (a + 1) b c mode)))] Try.func3 ⟨by kernel_rfl, trivial⟩ ?_
                        refine hR _ _ ?_
                        exact ⟨congrArg Value.bool ((decide_eq_true (by have hmono := md_mono (a := a) (b := b) (c := c) (m := mode) (by omega) (by omega) (by omega) (by omega); omega))), S20.nil⟩
                      · skip
                        refine J.head (.bool true) (congrArg Value.bool (bne_iff_ne.2 fk68)) ?_
                        refine J.run 6 K3_167 [(8, .bool true)] w20 (by kernel_rfl) ?_
                        refine J.ret Try.f3 [.bool true] Try.func3 ⟨by kernel_rfl, trivial⟩ ?_
                        refine hR _ _ ?_
                        exact ⟨rfl, S20.nil⟩
                    · skip
                      refine J.head (.bool true) (congrArg Value.bool (bne_iff_ne.2 fk67)) ?_
                      refine J.run 10 K3_168 [(8, .bool true)] w20 (by kernel_rfl) ?_
                      refine J.ret Try.f3 [.bool true] Try.func3 ⟨by kernel_rfl, trivial⟩ ?_
                      refine hR _ _ ?_
                      exact ⟨rfl, S20.nil⟩
          · skip
            refine J.head (.bool true) (congrArg Value.bool (bne_iff_ne.2 fk49)) ?_
            refine J.run 5 K3_169 [(8, .bool false)] w16 (by kernel_rfl) ?_
            refine J.ret Try.f3 [.bool false] Try.func3 ⟨by kernel_rfl, trivial⟩ ?_
            refine hR _ _ ?_
            exfalso
            omega
        · skip
          refine J.head (.bool true) (congrArg Value.bool (bne_iff_ne.2 fk48)) ?_
          refine J.run 10 K3_170 [(8, .bool false)] w16 (by kernel_rfl) ?_
          refine J.ret Try.f3 [.bool false] Try.func3 ⟨by kernel_rfl, trivial⟩ ?_
          refine hR _ _ ?_
          exfalso
          omega
    · skip
      refine J.head (.bool false) (congrArg Value.bool (decide_eq_false fk23)) ?_
      refine J.run 12 K3_171 [(50, .int .i64 mode), (49, .int .i64 c), (48, .int .i64 b), (47, .int .i64 a), (0, .int .i64 a), (1, .int .i64 b), (2, .int .i64 c), (3, .int .i64 mode)] w1 (by kernel_rfl) ?_
      refine J.callF 51 9 #[.int .i64 a, .int .i64 b, .int .i64 c, .int .i64 mode] hb9 (by kernel_rfl) (muldiv_any a b c mode _ (by omega) (by omega) (by omega)) ?_
      rintro _ w21 ⟨rfl, T21⟩
      have S21 : Sep w [] w21 := S1.trans T21
      clear T21 S1
      have := mdX_bounds a b c mode
      refine J.run 12 K3_172 [(58, .int .i64 mode), (57, .int .i64 c), (56, .int .i64 a), (55, .int .i64 b), (12, .int .i64 (mdE a b c mode)), (11, .int .i64 (mdX a b c mode)), (0, .int .i64 a), (1, .int .i64 b), (2, .int .i64 c), (3, .int .i64 mode)] w21 (by kernel_rfl) ?_
      refine J.callF 59 9 #[.int .i64 b, .int .i64 a, .int .i64 c, .int .i64 mode] hb9 (by kernel_rfl) (muldiv_any b a c mode _ (by omega) (by omega) (by omega)) ?_
      rintro _ w22 ⟨rfl, T22⟩
      have S22 : Sep w [] w22 := S21.trans T22
      clear T22 S21
      have := mdX_bounds b a c mode
      obtain ⟨hc1, hc2⟩ := md_comm a b c mode
      refine J.run 13 K3_173 [(65, .bool ((mdX a b c mode) != (mdX b a c mode))), (14, .int .i64 (mdE b a c mode)), (12, .int .i64 (mdE a b c mode)), (11, .int .i64 (mdX a b c mode)), (0, .int .i64 a), (1, .int .i64 b), (2, .int .i64 c), (3, .int .i64 mode)] w22 (by kernel_rfl) ?_
      by_cases fk69 : (mdX a b c mode) = (mdX b a c mode)
      · skip
        refine J.head (.bool false) (congrArg Value.bool (bne_eq_false_iff_eq.2 fk69)) ?_
        refine J.run 5 K3_174 [(69, .bool ((mdE a b c mode) != (mdE b a c mode))), (12, .int .i64 (mdE a b c mode)), (11, .int .i64 (mdX a b c mode)), (0, .int .i64 a), (1, .int .i64 b), (2, .int .i64 c), (3, .int .i64 mode)] w22 (by kernel_rfl) ?_
        by_cases fk70 : (mdE a b c mode) = (mdE b a c mode)
        · skip
          refine J.head (.bool false) (congrArg Value.bool (bne_eq_false_iff_eq.2 fk70)) ?_
          refine J.run 8 K3_175 [(72, .bool (decide (a > (-4611686018427387904)))), (12, .int .i64 (mdE a b c mode)), (11, .int .i64 (mdX a b c mode)), (0, .int .i64 a), (1, .int .i64 b), (2, .int .i64 c), (3, .int .i64 mode)] w22 (by kernel_rfl) ?_
          by_cases fk71 : a > (-4611686018427387904)
          · skip
            refine J.head (.bool true) (congrArg Value.bool (decide_eq_true fk71)) ?_
            refine J.run 4 K3_176 [(75, .bool (decide (b > (-4611686018427387904)))), (12, .int .i64 (mdE a b c mode)), (11, .int .i64 (mdX a b c mode)), (0, .int .i64 a), (1, .int .i64 b), (2, .int .i64 c), (3, .int .i64 mode)] w22 (by kernel_rfl) ?_
            by_cases fk72 : b > (-4611686018427387904)
            · skip
              refine J.head (.bool true) (congrArg Value.bool (decide_eq_true fk72)) ?_
              refine J.run 5 K3_177 [(78, .int .i64 (IntKind.wrap .i64 (0 - a))), (12, .int .i64 (mdE a b c mode)), (11, .int .i64 (mdX a b c mode)), (0, .int .i64 a), (1, .int .i64 b), (2, .int .i64 c), (3, .int .i64 mode)] w22 (by kernel_rfl) ?_
              refine J.head (.int .i64 (0 - a)) (congrArg (Value.int .i64) (IntWalk.i64_in _ (by omega))) ?_
              refine J.run 2 K3_178 [(80, .int .i64 (IntKind.wrap .i64 (0 - b))), (78, .int .i64 (0 - a)), (12, .int .i64 (mdE a b c mode)), (11, .int .i64 (mdX a b c mode)), (0, .int .i64 a), (1, .int .i64 b), (2, .int .i64 c), (3, .int .i64 mode)] w22 (by kernel_rfl) ?_
              refine J.head (.int .i64 (0 - b)) (congrArg (Value.int .i64) (IntWalk.i64_in _ (by omega))) ?_
              refine J.run 2 K3_179 [(82, .int .i64 mode), (81, .int .i64 c), (80, .int .i64 (0 - b)), (78, .int .i64 (0 - a)), (12, .int .i64 (mdE a b c mode)), (11, .int .i64 (mdX a b c mode)), (0, .int .i64 a), (1, .int .i64 b), (2, .int .i64 c), (3, .int .i64 mode)] w22 (by kernel_rfl) ?_
              refine J.callF 83 9 #[.int .i64 (0 - a), .int .i64 (0 - b), .int .i64 c, .int .i64 mode] hb9 (by kernel_rfl) (muldiv_any (0 - a) (0 - b) c mode _ (by omega) (by omega) (by omega)) ?_
              rintro _ w23 ⟨rfl, T23⟩
              have S23 : Sep w [] w23 := S22.trans T23
              clear T23 S22
              have := mdX_bounds (0 - a) (0 - b) c mode
              obtain ⟨hn1, hn2⟩ := md_negs a b c mode
              refine J.run 12 K3_180 [(89, .bool ((mdX (0 - a) (0 - b) c mode) != (mdX a b c mode))), (16, .int .i64 (mdE (0 - a) (0 - b) c mode)), (12, .int .i64 (mdE a b c mode)), (11, .int .i64 (mdX a b c mode)), (0, .int .i64 a), (1, .int .i64 b), (2, .int .i64 c), (3, .int .i64 mode)] w23 (by kernel_rfl) ?_
              by_cases fk73 : (mdX (0 - a) (0 - b) c mode) = (mdX a b c mode)
              · skip
                refine J.head (.bool false) (congrArg Value.bool (bne_eq_false_iff_eq.2 fk73)) ?_
                refine J.run 5 K3_181 [(93, .bool ((mdE (0 - a) (0 - b) c mode) != (mdE a b c mode))), (12, .int .i64 (mdE a b c mode)), (11, .int .i64 (mdX a b c mode)), (0, .int .i64 a), (1, .int .i64 b), (2, .int .i64 c), (3, .int .i64 mode)] w23 (by kernel_rfl) ?_
                by_cases fk74 : (mdE (0 - a) (0 - b) c mode) = (mdE a b c mode)
                · skip
                  refine J.head (.bool false) (congrArg Value.bool (bne_eq_false_iff_eq.2 fk74)) ?_
                  refine J.run 8 K3_182 [(96, .bool (decide (b < 0))), (12, .int .i64 (mdE a b c mode)), (11, .int .i64 (mdX a b c mode)), (0, .int .i64 a), (1, .int .i64 b), (2, .int .i64 c), (3, .int .i64 mode)] w23 (by kernel_rfl) ?_
                  by_cases fk75 : b < 0
                  · skip
                    refine J.head (.bool true) (congrArg Value.bool (decide_eq_true fk75)) ?_
                    refine J.run 13 K3_183 [(8, .bool true)] w23 (by kernel_rfl) ?_
                    refine J.ret Try.f3 [.bool true] Try.func3 ⟨by kernel_rfl, trivial⟩ ?_
                    refine hR _ _ ?_
                    exact ⟨rfl, S23.nil⟩
                  · skip
                    refine J.head (.bool false) (congrArg Value.bool (decide_eq_false fk75)) ?_
                    refine J.run 4 K3_184 [(100, .bool (decide (c < 1))), (12, .int .i64 (mdE a b c mode)), (11, .int .i64 (mdX a b c mode)), (0, .int .i64 a), (1, .int .i64 b), (2, .int .i64 c), (3, .int .i64 mode)] w23 (by kernel_rfl) ?_
                    by_cases fk76 : c < 1
                    · skip
                      refine J.head (.bool true) (congrArg Value.bool (decide_eq_true fk76)) ?_
                      refine J.run 9 K3_185 [(8, .bool true)] w23 (by kernel_rfl) ?_
                      refine J.ret Try.f3 [.bool true] Try.func3 ⟨by kernel_rfl, trivial⟩ ?_
                      refine hR _ _ ?_
                      exact ⟨rfl, S23.nil⟩
                    · skip
                      refine J.head (.bool false) (congrArg Value.bool (decide_eq_false fk76)) ?_
                      refine J.run 4 K3_186 [(103, .bool (a == 9223372036854775807)), (12, .int .i64 (mdE a b c mode)), (11, .int .i64 (mdX a b c mode)), (0, .int .i64 a), (1, .int .i64 b), (2, .int .i64 c), (3, .int .i64 mode)] w23 (by kernel_rfl) ?_
                      by_cases fk77 : a = 9223372036854775807
                      · skip
                        refine J.head (.bool true) (congrArg Value.bool (beq_iff_eq.2 fk77)) ?_
                        refine J.run 5 K3_187 [(8, .bool true)] w23 (by kernel_rfl) ?_
                        refine J.ret Try.f3 [.bool true] Try.func3 ⟨by kernel_rfl, trivial⟩ ?_
                        refine hR _ _ ?_
                        exact ⟨rfl, S23.nil⟩
                      · skip
                        refine J.head (.bool false) (congrArg Value.bool (beq_eq_false_iff_ne.2 fk77)) ?_
                        refine J.run 6 K3_188 [(106, .int .i64 (IntKind.wrap .i64 (a + 1))), (12, .int .i64 (mdE a b c mode)), (11, .int .i64 (mdX a b c mode)), (1, .int .i64 b), (2, .int .i64 c), (3, .int .i64 mode)] w23 (by kernel_rfl) ?_
                        refine J.head (.int .i64 (a + 1)) (congrArg (Value.int .i64) (IntWalk.i64_in _ (by omega))) ?_
                        refine J.run 3 K3_189 [(109, .int .i64 mode), (108, .int .i64 c), (107, .int .i64 b), (106, .int .i64 (a + 1)), (12, .int .i64 (mdE a b c mode)), (11, .int .i64 (mdX a b c mode))] w23 (by kernel_rfl) ?_
                        refine J.callF 110 9 #[.int .i64 (a + 1), .int .i64 b, .int .i64 c, .int .i64 mode] hb9 (by kernel_rfl) (muldiv_any (a + 1) b c mode _ (by omega) (by omega) (by omega)) ?_
                        rintro _ w24 ⟨rfl, T24⟩
                        have S24 : Sep w [] w24 := S23.trans T24
                        clear T24 S23
                        have := mdX_bounds (a + 1) b c mode
                        refine J.run 11 K3_190 [(115, .bool ((mdE a b c mode) != 0)), (18, .int .i64 (mdE (a + 1) b c mode)), (17, .int .i64 (mdX (a + 1) b c mode)), (11, .int .i64 (mdX a b c mode))] w24 (by kernel_rfl) ?_
                        by_cases fk78 : (mdE a b c mode) = 0
                        · skip
                          refine J.head (.bool false) (congrArg Value.bool (bne_eq_false_iff_eq.2 fk78)) ?_
                          refine J.run 4 K3_191 [(119, .bool ((mdE (a + 1) b c mode) != 0)), (17, .int .i64 (mdX (a + 1) b c mode)), (11, .int .i64 (mdX a b c mode))] w24 (by kernel_rfl) ?_
                          by_cases fk79 : (mdE (a + 1) b c mode) = 0
                          · skip
                            refine J.head (.bool false) (congrArg Value.bool (bne_eq_false_iff_eq.2 fk79)) ?_
                            refine J.run 6 K3_192 [(8, .bool (decide ((mdX a b c mode) ≤ (mdX (a + 1) b c mode))))] w24 (by kernel_rfl) ?_
                            refine J.ret Try.f3 [.bool (decide ((mdX a b c mode) ≤ (mdX (a + 1) b c mode)))] Try.func3 ⟨by kernel_rfl, trivial⟩ ?_
                            refine hR _ _ ?_
                            exact ⟨congrArg Value.bool ((decide_eq_true (by have hmono := md_mono (a := a) (b := b) (c := c) (m := mode) (by omega) (by omega) (by omega) (by omega); omega))), S24.nil⟩
                          · skip
                            refine J.head (.bool true) (congrArg Value.bool (bne_iff_ne.2 fk79)) ?_
                            refine J.run 6 K3_193 [(8, .bool true)] w24 (by kernel_rfl) ?_
                            refine J.ret Try.f3 [.bool true] Try.func3 ⟨by kernel_rfl, trivial⟩ ?_
                            refine hR _ _ ?_
                            exact ⟨rfl, S24.nil⟩
                        · skip
                          refine J.head (.bool true) (congrArg Value.bool (bne_iff_ne.2 fk78)) ?_
                          refine J.run 10 K3_194 [(8, .bool true)] w24 (by kernel_rfl) ?_
                          refine J.ret Try.f3 [.bool true] Try.func3 ⟨by kernel_rfl, trivial⟩ ?_
                          refine hR _ _ ?_
                          exact ⟨rfl, S24.nil⟩
                · skip
                  refine J.head (.bool true) (congrArg Value.bool (bne_iff_ne.2 fk74)) ?_
                  refine J.run 5 K3_195 [(8, .bool false)] w23 (by kernel_rfl) ?_
                  refine J.ret Try.f3 [.bool false] Try.func3 ⟨by kernel_rfl, trivial⟩ ?_
                  refine hR _ _ ?_
                  exfalso
                  omega
              · skip
                refine J.head (.bool true) (congrArg Value.bool (bne_iff_ne.2 fk73)) ?_
                refine J.run 10 K3_196 [(8, .bool false)] w23 (by kernel_rfl) ?_
                refine J.ret Try.f3 [.bool false] Try.func3 ⟨by kernel_rfl, trivial⟩ ?_
                refine hR _ _ ?_
                exfalso
                omega
            · skip
              refine J.head (.bool false) (congrArg Value.bool (decide_eq_false fk72)) ?_
              refine J.run 8 K3_197 [(96, .bool (decide (b < 0))), (12, .int .i64 (mdE a b c mode)), (11, .int .i64 (mdX a b c mode)), (0, .int .i64 a), (1, .int .i64 b), (2, .int .i64 c), (3, .int .i64 mode)] w22 (by kernel_rfl) ?_
              by_cases fk80 : b < 0
              · skip
                refine J.head (.bool true) (congrArg Value.bool (decide_eq_true fk80)) ?_
                refine J.run 13 K3_198 [(8, .bool true)] w22 (by kernel_rfl) ?_
                refine J.ret Try.f3 [.bool true] Try.func3 ⟨by kernel_rfl, trivial⟩ ?_
                refine hR _ _ ?_
                exact ⟨rfl, S22.nil⟩
              · skip
                refine J.head (.bool false) (congrArg Value.bool (decide_eq_false fk80)) ?_
                refine J.run 4 K3_199 [(100, .bool (decide (c < 1))), (12, .int .i64 (mdE a b c mode)), (11, .int .i64 (mdX a b c mode)), (0, .int .i64 a), (1, .int .i64 b), (2, .int .i64 c), (3, .int .i64 mode)] w22 (by kernel_rfl) ?_
                by_cases fk81 : c < 1
                · skip
                  refine J.head (.bool true) (congrArg Value.bool (decide_eq_true fk81)) ?_
                  refine J.run 9 K3_200 [(8, .bool true)] w22 (by kernel_rfl) ?_
                  refine J.ret Try.f3 [.bool true] Try.func3 ⟨by kernel_rfl, trivial⟩ ?_
                  refine hR _ _ ?_
                  exact ⟨rfl, S22.nil⟩
                · skip
                  refine J.head (.bool false) (congrArg Value.bool (decide_eq_false fk81)) ?_
                  refine J.run 4 K3_201 [(103, .bool (a == 9223372036854775807)), (12, .int .i64 (mdE a b c mode)), (11, .int .i64 (mdX a b c mode)), (0, .int .i64 a), (1, .int .i64 b), (2, .int .i64 c), (3, .int .i64 mode)] w22 (by kernel_rfl) ?_
                  by_cases fk82 : a = 9223372036854775807
                  · skip
                    refine J.head (.bool true) (congrArg Value.bool (beq_iff_eq.2 fk82)) ?_
                    refine J.run 5 K3_202 [(8, .bool true)] w22 (by kernel_rfl) ?_
                    refine J.ret Try.f3 [.bool true] Try.func3 ⟨by kernel_rfl, trivial⟩ ?_
                    refine hR _ _ ?_
                    exact ⟨rfl, S22.nil⟩
                  · skip
                    refine J.head (.bool false) (congrArg Value.bool (beq_eq_false_iff_ne.2 fk82)) ?_
                    refine J.run 6 K3_203 [(106, .int .i64 (IntKind.wrap .i64 (a + 1))), (12, .int .i64 (mdE a b c mode)), (11, .int .i64 (mdX a b c mode)), (1, .int .i64 b), (2, .int .i64 c), (3, .int .i64 mode)] w22 (by kernel_rfl) ?_
                    refine J.head (.int .i64 (a + 1)) (congrArg (Value.int .i64) (IntWalk.i64_in _ (by omega))) ?_
                    refine J.run 3 K3_204 [(109, .int .i64 mode), (108, .int .i64 c), (107, .int .i64 b), (106, .int .i64 (a + 1)), (12, .int .i64 (mdE a b c mode)), (11, .int .i64 (mdX a b c mode))] w22 (by kernel_rfl) ?_
                    refine J.callF 110 9 #[.int .i64 (a + 1), .int .i64 b, .int .i64 c, .int .i64 mode] hb9 (by kernel_rfl) (muldiv_any (a + 1) b c mode _ (by omega) (by omega) (by omega)) ?_
                    rintro _ w25 ⟨rfl, T25⟩
                    have S25 : Sep w [] w25 := S22.trans T25
                    clear T25 S22
                    have := mdX_bounds (a + 1) b c mode
                    refine J.run 11 K3_205 [(115, .bool ((mdE a b c mode) != 0)), (18, .int .i64 (mdE (a + 1) b c mode)), (17, .int .i64 (mdX (a + 1) b c mode)), (11, .int .i64 (mdX a b c mode))] w25 (by kernel_rfl) ?_
                    by_cases fk83 : (mdE a b c mode) = 0
                    · skip
                      refine J.head (.bool false) (congrArg Value.bool (bne_eq_false_iff_eq.2 fk83)) ?_
                      refine J.run 4 K3_206 [(119, .bool ((mdE (a + 1) b c mode) != 0)), (17, .int .i64 (mdX (a + 1) b c mode)), (11, .int .i64 (mdX a b c mode))] w25 (by kernel_rfl) ?_
                      by_cases fk84 : (mdE (a + 1) b c mode) = 0
                      · skip
                        refine J.head (.bool false) (congrArg Value.bool (bne_eq_false_iff_eq.2 fk84)) ?_
                        refine J.run 6 K3_207 [(8, .bool (decide ((mdX a b c mode) ≤ (mdX (a + 1) b c mode))))] w25 (by kernel_rfl) ?_
                        refine J.ret Try.f3 [.bool (decide ((mdX a b c mode) ≤ (mdX (a + 1) b c mode)))] Try.func3 ⟨by kernel_rfl, trivial⟩ ?_
                        refine hR _ _ ?_
                        exact ⟨congrArg Value.bool ((decide_eq_true (by have hmono := md_mono (a := a) (b := b) (c := c) (m := mode) (by omega) (by omega) (by omega) (by omega); omega))), S25.nil⟩
                      · skip
                        refine J.head (.bool true) (congrArg Value.bool (bne_iff_ne.2 fk84)) ?_
                        refine J.run 6 K3_208 [(8, .bool true)] w25 (by kernel_rfl) ?_
                        refine J.ret Try.f3 [.bool true] Try.func3 ⟨by kernel_rfl, trivial⟩ ?_
                        refine hR _ _ ?_
                        exact ⟨rfl, S25.nil⟩
                    · skip
                      refine J.head (.bool true) (congrArg Value.bool (bne_iff_ne.2 fk83)) ?_
                      refine J.run 10 K3_209 [(8, .bool true)] w25 (by kernel_rfl) ?_
                      refine J.ret Try.f3 [.bool true] Try.func3 ⟨by kernel_rfl, trivial⟩ ?_
                      refine hR _ _ ?_
                      exact ⟨rfl, S25.nil⟩
          · skip
            refine J.head (.bool false) (congrArg Value.bool (decide_eq_false fk71)) ?_
            refine J.run 12 K3_210 [(96, .bool (decide (b < 0))), (12, .int .i64 (mdE a b c mode)), (11, .int .i64 (mdX a b c mode)), (0, .int .i64 a), (1, .int .i64 b), (2, .int .i64 c), (3, .int .i64 mode)] w22 (by kernel_rfl) ?_
            by_cases fk85 : b < 0
            · skip
              refine J.head (.bool true) (congrArg Value.bool (decide_eq_true fk85)) ?_
              refine J.run 13 K3_211 [(8, .bool true)] w22 (by kernel_rfl) ?_
              refine J.ret Try.f3 [.bool true] Try.func3 ⟨by kernel_rfl, trivial⟩ ?_
              refine hR _ _ ?_
              exact ⟨rfl, S22.nil⟩
            · skip
              refine J.head (.bool false) (congrArg Value.bool (decide_eq_false fk85)) ?_
              refine J.run 4 K3_212 [(100, .bool (decide (c < 1))), (12, .int .i64 (mdE a b c mode)), (11, .int .i64 (mdX a b c mode)), (0, .int .i64 a), (1, .int .i64 b), (2, .int .i64 c), (3, .int .i64 mode)] w22 (by kernel_rfl) ?_
              by_cases fk86 : c < 1
              · skip
                refine J.head (.bool true) (congrArg Value.bool (decide_eq_true fk86)) ?_
                refine J.run 9 K3_213 [(8, .bool true)] w22 (by kernel_rfl) ?_
                refine J.ret Try.f3 [.bool true] Try.func3 ⟨by kernel_rfl, trivial⟩ ?_
                refine hR _ _ ?_
                exact ⟨rfl, S22.nil⟩
              · skip
                refine J.head (.bool false) (congrArg Value.bool (decide_eq_false fk86)) ?_
                refine J.run 4 K3_214 [(103, .bool (a == 9223372036854775807)), (12, .int .i64 (mdE a b c mode)), (11, .int .i64 (mdX a b c mode)), (0, .int .i64 a), (1, .int .i64 b), (2, .int .i64 c), (3, .int .i64 mode)] w22 (by kernel_rfl) ?_
                by_cases fk87 : a = 9223372036854775807
                · skip
                  refine J.head (.bool true) (congrArg Value.bool (beq_iff_eq.2 fk87)) ?_
                  refine J.run 5 K3_215 [(8, .bool true)] w22 (by kernel_rfl) ?_
                  refine J.ret Try.f3 [.bool true] Try.func3 ⟨by kernel_rfl, trivial⟩ ?_
                  refine hR _ _ ?_
                  exact ⟨rfl, S22.nil⟩
                · skip
                  refine J.head (.bool false) (congrArg Value.bool (beq_eq_false_iff_ne.2 fk87)) ?_
                  refine J.run 6 K3_216 [(106, .int .i64 (IntKind.wrap .i64 (a + 1))), (12, .int .i64 (mdE a b c mode)), (11, .int .i64 (mdX a b c mode)), (1, .int .i64 b), (2, .int .i64 c), (3, .int .i64 mode)] w22 (by kernel_rfl) ?_
                  refine J.head (.int .i64 (a + 1)) (congrArg (Value.int .i64) (IntWalk.i64_in _ (by omega))) ?_
                  refine J.run 3 K3_217 [(109, .int .i64 mode), (108, .int .i64 c), (107, .int .i64 b), (106, .int .i64 (a + 1)), (12, .int .i64 (mdE a b c mode)), (11, .int .i64 (mdX a b c mode))] w22 (by kernel_rfl) ?_
                  refine J.callF 110 9 #[.int .i64 (a + 1), .int .i64 b, .int .i64 c, .int .i64 mode] hb9 (by kernel_rfl) (muldiv_any (a + 1) b c mode _ (by omega) (by omega) (by omega)) ?_
                  rintro _ w26 ⟨rfl, T26⟩
                  have S26 : Sep w [] w26 := S22.trans T26
                  clear T26 S22
                  have := mdX_bounds (a + 1) b c mode
                  refine J.run 11 K3_218 [(115, .bool ((mdE a b c mode) != 0)), (18, .int .i64 (mdE (a + 1) b c mode)), (17, .int .i64 (mdX (a + 1) b c mode)), (11, .int .i64 (mdX a b c mode))] w26 (by kernel_rfl) ?_
                  by_cases fk88 : (mdE a b c mode) = 0
                  · skip
                    refine J.head (.bool false) (congrArg Value.bool (bne_eq_false_iff_eq.2 fk88)) ?_
                    refine J.run 4 K3_219 [(119, .bool ((mdE (a + 1) b c mode) != 0)), (17, .int .i64 (mdX (a + 1) b c mode)), (11, .int .i64 (mdX a b c mode))] w26 (by kernel_rfl) ?_
                    by_cases fk89 : (mdE (a + 1) b c mode) = 0
                    · skip
                      refine J.head (.bool false) (congrArg Value.bool (bne_eq_false_iff_eq.2 fk89)) ?_
                      refine J.run 6 K3_220 [(8, .bool (decide ((mdX a b c mode) ≤ (mdX (a + 1) b c mode))))] w26 (by kernel_rfl) ?_
                      refine J.ret Try.f3 [.bool (decide ((mdX a b c mode) ≤ (mdX (a + 1) b c mode)))] Try.func3 ⟨by kernel_rfl, trivial⟩ ?_
                      refine hR _ _ ?_
                      exact ⟨congrArg Value.bool ((decide_eq_true (by have hmono := md_mono (a := a) (b := b) (c := c) (m := mode) (by omega) (by omega) (by omega) (by omega); omega))), S26.nil⟩
                    · skip
                      refine J.head (.bool true) (congrArg Value.bool (bne_iff_ne.2 fk89)) ?_
                      refine J.run 6 K3_221 [(8, .bool true)] w26 (by kernel_rfl) ?_
                      refine J.ret Try.f3 [.bool true] Try.func3 ⟨by kernel_rfl, trivial⟩ ?_
                      refine hR _ _ ?_
                      exact ⟨rfl, S26.nil⟩
                  · skip
                    refine J.head (.bool true) (congrArg Value.bool (bne_iff_ne.2 fk88)) ?_
                    refine J.run 10 K3_222 [(8, .bool true)] w26 (by kernel_rfl) ?_
                    refine J.ret Try.f3 [.bool true] Try.func3 ⟨by kernel_rfl, trivial⟩ ?_
                    refine hR _ _ ?_
                    exact ⟨rfl, S26.nil⟩
        · skip
          refine J.head (.bool true) (congrArg Value.bool (bne_iff_ne.2 fk70)) ?_
          refine J.run 5 K3_223 [(8, .bool false)] w22 (by kernel_rfl) ?_
          refine J.ret Try.f3 [.bool false] Try.func3 ⟨by kernel_rfl, trivial⟩ ?_
          refine hR _ _ ?_
          exfalso
          omega
      · skip
        refine J.head (.bool true) (congrArg Value.bool (bne_iff_ne.2 fk69)) ?_
        refine J.run 10 K3_224 [(8, .bool false)] w22 (by kernel_rfl) ?_
        refine J.ret Try.f3 [.bool false] Try.func3 ⟨by kernel_rfl, trivial⟩ ?_
        refine hR _ _ ?_
        exfalso
        omega

end Go.Proofs.Ytgedbbmdkggdcaa
