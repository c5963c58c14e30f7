/- Walks of functions of this seat, printed by a program over the engine. Conditions: as each theorem says. -/
import Derived.Test.YtfmcbmoinkibkaaDoorA5
namespace Go.Proofs.YtfmcbmoinkibkaaDoor
open Go.Eng Go.RowKit
set_option linter.unusedSimpArgs false
set_option linter.unusedVariables false
theorem hb4 : HasBody Tryd.prog 4 := fun _ _ => by kernel_rfl
noncomputable def K4_0 : List Item := adv 6 [] (bodyOf Tryd.f4)
noncomputable def K4_1 : List Item := adv 8 [] (popK K4_0)
noncomputable def K4_2 : List Item := adv 8 [] (popK K4_1)
noncomputable def K4_3 : List Item := adv 11 [] (popK K4_2)
noncomputable def K4_4 : List Item := adv 4 [] K4_3
noncomputable def K4_5 : List Item := adv 4 [] K4_4
noncomputable def K4_6 : List Item := adv 4 [] K4_5
noncomputable def K4_7 : List Item := adv 4 [] K4_6
noncomputable def K4_8 : List Item := adv 4 [] K4_7
noncomputable def K4_9 : List Item := adv 3 [] (popK K4_8)
noncomputable def K4_10 : List Item := adv 4 [] (popK K4_9)
set_option maxRecDepth 20000 in
set_option maxHeartbeats 20000000 in
theorem awake_any  (w : World) : Ret Tryd.prog 4 #[] w (fun v w' => v = .bool true ∧ Sep w [] w') := by
  have S0 := Sep.refl w
  refine Ret.named fun R hR => ?_
  refine Ret.of_J (N := 49) [] Tryd.func4 rfl rfl (Nat.le_of_ble_eq_true (by kernel_rfl)) (by kernel_rfl) ?_
  refine J.run 6 K4_0 [] w (by kernel_rfl) ?_
  refine J.callF 8 9 #[.int .i64 (-7), .int .i64 2, .int .i64 3] hb9 (by kernel_rfl) (div_any (-7) 2 3 _ (by omega) (by omega)) ?_
  rintro _ w1 ⟨rfl, T1⟩
  have S1 : Sep w [] w1 := S0.trans T1
  clear T1
  have := mdX_bounds (-7) 1 2 3
  refine J.run 8 K4_1 [(2, .int .i64 (mdE (-7) 1 2 3)), (1, .int .i64 (mdX (-7) 1 2 3))] w1 (by kernel_rfl) ?_
  refine J.callF 12 9 #[.int .i64 7, .int .i64 (-2), .int .i64 1] hb9 (by kernel_rfl) (div_any 7 (-2) 1 _ (by omega) (by omega)) ?_
  rintro _ w2 ⟨rfl, T2⟩
  have S2 : Sep w [] w2 := S1.trans T2
  clear T2 S1
  have := mdX_bounds 7 1 (-2) 1
  refine J.run 8 K4_2 [(4, .int .i64 (mdE 7 1 (-2) 1)), (3, .int .i64 (mdX 7 1 (-2) 1)), (2, .int .i64 (mdE (-7) 1 2 3)), (1, .int .i64 (mdX (-7) 1 2 3))] w2 (by kernel_rfl) ?_
  refine J.callF 16 10 #[.int .i64 1099511627776, .int .i64 1099511627776, .int .i64 2199023255552, .int .i64 1] hb10 (by kernel_rfl) (muldiv_any 1099511627776 1099511627776 2199023255552 1 _ (by omega) (by omega) (by omega)) ?_
  rintro _ w3 ⟨rfl, T3⟩
  have S3 : Sep w [] w3 := S2.trans T3
  clear T3 S2
  have := mdX_bounds 1099511627776 1099511627776 2199023255552 1
  refine J.run 11 K4_3 [(21, .bool ((mdE (-7) 1 2 3) == 0)), (6, .int .i64 (mdE 1099511627776 1099511627776 2199023255552 1)), (5, .int .i64 (mdX 1099511627776 1099511627776 2199023255552 1)), (4, .int .i64 (mdE 7 1 (-2) 1)), (3, .int .i64 (mdX 7 1 (-2) 1)), (1, .int .i64 (mdX (-7) 1 2 3))] w3 (by kernel_rfl) ?_
  have fk2 : (mdE (-7) 1 2 3) = 0 := by decide +kernel
  refine J.head (.bool true) (congrArg Value.bool (beq_iff_eq.2 fk2)) ?_
  refine J.run 4 K4_4 [(25, .bool ((mdX (-7) 1 2 3) == (-3))), (6, .int .i64 (mdE 1099511627776 1099511627776 2199023255552 1)), (5, .int .i64 (mdX 1099511627776 1099511627776 2199023255552 1)), (4, .int .i64 (mdE 7 1 (-2) 1)), (3, .int .i64 (mdX 7 1 (-2) 1))] w3 (by kernel_rfl) ?_
  have fk4 : (mdX (-7) 1 2 3) = (-3) := by decide +kernel
  refine J.head (.bool true) (congrArg Value.bool (beq_iff_eq.2 fk4)) ?_
  refine J.run 4 K4_5 [(29, .bool ((mdE 7 1 (-2) 1) == 0)), (6, .int .i64 (mdE 1099511627776 1099511627776 2199023255552 1)), (5, .int .i64 (mdX 1099511627776 1099511627776 2199023255552 1)), (3, .int .i64 (mdX 7 1 (-2) 1))] w3 (by kernel_rfl) ?_
  have fk6 : (mdE 7 1 (-2) 1) = 0 := by decide +kernel
  refine J.head (.bool true) (congrArg Value.bool (beq_iff_eq.2 fk6)) ?_
  refine J.run 4 K4_6 [(33, .bool ((mdX 7 1 (-2) 1) == (-4))), (6, .int .i64 (mdE 1099511627776 1099511627776 2199023255552 1)), (5, .int .i64 (mdX 1099511627776 1099511627776 2199023255552 1))] w3 (by kernel_rfl) ?_
  have fk8 : (mdX 7 1 (-2) 1) = (-4) := by decide +kernel
  refine J.head (.bool true) (congrArg Value.bool (beq_iff_eq.2 fk8)) ?_
  refine J.run 4 K4_7 [(37, .bool ((mdE 1099511627776 1099511627776 2199023255552 1) == 0)), (5, .int .i64 (mdX 1099511627776 1099511627776 2199023255552 1))] w3 (by kernel_rfl) ?_
  have fk10 : (mdE 1099511627776 1099511627776 2199023255552 1) = 0 := by decide +kernel
  refine J.head (.bool true) (congrArg Value.bool (beq_iff_eq.2 fk10)) ?_
  refine J.run 4 K4_8 [(41, .bool ((mdX 1099511627776 1099511627776 2199023255552 1) == 549755813888))] w3 (by kernel_rfl) ?_
  have fk12 : (mdX 1099511627776 1099511627776 2199023255552 1) = 549755813888 := by decide +kernel
  refine J.head (.bool true) (congrArg Value.bool (beq_iff_eq.2 fk12)) ?_
  refine J.callF 42 11 #[.int .i64 300, .int .i64 8, .bool false] hb11 (by kernel_rfl) (sat_any 300 8 false _ (by omega)) ?_
  rintro _ w4 ⟨rfl, T4⟩
  have S4 : Sep w [] w4 := S3.trans T4
  clear T4 S3
  have := satF_bounds 300 8 false
  refine J.run 3 K4_9 [(45, .bool ((satF 300 8 false) == 255))] w4 (by kernel_rfl) ?_
  have fk14 : (satF 300 8 false) = 255 := by decide +kernel
  refine J.head (.bool true) (congrArg Value.bool (beq_iff_eq.2 fk14)) ?_
  refine J.callF 46 12 #[.int .i64 24] hb12 (by kernel_rfl) (root_any 24 _ (by omega)) ?_
  rintro _ w5 ⟨rfl, T5⟩
  have S5 : Sep w [] w5 := S4.trans T5
  clear T5 S4
  have := rootF_bounds (n := 24) (by omega)
  refine J.run 4 K4_10 [(0, .bool ((rootF 24) == 4))] w5 (by kernel_rfl) ?_
  refine J.ret Tryd.f4 [.bool ((rootF 24) == 4)] Tryd.func4 ⟨by kernel_rfl, trivial⟩ ?_
  refine hR _ _ ?_
  exact ⟨congrArg Value.bool (by exact beq_iff_eq.2 (rootF_eq ⟨by omega, by omega, by omega⟩)), S5.nil⟩

end Go.Proofs.YtfmcbmoinkibkaaDoor
