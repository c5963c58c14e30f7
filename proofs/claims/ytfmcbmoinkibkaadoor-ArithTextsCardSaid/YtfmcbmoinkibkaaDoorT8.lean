/- Walks of functions of this seat, printed by a program over the engine. Conditions: as each theorem says. -/
import Derived.Test.YtfmcbmoinkibkaaDoorT7
namespace Go.Proofs.YtfmcbmoinkibkaaDoor
open Go.Eng Go.RowKit
set_option linter.unusedSimpArgs false
set_option linter.unusedVariables false
theorem hb3 : HasBody Tryd.prog 3 := fun _ _ => by kernel_rfl
noncomputable def K3_0 : List Item := adv 7 [] (bodyOf Tryd.f3)
noncomputable def K3_1 : List Item := adv 11 [false] (popK K3_0)
noncomputable def K3_2 : List Item := adv 5 [true] K3_1
noncomputable def K3_3 : List Item := adv 5 [false] K3_1
noncomputable def K3_4 : List Item := adv 5 [] (popK K3_3)
noncomputable def K3_5 : List Item := adv 11 [] (popK K3_4)
noncomputable def K3_6 : List Item := adv 1 [] (popK K3_5)
noncomputable def K3_7 : List Item := adv 5 [] K3_6
noncomputable def K3_8 : List Item := adv 5 [] K3_7
noncomputable def K3_9 : List Item := adv 5 [false] K3_8
noncomputable def K3_10 : List Item := adv 9 [] (popK K3_9)
noncomputable def K3_11 : List Item := adv 11 [] (popK K3_10)
noncomputable def K3_12 : List Item := adv 4 [] K3_11
noncomputable def K3_13 : List Item := adv 5 [] K3_12
noncomputable def K3_14 : List Item := adv 1 [] K3_13
noncomputable def K3_15 : List Item := adv 6 [] (popK K3_14)
noncomputable def K3_16 : List Item := adv 8 [] K3_13
set_option maxRecDepth 20000 in
set_option maxHeartbeats 20000000 in
theorem lawtexts_any (n : Int) (s : ByteArray) (w : World) (hn : -9223372036854775808 ≤ n ∧ n ≤ 9223372036854775807) (hW : TabW w) : Ret Tryd.prog 3 #[.int .i64 n, .string s] w (fun v w' => v = .bool true ∧ Sep w [] w') := by
  have S0 := Sep.refl w
  refine Ret.named fun R hR => ?_
  refine Ret.of_J (N := 65) [(0, .int .i64 n), (1, .string s)] Tryd.func3 rfl rfl (Nat.le_of_ble_eq_true (by kernel_rfl)) (by kernel_rfl) ?_
  refine J.run 7 K3_0 [(0, .int .i64 n), (1, .string s)] w (by kernel_rfl) ?_
  refine J.callF 12 4 #[] hb4 (by kernel_rfl) (awake_any  _) ?_
  rintro _ w1 ⟨rfl, T1⟩
  have S1 : Sep w [] w1 := S0.trans T1
  clear T1
  refine J.run 11 K3_1 [(16, .bool (decide ((s.size : Int) > 200))), (0, .int .i64 n), (1, .string s)] w1 (by kernel_rfl) ?_
  by_cases fk1 : (s.size : Int) > 200
  · skip
    refine J.head (.bool true) (congrArg Value.bool (decide_eq_true fk1)) ?_
    refine J.run 5 K3_2 [(4, .bool true)] w1 (by kernel_rfl) ?_
    refine J.ret Tryd.f3 [.bool true] Tryd.func3 ⟨by kernel_rfl, trivial⟩ ?_
    refine hR _ _ ?_
    exact ⟨rfl, S1.nil⟩
  · skip
    refine J.head (.bool false) (congrArg Value.bool (decide_eq_false fk1)) ?_
    refine J.run 5 K3_3 [(17, .int .i64 n), (0, .int .i64 n), (1, .string s)] w1 (by kernel_rfl) ?_
    refine J.callF 18 5 #[.int .i64 n] hb5 (by kernel_rfl) (atext_any n _ (by omega) (tabW_sep hW S1)) ?_
    rintro _ w2 ⟨rfl, T2⟩
    have S2 : Sep w [] w2 := S1.trans T2
    clear T2 S1
    have := itoaB_size (n := n) (by omega)
    refine J.run 5 K3_4 [(20, .string (itoaB n)), (5, .string (itoaB n)), (0, .int .i64 n), (1, .string s)] w2 (by kernel_rfl) ?_
    refine J.callF 21 6 #[.string (itoaB n)] hb6 (by kernel_rfl) (aparse_any (itoaB n) _ (by omega) (tabW_sep hW S2)) ?_
    rintro _ w3 ⟨rfl, T3⟩
    have S3 : Sep w [] w3 := S2.trans T3
    clear T3 S2
    have := par_bounds (itoaB n)
    refine J.run 11 K3_5 [(25, .int .i64 n), (24, .string (itoaB n)), (7, .int .i64 (parE (itoaB n))), (6, .int .i64 (parX (itoaB n))), (0, .int .i64 n), (1, .string s)] w3 (by kernel_rfl) ?_
    refine J.callF 26 7 #[.int .i64 n] hb7 (by kernel_rfl) (rtext_any n _ (by omega)) ?_
    rintro _ w4 ⟨rfl, T4⟩
    have S4 : Sep w [] w4 := S3.trans T4
    clear T4 S3
    have := itoaB_size (n := n) (by omega)
    refine J.run 1 K3_6 [(27, .bool (!((itoaB n).toList == (itoaB n).toList))), (7, .int .i64 (parE (itoaB n))), (6, .int .i64 (parX (itoaB n))), (0, .int .i64 n), (1, .string s)] w4 (by kernel_rfl) ?_
    refine J.head (.bool false) (congrArg Value.bool (by simp)) ?_
    refine J.run 5 K3_7 [(32, .bool ((parE (itoaB n)) != 0)), (6, .int .i64 (parX (itoaB n))), (0, .int .i64 n), (1, .string s)] w4 (by kernel_rfl) ?_
    have fk3 : (parE (itoaB n)) = 0 := (text_par (by omega)).1
    refine J.head (.bool false) (congrArg Value.bool (bne_eq_false_iff_eq.2 fk3)) ?_
    refine J.run 5 K3_8 [(36, .bool ((parX (itoaB n)) != n)), (1, .string s)] w4 (by kernel_rfl) ?_
    have fk5 : (parX (itoaB n)) = n := (text_par (by omega)).2
    refine J.head (.bool false) (congrArg Value.bool (bne_eq_false_iff_eq.2 fk5)) ?_
    refine J.run 5 K3_9 [(38, .string s), (1, .string s)] w4 (by kernel_rfl) ?_
    refine J.callF 39 6 #[.string s] hb6 (by kernel_rfl) (aparse_any s _ (by omega) (tabW_sep hW S4)) ?_
    rintro _ w5 ⟨rfl, T5⟩
    have S5 : Sep w [] w5 := S4.trans T5
    clear T5 S4
    have := par_bounds s
    refine J.run 9 K3_10 [(43, .string s), (9, .int .i64 (parE s)), (8, .int .i64 (parX s)), (1, .string s)] w5 (by kernel_rfl) ?_
    refine J.callF 44 8 #[.string s] hb8 (by kernel_rfl) (rparse_any s _ (by omega)) ?_
    rintro _ w6 ⟨rfl, T6⟩
    have S6 : Sep w [] w6 := S5.trans T6
    clear T6 S5
    have := par_bounds s
    refine J.run 11 K3_11 [(49, .bool ((parX s) == (parX s))), (11, .int .i64 (parE s)), (9, .int .i64 (parE s)), (8, .int .i64 (parX s)), (1, .string s)] w6 (by kernel_rfl) ?_
    refine J.head (.bool true) (congrArg Value.bool (by simp)) ?_
    refine J.run 4 K3_12 [(53, .bool ((parE s) == (parE s))), (50, .bool true), (9, .int .i64 (parE s)), (8, .int .i64 (parX s)), (1, .string s)] w6 (by kernel_rfl) ?_
    refine J.head (.bool true) (congrArg Value.bool (by simp)) ?_
    refine J.run 5 K3_13 [(58, .bool ((parE s) != 0)), (55, .bool true), (8, .int .i64 (parX s)), (1, .string s)] w6 (by kernel_rfl) ?_
    by_cases fk6 : (parE s) = 0
    · skip
      refine J.head (.bool false) (congrArg Value.bool (bne_eq_false_iff_eq.2 fk6)) ?_
      refine J.run 1 K3_14 [(59, .int .i64 (parX s)), (58, .bool false), (55, .bool true), (1, .string s)] w6 (by kernel_rfl) ?_
      refine J.callF 60 5 #[.int .i64 (parX s)] hb5 (by kernel_rfl) (atext_any (parX s) _ (by omega) (tabW_sep hW S6)) ?_
      rintro _ w7 ⟨rfl, T7⟩
      have S7 : Sep w [] w7 := S6.trans T7
      clear T7 S6
      have := itoaB_size (n := (parX s)) (by omega)
      refine J.run 6 K3_15 [(4, .bool ((itoaB (parX s)).toList == s.toList))] w7 (by kernel_rfl) ?_
      refine J.ret Tryd.f3 [.bool ((itoaB (parX s)).toList == s.toList)] Tryd.func3 ⟨by kernel_rfl, trivial⟩ ?_
      refine hR _ _ ?_
      have fk7 : ((itoaB (parX s)).toList == s.toList) = true := (by rw [par_text fk6]; exact beq_self_eq_true _)
      exact ⟨congrArg Value.bool fk7, S7.nil⟩
    · skip
      refine J.head (.bool true) (congrArg Value.bool (bne_iff_ne.2 fk6)) ?_
      refine J.run 8 K3_16 [(4, .bool true)] w6 (by kernel_rfl) ?_
      refine J.ret Tryd.f3 [.bool true] Tryd.func3 ⟨by kernel_rfl, trivial⟩ ?_
      refine hR _ _ ?_
      exact ⟨rfl, S6.nil⟩

end Go.Proofs.YtfmcbmoinkibkaaDoor
