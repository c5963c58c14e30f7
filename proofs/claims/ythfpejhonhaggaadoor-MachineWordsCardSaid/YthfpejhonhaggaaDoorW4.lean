/- Walks of functions of this seat, printed by a program over the engine. Conditions: as each theorem says. -/
import Derived.Test.YthfpejhonhaggaaDoorW3
namespace Go.Proofs.YthfpejhonhaggaaDoor
open Go.Eng Go.RowKit
set_option linter.unusedSimpArgs false
set_option linter.unusedVariables false
theorem hb21 : HasBody Tryd.prog 21 := fun _ _ => by kernel_rfl
noncomputable def K21_0 : List Item := adv 10 [] (bodyOf Tryd.f21)
noncomputable def K21_1 : List Item := adv 2 [] K21_0
noncomputable def K21_2 : List Item := adv 1 [] K21_1
noncomputable def K21_3 : List Item := adv 2 [] K21_2
noncomputable def K21_4 : List Item := adv 4 [] K21_3
set_option maxRecDepth 20000 in
set_option maxHeartbeats 20000000 in
theorem rtypes_any (k : Int) (w : World) (hk : 0 ≤ k ∧ k ≤ 9223372036854775807) : Ret Tryd.prog 21 #[.int .i64 k] w (fun v w' => v = .tuple #[.int .i64 (k / 16384), .int .i64 (k / 128 % 128), .int .i64 (k % 128)] ∧ Sep w [] w') := by
 have S0 := Sep.refl w
 refine Ret.named fun R hR => ?_
 refine Ret.of_J (N := 12) [(0, .int .i64 k)] Tryd.func21 rfl rfl (Nat.le_of_ble_eq_true (by kernel_rfl)) (by kernel_rfl) ?_
 refine J.run 10 K21_0 [(6, .int .i64 (IntKind.wrap .i64 (Int.tdiv k 16384))), (0, .int .i64 k)] w (by kernel_rfl) ?_
 refine J.head (.int .i64 (k / 16384)) (congrArg (Value.int .i64) (IntWalk.i64_quo _ _ (by omega))) ?_
 refine J.run 2 K21_1 [(8, .int .i64 (IntKind.wrap .i64 (Int.tdiv k 128))), (6, .int .i64 (k / 16384)), (0, .int .i64 k)] w (by kernel_rfl) ?_
 refine J.head (.int .i64 (k / 128)) (congrArg (Value.int .i64) (IntWalk.i64_quo _ _ (by omega))) ?_
 refine J.run 1 K21_2 [(9, .int .i64 (Int.tmod (k / 128) 128)), (6, .int .i64 (k / 16384)), (0, .int .i64 k)] w (by kernel_rfl) ?_
 refine J.head (.int .i64 ((k / 128) % 128)) (congrArg (Value.int .i64) (IntWalk.rem_in _ _ (by omega))) ?_
 refine J.run 2 K21_3 [(11, .int .i64 (Int.tmod k 128)), (9, .int .i64 ((k / 128) % 128)), (6, .int .i64 (k / 16384))] w (by kernel_rfl) ?_
 refine J.head (.int .i64 (k % 128)) (congrArg (Value.int .i64) (IntWalk.rem_in _ _ (by omega))) ?_
 refine J.run 4 K21_4 [(4, .int .i64 (k % 128)), (3, .int .i64 ((k / 128) % 128)), (2, .int .i64 (k / 16384))] w (by kernel_rfl) ?_
 refine J.ret Tryd.f21 [.int .i64 (k / 16384), .int .i64 ((k / 128) % 128), .int .i64 (k % 128)] Tryd.func21 ⟨by kernel_rfl, by kernel_rfl, by kernel_rfl, trivial⟩ ?_
 refine hR _ _ ?_
 exact ⟨rfl, S0.nil⟩

theorem hb19 : HasBody Tryd.prog 19 := fun _ _ => by kernel_rfl
noncomputable def K19_0 : List Item := adv 16 [] (bodyOf Tryd.f19)
noncomputable def K19_1 : List Item := adv 7 [true, true] K19_0
noncomputable def K19_2 : List Item := adv 6 [false] K19_0
noncomputable def K19_3 : List Item := adv 7 [true, true] K19_2
noncomputable def K19_4 : List Item := adv 5 [false] K19_2
noncomputable def K19_5 : List Item := adv 5 [true] K19_4
noncomputable def K19_6 : List Item := adv 7 [false] K19_4
noncomputable def K19_7 : List Item := adv 7 [true, true] K19_6
noncomputable def K19_8 : List Item := adv 5 [false] K19_6
noncomputable def K19_9 : List Item := adv 5 [true] K19_8
noncomputable def K19_10 : List Item := adv 7 [false] K19_8
noncomputable def K19_11 : List Item := adv 7 [true, true] K19_10
noncomputable def K19_12 : List Item := adv 6 [false] K19_10
noncomputable def K19_13 : List Item := adv 7 [true, true] K19_12
noncomputable def K19_14 : List Item := adv 6 [false] K19_12
noncomputable def K19_15 : List Item := adv 7 [true, true] K19_14
noncomputable def K19_16 : List Item := adv 6 [false] K19_14
noncomputable def K19_17 : List Item := adv 7 [true, true] K19_16
noncomputable def K19_18 : List Item := adv 6 [false] K19_16
noncomputable def K19_19 : List Item := adv 7 [true, true] K19_18
noncomputable def K19_20 : List Item := adv 6 [false] K19_18
noncomputable def K19_21 : List Item := adv 7 [true, true] K19_20
noncomputable def K19_22 : List Item := adv 6 [false] K19_20
noncomputable def K19_23 : List Item := adv 7 [true, true] K19_22
noncomputable def K19_24 : List Item := adv 5 [false] K19_22
noncomputable def K19_25 : List Item := adv 5 [true] K19_24
noncomputable def K19_26 : List Item := adv 7 [false] K19_24
noncomputable def K19_27 : List Item := adv 7 [true, true] K19_26
noncomputable def K19_28 : List Item := adv 6 [false] K19_26
noncomputable def K19_29 : List Item := adv 7 [true, true] K19_28
noncomputable def K19_30 : List Item := adv 6 [false] K19_28
noncomputable def K19_31 : List Item := adv 7 [true, true] K19_30
noncomputable def K19_32 : List Item := adv 5 [false] K19_30
noncomputable def K19_33 : List Item := adv 5 [true] K19_32
noncomputable def K19_34 : List Item := adv 7 [false] K19_32
set_option maxRecDepth 20000 in
set_option maxHeartbeats 20000000 in
theorem rfields_any (op : Int) (w : World) (hop : 1 ≤ op ∧ op ≤ 22) : Ret Tryd.prog 19 #[.int .i64 op] w (fun v w' => v = .string (fieldsF op) ∧ Sep w [] w') := by
 have S0 := Sep.refl w
 refine Ret.named fun R hR => ?_
 refine Ret.of_J (N := 25) [(0, .int .i64 op)] Tryd.func19 rfl rfl (Nat.le_of_ble_eq_true (by kernel_rfl)) (by kernel_rfl) ?_
 refine J.run 16 K19_0 [(4, .bool (op == 1)), (3, .int .i64 op)] w (by kernel_rfl) ?_
 by_cases fk1 : op = 1
 ·skip
  refine J.head (.bool true) (congrArg Value.bool (beq_iff_eq.2 fk1)) ?_
  refine J.run 7 K19_1 [(2, .string ⟨#[65, 75]⟩)] w (by kernel_rfl) ?_
  refine J.ret Tryd.f19 [.string ⟨#[65, 75]⟩] Tryd.func19 ⟨by kernel_rfl, trivial⟩ ?_
  refine hR _ _ ?_
  exact ⟨congrArg Value.string (by unfold fieldsF; (repeat first | rw [if_pos (by omega)] | rw [if_neg (by omega)]) <;> rfl), S0.nil⟩
 ·skip
  refine J.head (.bool false) (congrArg Value.bool (beq_eq_false_iff_ne.2 fk1)) ?_
  refine J.run 6 K19_2 [(4, .bool (op == 2)), (3, .int .i64 op)] w (by kernel_rfl) ?_
  by_cases fk2 : op = 2
  ·skip
   refine J.head (.bool true) (congrArg Value.bool (beq_iff_eq.2 fk2)) ?_
   refine J.run 7 K19_3 [(2, .string ⟨#[65, 75]⟩)] w (by kernel_rfl) ?_
   refine J.ret Tryd.f19 [.string ⟨#[65, 75]⟩] Tryd.func19 ⟨by kernel_rfl, trivial⟩ ?_
   refine hR _ _ ?_
   exact ⟨congrArg Value.string (by unfold fieldsF; (repeat first | rw [if_pos (by omega)] | rw [if_neg (by omega)]) <;> rfl), S0.nil⟩
  ·skip
   refine J.head (.bool false) (congrArg Value.bool (beq_eq_false_iff_ne.2 fk2)) ?_
   refine J.run 5 K19_4 [(4, .bool (op == 3)), (3, .int .i64 op)] w (by kernel_rfl) ?_
   by_cases fk3 : op = 3
   ·skip
    refine J.head (.bool true) (congrArg Value.bool (beq_iff_eq.2 fk3)) ?_
    refine J.run 5 K19_5 [(2, .string ⟨#[65, 75]⟩)] w (by kernel_rfl) ?_
    refine J.ret Tryd.f19 [.string ⟨#[65, 75]⟩] Tryd.func19 ⟨by kernel_rfl, trivial⟩ ?_
    refine hR _ _ ?_
    exact ⟨congrArg Value.string (by unfold fieldsF; (repeat first | rw [if_pos (by omega)] | rw [if_neg (by omega)]) <;> rfl), S0.nil⟩
   ·skip
    refine J.head (.bool false) (congrArg Value.bool (beq_eq_false_iff_ne.2 fk3)) ?_
    refine J.run 7 K19_6 [(8, .bool (op == 4)), (3, .int .i64 op)] w (by kernel_rfl) ?_
    by_cases fk4 : op = 4
    ·skip
     refine J.head (.bool true) (congrArg Value.bool (beq_iff_eq.2 fk4)) ?_
     refine J.run 7 K19_7 [(2, .string ⟨#[65, 66]⟩)] w (by kernel_rfl) ?_
     refine J.ret Tryd.f19 [.string ⟨#[65, 66]⟩] Tryd.func19 ⟨by kernel_rfl, trivial⟩ ?_
     refine hR _ _ ?_
     exact ⟨congrArg Value.string (by unfold fieldsF; (repeat first | rw [if_pos (by omega)] | rw [if_neg (by omega)]) <;> rfl), S0.nil⟩
    ·skip
     refine J.head (.bool false) (congrArg Value.bool (beq_eq_false_iff_ne.2 fk4)) ?_
     refine J.run 5 K19_8 [(8, .bool (op == 18)), (3, .int .i64 op)] w (by kernel_rfl) ?_
     by_cases fk5 : op = 18
     ·skip
      refine J.head (.bool true) (congrArg Value.bool (beq_iff_eq.2 fk5)) ?_
      refine J.run 5 K19_9 [(2, .string ⟨#[65, 66]⟩)] w (by kernel_rfl) ?_
      refine J.ret Tryd.f19 [.string ⟨#[65, 66]⟩] Tryd.func19 ⟨by kernel_rfl, trivial⟩ ?_
      refine hR _ _ ?_
      exact ⟨congrArg Value.string (by unfold fieldsF; (repeat first | rw [if_pos (by omega)] | rw [if_neg (by omega)]) <;> rfl), S0.nil⟩
     ·skip
      refine J.head (.bool false) (congrArg Value.bool (beq_eq_false_iff_ne.2 fk5)) ?_
      refine J.run 7 K19_10 [(11, .bool (op == 5)), (3, .int .i64 op)] w (by kernel_rfl) ?_
      by_cases fk6 : op = 5
      ·skip
       refine J.head (.bool true) (congrArg Value.bool (beq_iff_eq.2 fk6)) ?_
       refine J.run 7 K19_11 [(2, .string ⟨#[65, 66, 67, 75]⟩)] w (by kernel_rfl) ?_
       refine J.ret Tryd.f19 [.string ⟨#[65, 66, 67, 75]⟩] Tryd.func19 ⟨by kernel_rfl, trivial⟩ ?_
       refine hR _ _ ?_
       exact ⟨congrArg Value.string (by unfold fieldsF; (repeat first | rw [if_pos (by omega)] | rw [if_neg (by omega)]) <;> rfl), S0.nil⟩
      ·skip
       refine J.head (.bool false) (congrArg Value.bool (beq_eq_false_iff_ne.2 fk6)) ?_
       refine J.run 6 K19_12 [(11, .bool (op == 6)), (3, .int .i64 op)] w (by kernel_rfl) ?_
       by_cases fk7 : op = 6
       ·skip
        refine J.head (.bool true) (congrArg Value.bool (beq_iff_eq.2 fk7)) ?_
        refine J.run 7 K19_13 [(2, .string ⟨#[65, 66, 67, 75]⟩)] w (by kernel_rfl) ?_
        refine J.ret Tryd.f19 [.string ⟨#[65, 66, 67, 75]⟩] Tryd.func19 ⟨by kernel_rfl, trivial⟩ ?_
        refine hR _ _ ?_
        exact ⟨congrArg Value.string (by unfold fieldsF; (repeat first | rw [if_pos (by omega)] | rw [if_neg (by omega)]) <;> rfl), S0.nil⟩
       ·skip
        refine J.head (.bool false) (congrArg Value.bool (beq_eq_false_iff_ne.2 fk7)) ?_
        refine J.run 6 K19_14 [(11, .bool (op == 7)), (3, .int .i64 op)] w (by kernel_rfl) ?_
        by_cases fk8 : op = 7
        ·skip
         refine J.head (.bool true) (congrArg Value.bool (beq_iff_eq.2 fk8)) ?_
         refine J.run 7 K19_15 [(2, .string ⟨#[65, 66, 67, 75]⟩)] w (by kernel_rfl) ?_
         refine J.ret Tryd.f19 [.string ⟨#[65, 66, 67, 75]⟩] Tryd.func19 ⟨by kernel_rfl, trivial⟩ ?_
         refine hR _ _ ?_
         exact ⟨congrArg Value.string (by unfold fieldsF; (repeat first | rw [if_pos (by omega)] | rw [if_neg (by omega)]) <;> rfl), S0.nil⟩
        ·skip
         refine J.head (.bool false) (congrArg Value.bool (beq_eq_false_iff_ne.2 fk8)) ?_
         refine J.run 6 K19_16 [(11, .bool (op == 8)), (3, .int .i64 op)] w (by kernel_rfl) ?_
         by_cases fk9 : op = 8
         ·skip
          refine J.head (.bool true) (congrArg Value.bool (beq_iff_eq.2 fk9)) ?_
          refine J.run 7 K19_17 [(2, .string ⟨#[65, 66, 67, 75]⟩)] w (by kernel_rfl) ?_
          refine J.ret Tryd.f19 [.string ⟨#[65, 66, 67, 75]⟩] Tryd.func19 ⟨by kernel_rfl, trivial⟩ ?_
          refine hR _ _ ?_
          exact ⟨congrArg Value.string (by unfold fieldsF; (repeat first | rw [if_pos (by omega)] | rw [if_neg (by omega)]) <;> rfl), S0.nil⟩
         ·skip
          refine J.head (.bool false) (congrArg Value.bool (beq_eq_false_iff_ne.2 fk9)) ?_
          refine J.run 6 K19_18 [(11, .bool (op == 13)), (3, .int .i64 op)] w (by kernel_rfl) ?_
          by_cases fk10 : op = 13
          ·skip
           refine J.head (.bool true) (congrArg Value.bool (beq_iff_eq.2 fk10)) ?_
           refine J.run 7 K19_19 [(2, .string ⟨#[65, 66, 67, 75]⟩)] w (by kernel_rfl) ?_
           refine J.ret Tryd.f19 [.string ⟨#[65, 66, 67, 75]⟩] Tryd.func19 ⟨by kernel_rfl, trivial⟩ ?_
           refine hR _ _ ?_
           exact ⟨congrArg Value.string (by unfold fieldsF; (repeat first | rw [if_pos (by omega)] | rw [if_neg (by omega)]) <;> rfl), S0.nil⟩
          ·skip
           refine J.head (.bool false) (congrArg Value.bool (beq_eq_false_iff_ne.2 fk10)) ?_
           refine J.run 6 K19_20 [(11, .bool (op == 14)), (3, .int .i64 op)] w (by kernel_rfl) ?_
           by_cases fk11 : op = 14
           ·skip
            refine J.head (.bool true) (congrArg Value.bool (beq_iff_eq.2 fk11)) ?_
            refine J.run 7 K19_21 [(2, .string ⟨#[65, 66, 67, 75]⟩)] w (by kernel_rfl) ?_
            refine J.ret Tryd.f19 [.string ⟨#[65, 66, 67, 75]⟩] Tryd.func19 ⟨by kernel_rfl, trivial⟩ ?_
            refine hR _ _ ?_
            exact ⟨congrArg Value.string (by unfold fieldsF; (repeat first | rw [if_pos (by omega)] | rw [if_neg (by omega)]) <;> rfl), S0.nil⟩
           ·skip
            refine J.head (.bool false) (congrArg Value.bool (beq_eq_false_iff_ne.2 fk11)) ?_
            refine J.run 6 K19_22 [(11, .bool (op == 19)), (3, .int .i64 op)] w (by kernel_rfl) ?_
            by_cases fk12 : op = 19
            ·skip
             refine J.head (.bool true) (congrArg Value.bool (beq_iff_eq.2 fk12)) ?_
             refine J.run 7 K19_23 [(2, .string ⟨#[65, 66, 67, 75]⟩)] w (by kernel_rfl) ?_
             refine J.ret Tryd.f19 [.string ⟨#[65, 66, 67, 75]⟩] Tryd.func19 ⟨by kernel_rfl, trivial⟩ ?_
             refine hR _ _ ?_
             exact ⟨congrArg Value.string (by unfold fieldsF; (repeat first | rw [if_pos (by omega)] | rw [if_neg (by omega)]) <;> rfl), S0.nil⟩
            ·skip
             refine J.head (.bool false) (congrArg Value.bool (beq_eq_false_iff_ne.2 fk12)) ?_
             refine J.run 5 K19_24 [(11, .bool (op == 21)), (3, .int .i64 op)] w (by kernel_rfl) ?_
             by_cases fk13 : op = 21
             ·skip
              refine J.head (.bool true) (congrArg Value.bool (beq_iff_eq.2 fk13)) ?_
              refine J.run 5 K19_25 [(2, .string ⟨#[65, 66, 67, 75]⟩)] w (by kernel_rfl) ?_
              refine J.ret Tryd.f19 [.string ⟨#[65, 66, 67, 75]⟩] Tryd.func19 ⟨by kernel_rfl, trivial⟩ ?_
              refine hR _ _ ?_
              exact ⟨congrArg Value.string (by unfold fieldsF; (repeat first | rw [if_pos (by omega)] | rw [if_neg (by omega)]) <;> rfl), S0.nil⟩
             ·skip
              refine J.head (.bool false) (congrArg Value.bool (beq_eq_false_iff_ne.2 fk13)) ?_
              refine J.run 7 K19_26 [(20, .bool (op == 9)), (3, .int .i64 op)] w (by kernel_rfl) ?_
              by_cases fk14 : op = 9
              ·skip
               refine J.head (.bool true) (congrArg Value.bool (beq_iff_eq.2 fk14)) ?_
               refine J.run 7 K19_27 [(2, .string ⟨#[65, 66, 75]⟩)] w (by kernel_rfl) ?_
               refine J.ret Tryd.f19 [.string ⟨#[65, 66, 75]⟩] Tryd.func19 ⟨by kernel_rfl, trivial⟩ ?_
               refine hR _ _ ?_
               exact ⟨congrArg Value.string (by unfold fieldsF; (repeat first | rw [if_pos (by omega)] | rw [if_neg (by omega)]) <;> rfl), S0.nil⟩
              ·skip
               refine J.head (.bool false) (congrArg Value.bool (beq_eq_false_iff_ne.2 fk14)) ?_
               refine J.run 6 K19_28 [(20, .bool (op == 10)), (3, .int .i64 op)] w (by kernel_rfl) ?_
               by_cases fk15 : op = 10
               ·skip
                refine J.head (.bool true) (congrArg Value.bool (beq_iff_eq.2 fk15)) ?_
                refine J.run 7 K19_29 [(2, .string ⟨#[65, 66, 75]⟩)] w (by kernel_rfl) ?_
                refine J.ret Tryd.f19 [.string ⟨#[65, 66, 75]⟩] Tryd.func19 ⟨by kernel_rfl, trivial⟩ ?_
                refine hR _ _ ?_
                exact ⟨congrArg Value.string (by unfold fieldsF; (repeat first | rw [if_pos (by omega)] | rw [if_neg (by omega)]) <;> rfl), S0.nil⟩
               ·skip
                refine J.head (.bool false) (congrArg Value.bool (beq_eq_false_iff_ne.2 fk15)) ?_
                refine J.run 6 K19_30 [(20, .bool (op == 20)), (3, .int .i64 op)] w (by kernel_rfl) ?_
                by_cases fk16 : op = 20
                ·skip
                 refine J.head (.bool true) (congrArg Value.bool (beq_iff_eq.2 fk16)) ?_
                 refine J.run 7 K19_31 [(2, .string ⟨#[65, 66, 75]⟩)] w (by kernel_rfl) ?_
                 refine J.ret Tryd.f19 [.string ⟨#[65, 66, 75]⟩] Tryd.func19 ⟨by kernel_rfl, trivial⟩ ?_
                 refine hR _ _ ?_
                 exact ⟨congrArg Value.string (by unfold fieldsF; (repeat first | rw [if_pos (by omega)] | rw [if_neg (by omega)]) <;> rfl), S0.nil⟩
                ·skip
                 refine J.head (.bool false) (congrArg Value.bool (beq_eq_false_iff_ne.2 fk16)) ?_
                 refine J.run 5 K19_32 [(20, .bool (op == 22))] w (by kernel_rfl) ?_
                 by_cases fk17 : op = 22
                 ·skip
                  refine J.head (.bool true) (congrArg Value.bool (beq_iff_eq.2 fk17)) ?_
                  refine J.run 5 K19_33 [(2, .string ⟨#[65, 66, 75]⟩)] w (by kernel_rfl) ?_
                  refine J.ret Tryd.f19 [.string ⟨#[65, 66, 75]⟩] Tryd.func19 ⟨by kernel_rfl, trivial⟩ ?_
                  refine hR _ _ ?_
                  exact ⟨congrArg Value.string (by unfold fieldsF; (repeat first | rw [if_pos (by omega)] | rw [if_neg (by omega)]) <;> rfl), S0.nil⟩
                 ·skip
                  refine J.head (.bool false) (congrArg Value.bool (beq_eq_false_iff_ne.2 fk17)) ?_
                  refine J.run 7 K19_34 [(2, .string ⟨#[65, 66, 67]⟩)] w (by kernel_rfl) ?_
                  refine J.ret Tryd.f19 [.string ⟨#[65, 66, 67]⟩] Tryd.func19 ⟨by kernel_rfl, trivial⟩ ?_
                  refine hR _ _ ?_
                  exact ⟨congrArg Value.string (by unfold fieldsF; (repeat first | rw [if_pos (by omega)] | rw [if_neg (by omega)]) <;> rfl), S0.nil⟩

/-! layer 13: bytes and texts of instructions -/
def setI (i : Ins) (c n : Int) : Ins := if c = 65 then { i with gA := n } else if c = 66 then { i with gB := n } else if c = 67 then { i with gC := n } else { i with gK := n }
def wordL (c : UInt8) (n : Int) : List UInt8 := (if c = 75 then [] else [114]) ++ Lib.itoa n
def partL (i : Ins) (c : UInt8) : List UInt8 := 32 :: wordL c (fldF i (c.toNat : Int))
def textLs (i : Ins) : List UInt8 := ls (nameL.getD i.gOp.toNat ByteArray.empty) ++ (ls (fieldsF i.gOp)).flatMap (partL i)
def textI (i : Ins) : ByteArray := if formB i then ⟨(textLs i).toArray⟩ else ByteArray.empty
abbrev ins0 : Ins := ⟨0, 0, 0, 0, 0⟩
def atM (l : List UInt8) : Option Int := match Lib.atoiAll l with | .ok n => some n | _ => none
def trimR (w : List UInt8) : List UInt8 := if w.head? = some 114 then w.tail else w
def matW (c : UInt8) (w : List UInt8) : Option Int := atM (if c = 75 then w else trimR w)
def dW (c : UInt8) (w : List UInt8) : List UInt8 := if c = 75 then w else w.tail
def refW (c : UInt8) (w : List UInt8) : Option Int :=
  if (c = 75 ∨ (2 ≤ w.length ∧ w.head? = some 114)) ∧ (dW c w).length ≤ 24 ∧ formL (dW c w) = true ∧ fitL (valL (dW c w)) = true then some (valL (dW c w)) else none
def goW (f : UInt8 → List UInt8 → Option Int) : List UInt8 → List (List UInt8) → Ins → Option Ins
  | [], _, i => some i
  | c :: cs, ws, i => match f c (ws.headD []) with
    | none => none
    | some n => goW f cs ws.tail (setI i (c.toNat : Int) n)
def opN (w : List UInt8) : Nat → Int
  | 0 => 0
  | k + 1 => if k ≠ 0 ∧ ls (nameL.getD k ByteArray.empty) = w then (k : Int) else opN w k
abbrev opW (w : List UInt8) : Int := opN w 23
def readI (f : UInt8 → List UInt8 → Option Int) (s : List UInt8) : Option Ins :=
  if opW ((splitOn 32 s).headD []) < 1 ∨ (splitOn 32 s).length ≠ 1 + (fieldsF (opW ((splitOn 32 s).headD []))).size then none else goW f (ls (fieldsF (opW ((splitOn 32 s).headD [])))) (splitOn 32 s).tail ⟨opW ((splitOn 32 s).headD []), 0, 0, 0, 0⟩
/-- what the texts mean: the instruction, and the error's number -/
def parI (s : ByteArray) : Ins := if 100 < s.size then ins0 else match (readI refW (ls s)).filter formB with | some i => i | none => ins0
def parIE (s : ByteArray) : Int := if 100 < s.size then 5 else match (readI refW (ls s)).filter formB with | some _ => 0 | none => 3
theorem opN_range (w : List UInt8) : ∀ k, 0 ≤ opN w k ∧ opN w k < (k : Int) ∨ opN w k = 0
  | 0 => .inr rfl
  | k + 1 => by
    unfold opN; split
    · left; omega
    · rcases opN_range w k with h | h
      · left; omega
      · right; exact h
theorem opN_name (w : List UInt8) : ∀ k, opN w k = 0 ∨ ls (nameL.getD (opN w k).toNat ByteArray.empty) = w
  | 0 => .inl rfl
  | k + 1 => by
    unfold opN; split
    · rename_i h; right; rw [Int.toNat_natCast]; exact h.2
    · exact opN_name w k
theorem opW_name {op : Int} (h : 1 ≤ op ∧ op ≤ 22) : opW (ls (nameL.getD op.toNat ByteArray.empty)) = op := by
  rcases ops_cases h with rfl | rfl | rfl | rfl | rfl | rfl | rfl | rfl | rfl | rfl | rfl | rfl | rfl | rfl | rfl | rfl | rfl | rfl | rfl | rfl | rfl | rfl <;> decide +kernel
theorem opW_range (w : List UInt8) : 0 ≤ opW w ∧ opW w ≤ 22 := by
  show 0 ≤ opN w 23 ∧ opN w 23 ≤ 22
  rcases opN_range w 23 with h | h
  · constructor; exact h.1; have := h.2; omega
  · rw [h]; omega
theorem opN_zero {w : List UInt8} : ∀ {k}, (∀ j, j < k → j ≠ 0 → ls (nameL.getD j ByteArray.empty) ≠ w) → opN w k = 0
  | 0, _ => rfl
  | k + 1, h => by
    unfold opN; rw [if_neg (fun hk => h k (by omega) hk.1 hk.2)]; exact opN_zero fun j hj => h j (by omega)
/-! splitting and joining at blanks -/
theorem split_join (c : UInt8) : ∀ l : List UInt8, ((splitOn c l).headD [] ++ (splitOn c l).tail.flatMap fun w => c :: w) = l
  | [] => rfl
  | x :: l => by
    have ih := split_join c l
    rw [splitOn]
    split
    · rename_i h
      cases hs : splitOn c l with
      | nil => exact absurd hs (splitOn_ne c l)
      | cons p ps =>
        rw [hs] at ih
        simp only [List.headD_cons, List.tail_cons] at ih
        simp only [List.headD_cons, List.tail_cons, List.flatMap_cons, List.nil_append, List.cons_append]
        rw [ih, h]
    · cases hs : splitOn c l with
      | nil => exact absurd hs (splitOn_ne c l)
      | cons p ps =>
        rw [hs] at ih
        simp only [List.headD_cons, List.tail_cons] at ih
        simp only [List.headD_cons, List.tail_cons, List.cons_append]
        rw [ih]
theorem split_cat {c : UInt8} {a : List UInt8} (ha : c ∉ a) : ∀ ws : List (List UInt8), (∀ w ∈ ws, c ∉ w) → splitOn c (a ++ ws.flatMap fun w => c :: w) = a :: ws := by
  intro ws
  induction ws generalizing a with
  | nil => intro _; rw [List.flatMap_nil, List.append_nil, splitOn_miss ha]
  | cons w ws ih =>
    intro h
    rw [List.flatMap_cons, List.cons_append, splitOn_hit ha, ih (h w (by simp)) fun x hx => h x (List.mem_cons_of_mem _ hx)]
/-! a word, read in both ways -/
theorem trim_ref {w : List UInt8} (h : 2 ≤ w.length ∧ w.head? = some 114) : trimR w = w.tail := by unfold trimR; rw [if_pos h.2]
theorem head_tail {w : List UInt8} (h : w.head? = some 114) : w = 114 :: w.tail := by
  cases w with
  | nil => cases h
  | cons x r => rw [List.head?_cons] at h; rw [Option.some.inj h]; rfl
theorem atM_form {l : List UInt8} (h : formL l = true) (hf : fitL (valL l) = true) : atM l = some (valL l) := by
  unfold atM; rw [atoi_form h, if_pos hf]
theorem ref_mat {c : UInt8} {w : List UInt8} {n : Int} (h : refW c w = some n) : matW c w = some n ∧ w = wordL c n := by
  unfold refW at h
  split at h
  · rename_i hc
    obtain ⟨h1, _, h3, h4⟩ := hc
    have e := Option.some.inj h
    unfold dW at h3 h4 e
    by_cases c75 : c = 75
    · rw [if_pos c75] at h3 h4 e
      unfold matW wordL
      rw [if_pos c75, if_pos c75, atM_form h3 h4, e]
      exact ⟨rfl, by rw [← e, itoa_form h3]; rfl⟩
    · rw [if_neg c75] at h3 h4 e
      have h2 := h1.resolve_left c75
      unfold matW wordL
      rw [if_neg c75, if_neg c75, trim_ref h2, atM_form h3 h4, e]
      exact ⟨rfl, by rw [← e, itoa_form h3]; exact head_tail h2.2⟩
  · cases h
theorem itoa_len {n : Int} (h : -9223372036854775808 ≤ n ∧ n ≤ 9223372036854775807) : (Lib.itoa n).length ≤ 20 := by
  have := itoaB_size h; rw [← ls_length] at this; exact this
theorem itoa_ne (n : Int) : Lib.itoa n ≠ [] := by
  intro h
  have := (form_itoa n).1
  rw [h] at this; exact absurd this (by decide)
theorem ref_word (c : UInt8) {n : Int} (h : -9223372036854775808 ≤ n ∧ n ≤ 9223372036854775807) : refW c (wordL c n) = some n := by
  obtain ⟨f1, f2⟩ := form_itoa n
  have hl := itoa_len h
  have hne := itoa_ne n
  have hp : 0 < (Lib.itoa n).length := List.length_pos_iff.2 hne
  have hfit : fitL (valL (Lib.itoa n)) = true := by rw [f2]; simp only [fitL, Bool.and_eq_true, decide_eq_true_eq]; exact h
  by_cases c75 : c = 75
  · have ew : wordL c n = Lib.itoa n := by unfold wordL; rw [if_pos c75]; rfl
    have ed : dW c (Lib.itoa n) = Lib.itoa n := by unfold dW; rw [if_pos c75]
    unfold refW
    rw [ew, ed, if_pos ⟨.inl c75, by omega, f1, hfit⟩, f2]
  · have ew : wordL c n = 114 :: Lib.itoa n := by unfold wordL; rw [if_neg c75]; rfl
    have ed : dW c (114 :: Lib.itoa n) = Lib.itoa n := by unfold dW; rw [if_neg c75]; rfl
    unfold refW
    rw [ew, ed, if_pos ⟨.inr ⟨by rw [List.length_cons]; omega, rfl⟩, by omega, f1, hfit⟩, f2]
theorem goW_ref : ∀ {cs : List UInt8} {ws : List (List UInt8)} {i j : Ins}, goW refW cs ws i = some j → goW matW cs ws i = some j
  | [], _, _, _, h => h
  | c :: cs, ws, i, j, h => by
    unfold goW at h ⊢
    cases hw : refW c (ws.headD []) with
    | none => rw [hw] at h; cases h
    | some n => rw [hw] at h; rw [(ref_mat hw).1]; exact goW_ref h
theorem goW_op {f : UInt8 → List UInt8 → Option Int} : ∀ {cs : List UInt8} {ws : List (List UInt8)} {i j : Ins}, goW f cs ws i = some j → j.gOp = i.gOp
  | [], _, _, _, h => by rw [← Option.some.inj h]
  | c :: cs, ws, i, j, h => by
    unfold goW at h
    cases hw : f c (ws.headD []) with
    | none => rw [hw] at h; cases h
    | some n =>
      rw [hw] at h
      rw [goW_op h]; unfold setI; repeat' split
      all_goals rfl
/-- the words of a text that is read, out of the instruction -/
theorem goW_words : ∀ {cs : List UInt8} {ws : List (List UInt8)} {i j : Ins}, (∀ c ∈ cs, c = 65 ∨ c = 66 ∨ c = 67 ∨ c = 75) → cs.Nodup → ws.length = cs.length → goW refW cs ws i = some j →
    (ws = cs.map fun c => wordL c (fldF j (c.toNat : Int))) ∧ ∀ c : UInt8, (c = 65 ∨ c = 66 ∨ c = 67 ∨ c = 75) → c ∉ cs → fldF j (c.toNat : Int) = fldF i (c.toNat : Int)
  | [], ws, i, j, _, _, hl, h => by
    have e := Option.some.inj h
    exact ⟨by rw [List.eq_nil_of_length_eq_zero hl]; rfl, fun c _ _ => by rw [← e]⟩
  | c :: cs, [], i, j, _, _, hl, h => by cases hl
  | c :: cs, w :: ws, i, j, hc, hn, hl, h => by
    unfold goW at h
    rw [List.headD_cons, List.tail_cons] at h
    cases hw : refW c w with
    | none => rw [hw] at h; cases h
    | some n =>
      rw [hw] at h
      obtain ⟨h1, h2⟩ := goW_words (fun x hx => hc x (List.mem_cons_of_mem _ hx)) (List.nodup_cons.1 hn).2 (by simpa using hl) h
      have hset : fldF (setI i (c.toNat : Int) n) (c.toNat : Int) = n := by
        rcases hc c (by simp) with rfl | rfl | rfl | rfl <;> rfl
      have hcc := (h2 c (hc c (by simp)) (List.nodup_cons.1 hn).1).trans hset
      refine ⟨by rw [List.map_cons, hcc, ← h1, ← (ref_mat hw).2], fun x hx hxn => ?_⟩
      rw [h2 x hx fun hm => hxn (List.mem_cons_of_mem _ hm)]
      have hne : x ≠ c := fun e => hxn (by rw [e]; simp)
      rcases hx with rfl | rfl | rfl | rfl <;> rcases hc c (by simp) with rfl | rfl | rfl | rfl <;> first | rfl | exact absurd rfl hne
theorem fields_shape (op : Int) : ls (fieldsF op) = [65, 75] ∨ ls (fieldsF op) = [65, 66] ∨ ls (fieldsF op) = [65, 66, 75] ∨ ls (fieldsF op) = [65, 66, 67] ∨ ls (fieldsF op) = [65, 66, 67, 75] := by
  unfold fieldsF; repeat' split
  · left; rfl
  · right; left; rfl
  · right; right; left; rfl
  · right; right; right; left; rfl
  · right; right; right; right; rfl
theorem fields_ok (op : Int) : (∀ c ∈ ls (fieldsF op), c = 65 ∨ c = 66 ∨ c = 67 ∨ c = 75) ∧ (ls (fieldsF op)).Nodup := by
  rcases fields_shape op with h | h | h | h | h <;> rw [h] <;> exact ⟨by decide, by decide⟩
theorem readI_some {f : UInt8 → List UInt8 → Option Int} {l : List UInt8} {j : Ins} (h : readI f l = some j) : 1 ≤ opW ((splitOn 32 l).headD []) ∧ (splitOn 32 l).length = 1 + (fieldsF (opW ((splitOn 32 l).headD []))).size ∧ goW f (ls (fieldsF (opW ((splitOn 32 l).headD [])))) (splitOn 32 l).tail ⟨opW ((splitOn 32 l).headD []), 0, 0, 0, 0⟩ = some j := by
  unfold readI at h
  split at h
  · cases h
  · rename_i hc; exact ⟨by omega, by omega, h⟩
theorem readI_yes {f : UInt8 → List UInt8 → Option Int} {l : List UInt8} (h1 : 1 ≤ opW ((splitOn 32 l).headD [])) (h2 : (splitOn 32 l).length = 1 + (fieldsF (opW ((splitOn 32 l).headD []))).size) : readI f l = goW f (ls (fieldsF (opW ((splitOn 32 l).headD [])))) (splitOn 32 l).tail ⟨opW ((splitOn 32 l).headD []), 0, 0, 0, 0⟩ := by
  unfold readI; rw [if_neg (by omega)]
theorem read_ref {l : List UInt8} {j : Ins} (h : readI refW l = some j) : readI matW l = some j ∧ textLs j = l := by
  obtain ⟨h1, h2, h3⟩ := readI_some h
  refine ⟨(readI_yes h1 h2).trans (goW_ref h3), ?_⟩
  have hop : j.gOp = opW ((splitOn 32 l).headD []) := goW_op h3
  obtain ⟨hw, _⟩ := goW_words (fields_ok _).1 (fields_ok _).2 (by rw [List.length_tail, h2, ls_length]; omega) h3
  have hn := (opN_name ((splitOn 32 l).headD []) 23).resolve_left (show ¬ opN _ 23 = 0 by show ¬ opW _ = 0; omega)
  have hj := split_join 32 l
  unfold textLs
  rw [hop, show nameL.getD (opW ((splitOn 32 l).headD [])).toNat ByteArray.empty = nameL.getD (opN ((splitOn 32 l).headD []) 23).toNat ByteArray.empty from rfl, hn]
  conv => rhs; rw [← hj]
  congr 1
  conv => rhs; rw [hw]
  rw [List.flatMap_map]; rfl
theorem itoa_blank (n : Int) : 32 ∉ Lib.itoa n := by
  obtain ⟨f1, _⟩ := form_itoa n
  have hc := canonL_facts (form_canon f1)
  have hd : 32 ∉ digL (Lib.itoa n) := fun h => by
    have := hc.2.1 32 h
    exact absurd this (by decide)
  intro h
  cases hn : negL (Lib.itoa n) with
  | true =>
    rw [digL_neg hn] at h
    rcases List.mem_cons.1 h with h | h
    · exact absurd h (by decide)
    · exact hd h
  | false => rw [digL_pos hn] at hd; exact hd h
theorem word_blank (c : UInt8) (n : Int) : 32 ∉ wordL c n := by
  unfold wordL
  intro h
  rcases List.mem_append.1 h with h | h
  · split at h
    · cases h
    · exact absurd (List.mem_singleton.1 h) (by decide)
  · exact itoa_blank n h
theorem name_blank {op : Int} (h : 1 ≤ op ∧ op ≤ 22) : 32 ∉ ls (nameL.getD op.toNat ByteArray.empty) := by
  rcases ops_cases h with rfl | rfl | rfl | rfl | rfl | rfl | rfl | rfl | rfl | rfl | rfl | rfl | rfl | rfl | rfl | rfl | rfl | rfl | rfl | rfl | rfl | rfl <;> decide +kernel
theorem split_text {j : Ins} (h : 1 ≤ j.gOp ∧ j.gOp ≤ 22) : splitOn 32 (textLs j) = ls (nameL.getD j.gOp.toNat ByteArray.empty) :: (ls (fieldsF j.gOp)).map fun c => wordL c (fldF j (c.toNat : Int)) := by
  have e : textLs j = ls (nameL.getD j.gOp.toNat ByteArray.empty) ++ ((ls (fieldsF j.gOp)).map fun c => wordL c (fldF j (c.toNat : Int))).flatMap fun w => 32 :: w := by
    unfold textLs; rw [List.flatMap_map]; rfl
  rw [e]
  exact split_cat (name_blank h) _ fun w hw => by
    obtain ⟨c, _, rfl⟩ := List.mem_map.1 hw
    exact word_blank c _
theorem goW_own {j : Ins} (h : formB j = true) : goW refW (ls (fieldsF j.gOp)) ((ls (fieldsF j.gOp)).map fun c => wordL c (fldF j (c.toNat : Int))) ⟨j.gOp, 0, 0, 0, 0⟩ = some j := by
  have hp := formB_iff.1 h
  have ha : refW 65 (wordL 65 j.gA) = some j.gA := ref_word 65 (by omega)
  have hb : refW 66 (wordL 66 j.gB) = some j.gB := ref_word 66 (by omega)
  have hc : refW 67 (wordL 67 j.gC) = some j.gC := ref_word 67 (by omega)
  have hk : refW 75 (wordL 75 j.gK) = some j.gK := ref_word 75 (by omega)
  have e1 : fldF j (((65 : UInt8).toNat : Nat) : Int) = j.gA := rfl
  have e2 : fldF j (((66 : UInt8).toNat : Nat) : Int) = j.gB := rfl
  have e3 : fldF j (((67 : UInt8).toNat : Nat) : Int) = j.gC := rfl
  have e4 : fldF j (((75 : UInt8).toNat : Nat) : Int) = j.gK := rfl
  have hB := has_B hp.1; have hC := has_C hp.1; have hK := has_K hp.1
  unfold hasF at hB hC hK
  rcases fields_shape j.gOp with h5 | h5 | h5 | h5 | h5 <;> rw [h5] at hB hC hK ⊢ <;> simp only [List.map_cons, List.map_nil, e1, e2, e3, e4, goW, List.headD_cons, List.tail_cons, ha, hb, hc, hk]
  · have z1 : j.gB = 0 := by have := mt hB.2 (by decide); omega
    have z2 : j.gC = 0 := by have := mt hC.2 (by decide); omega
    obtain ⟨o, a, b, c, k⟩ := j; simp only at z1 z2; subst z1 z2; rfl
  · have z1 : j.gK = 0 := by have := mt hK.2 (by decide); omega
    have z2 : j.gC = 0 := by have := mt hC.2 (by decide); omega
    obtain ⟨o, a, b, c, k⟩ := j; simp only at z1 z2; subst z1 z2; rfl
  · have z2 : j.gC = 0 := by have := mt hC.2 (by decide); omega
    obtain ⟨o, a, b, c, k⟩ := j; simp only at z2; subst z2; rfl
  · have z1 : j.gK = 0 := by have := mt hK.2 (by decide); omega
    obtain ⟨o, a, b, c, k⟩ := j; simp only at z1; subst z1; rfl
  · rfl
theorem read_own {j : Ins} (h : formB j = true) : readI refW (textLs j) = some j := by
  have hp := formB_iff.1 h
  have hs := split_text hp.1
  have ho : opW ((splitOn 32 (textLs j)).headD []) = j.gOp := by rw [hs]; exact opW_name hp.1
  rw [readI_yes (by rw [ho]; omega) (by rw [ho, hs, List.length_cons, List.length_map, ls_length]; omega), ho, hs, List.tail_cons]
  exact goW_own h
theorem read_own_filter {j : Ins} (h : formB j = true) : (readI refW (textLs j)).filter formB = some j := by rw [read_own h, Option.filter_some, if_pos h]
theorem filter_some {r : Option Ins} {j : Ins} (h : r.filter formB = some j) : r = some j ∧ formB j = true := by
  cases r with
  | none => cases h
  | some i =>
    rw [Option.filter_some] at h
    split at h
    · rename_i hf; have := Option.some.inj h; subst this; exact ⟨rfl, hf⟩
    · cases h
theorem text_len {j : Ins} (h : formB j = true) : (textLs j).length ≤ 95 := by
  have hp := formB_iff.1 h
  have hn := name_size hp.1
  rw [← ls_length] at hn
  have hw : ∀ c : UInt8, (c = 65 ∨ c = 66 ∨ c = 67 ∨ c = 75) → (partL j c).length ≤ 22 := fun c hc => by
    have hb : -9223372036854775808 ≤ fldF j (c.toNat : Int) ∧ fldF j (c.toNat : Int) ≤ 9223372036854775807 := by
      rcases hc with rfl | rfl | rfl | rfl
      · show _ ≤ j.gA ∧ j.gA ≤ _; omega
      · show _ ≤ j.gB ∧ j.gB ≤ _; omega
      · show _ ≤ j.gC ∧ j.gC ≤ _; omega
      · show _ ≤ j.gK ∧ j.gK ≤ _; omega
    have := itoa_len hb
    unfold partL wordL
    rw [List.length_cons, List.length_append]
    split <;> simp only [List.length_nil, List.length_singleton] <;> omega
  have a := hw 65 (by decide); have b := hw 66 (by decide); have c := hw 67 (by decide); have d := hw 75 (by decide)
  unfold textLs
  rw [List.length_append]
  rcases fields_shape j.gOp with h5 | h5 | h5 | h5 | h5 <;> rw [h5] <;> simp only [List.flatMap_cons, List.flatMap_nil, List.length_append, List.length_nil] <;> omega
theorem textI_yes {j : Ins} (h : formB j = true) : ls (textI j) = textLs j ∧ (textI j).size ≤ 95 := by
  have e : ls (textI j) = textLs j := by unfold textI; rw [if_pos h]
  exact ⟨e, by rw [← ls_length, e]; exact text_len h⟩
theorem textI_no {j : Ins} (h : formB j = false) : textI j = ByteArray.empty := by unfold textI; rw [if_neg (by rw [h]; decide)]
theorem read_empty (f : UInt8 → List UInt8 → Option Int) : readI f [] = none := by
  unfold readI; rw [if_pos]; left
  rw [show (splitOn 32 []).headD [] = [] from rfl, show opW [] = 0 by decide +kernel]; decide
/-- what the program does with what it has read -/
theorem par_long {s : ByteArray} (h : 100 < s.size) : parI s = ins0 ∧ parIE s = 5 := by unfold parI parIE; rw [if_pos h, if_pos h]; exact ⟨rfl, rfl⟩
theorem par_val {s : ByteArray} {j : Ins} (h : ¬ 100 < s.size) (hf : (readI refW (ls s)).filter formB = some j) : parI s = j ∧ parIE s = 0 := by unfold parI parIE; rw [if_neg h, if_neg h, hf]; exact ⟨rfl, rfl⟩
theorem par_none {s : ByteArray} (h : ¬ 100 < s.size) (hf : (readI refW (ls s)).filter formB = none) : parI s = ins0 ∧ parIE s = 3 := by unfold parI parIE; rw [if_neg h, if_neg h, hf]; exact ⟨rfl, rfl⟩
theorem ref_none {s : ByteArray} (h : ¬ 100 < s.size) (hf : readI refW (ls s) = none) : parI s = ins0 ∧ parIE s = 3 := par_none h (by rw [hf]; rfl)
theorem ref_ill {s : ByteArray} {j : Ins} (h : ¬ 100 < s.size) (hf : readI refW (ls s) = some j) (hn : formB j = false) : parI s = ins0 ∧ parIE s = 3 := par_none h (by rw [hf, Option.filter_some, if_neg (by rw [hn]; decide)])
theorem ref_yes {s : ByteArray} {j : Ins} (h : ¬ 100 < s.size) (hf : readI refW (ls s) = some j) (hn : formB j = true) : parI s = j ∧ parIE s = 0 := par_val h (by rw [hf, Option.filter_some, if_pos hn])
theorem mat_none {s : ByteArray} (h : ¬ 100 < s.size) (hm : readI matW (ls s) = none) : parI s = ins0 ∧ parIE s = 3 := by
  cases hf : (readI refW (ls s)).filter formB with
  | none => exact par_none h hf
  | some j => have := (read_ref (filter_some hf).1).1; rw [hm] at this; cases this
theorem mat_other {s : ByteArray} {j : Ins} (h : ¬ 100 < s.size) (hm : readI matW (ls s) = some j) (ht : ((textI j).toList == s.toList) = false) : parI s = ins0 ∧ parIE s = 3 := by
  cases hf : (readI refW (ls s)).filter formB with
  | none => exact par_none h hf
  | some i =>
    obtain ⟨h1, h2⟩ := filter_some hf
    obtain ⟨h3, h4⟩ := read_ref h1
    rw [hm] at h3
    have e := Option.some.inj h3; subst e
    rw [beq_ls, beq_eq_false_iff_ne] at ht
    exact absurd ((textI_yes h2).1.trans h4) ht
theorem mat_same {s : ByteArray} {j : Ins} (h : ¬ 100 < s.size) (hm : readI matW (ls s) = some j) (ht : ((textI j).toList == s.toList) = true) : parI s = j ∧ parIE s = 0 := by
  rw [beq_ls, beq_iff_eq] at ht
  cases hf : formB j with
  | false => rw [textI_no hf] at ht; rw [← ht] at hm; rw [show ls ByteArray.empty = [] from rfl, read_empty] at hm; cases hm
  | true => exact par_val h (by rw [← ht, (textI_yes hf).1]; exact read_own_filter hf)
theorem parI_text {s : ByteArray} (h : parIE s = 0) : ((textI (parI s)).toList == s.toList) = true := by
  have h0 : ¬ 100 < s.size := fun hh => by rw [(par_long hh).2] at h; cases h
  cases hf : (readI refW (ls s)).filter formB with
  | none => rw [(par_none h0 hf).2] at h; cases h
  | some j =>
    rw [(par_val h0 hf).1, beq_ls, beq_iff_eq]
    obtain ⟨h1, h2⟩ := filter_some hf
    exact (textI_yes h2).1.trans (read_ref h1).2
theorem par_own {i : Ins} (h : formB i = true) : parI (textI i) = i ∧ parIE (textI i) = 0 := by
  obtain ⟨h1, h2⟩ := textI_yes h
  exact par_val (by omega) (by rw [h1]; exact read_own_filter h)

/-! bytes -/
theorem wrapB (n : Int) : IntKind.wrap .u8 n = n % 256 := by simp [IntKind.wrap, IntKind.bits, IntKind.signed]
theorem or_byte {k b : Int} (hk : 0 ≤ k ∧ k < 72057594037927936) (hb : 0 ≤ b ∧ b < 256) : IntKind.wrap .u64 ((BitVec.ofInt 64 (k * 256) ||| BitVec.ofInt 64 b).toNat : Int) = k * 256 + b := by
  obtain ⟨k, rfl⟩ := Int.eq_ofNat_of_zero_le hk.1
  obtain ⟨b, rfl⟩ := Int.eq_ofNat_of_zero_le hb.1
  rw [BitVec.toNat_or, wrapU]
  have e1 : (BitVec.ofInt 64 ((k : Int) * 256)).toNat = k * 256 := by
    rw [show ((k : Int) * 256) = ((k * 256 : Nat) : Int) by omega, BitVec.ofInt_natCast, BitVec.toNat_ofNat]; omega
  have e2 : (BitVec.ofInt 64 (b : Int)).toNat = b := by rw [BitVec.ofInt_natCast, BitVec.toNat_ofNat]; omega
  rw [e1, e2, show k * 256 = k <<< 8 by rw [Nat.shiftLeft_eq], ← Nat.shiftLeft_add_eq_or_of_lt (by omega), Nat.shiftLeft_eq]
  omega
theorem ones_drop {α : Type} {g : α → Value} {w : World} {a : Option Addr} {len : Nat} {l : List α} (h : Ones g w a len l) (cap k : Nat) (hk : k ≤ len) (hc : len ≤ cap) : Ones g w (subA a cap k 1) (len - k) (l.drop k) := by
  refine ⟨by rw [List.length_drop, h.len_eq], fun j v hj => ?_⟩
  rw [List.map_drop, List.getElem?_drop] at hj
  obtain ⟨p, hp, hcell⟩ := h.cells _ _ hj
  have hlt : k + j < len := by
    have := (List.getElem?_eq_some_iff.1 hj).1
    rw [List.length_map, h.len_eq] at this; exact this
  unfold subA
  rw [if_neg (by omega), hp]
  exact ⟨p.add (k * 1), rfl, by rw [addr_add_add, Nat.mul_one]; exact hcell⟩
def u64F (k : Int) : Int := k % 18446744073709551616
def encL (i : Ins) : List Int := [i.gOp % 256, i.gA % 256, i.gB % 256, i.gC % 256, u64F i.gK / 72057594037927936 % 256, u64F i.gK / 281474976710656 % 256, u64F i.gK / 1099511627776 % 256, u64F i.gK / 4294967296 % 256, u64F i.gK / 16777216 % 256, u64F i.gK / 65536 % 256, u64F i.gK / 256 % 256, u64F i.gK / 1 % 256]
def encX (i : Ins) : List Int := if formB i then encL i else []
def encE (i : Ins) : Int := if formB i then 0 else 1
theorem encX_yes {i : Ins} (h : formB i = true) : encX i = encL i ∧ encE i = 0 := by unfold encX encE; rw [if_pos h, if_pos h]; exact ⟨rfl, rfl⟩
theorem encX_no {i : Ins} (h : formB i = false) : encX i = [] ∧ encE i = 1 := by unfold encX encE; rw [if_neg (by rw [h]; decide), if_neg (by rw [h]; decide)]; exact ⟨rfl, rfl⟩
theorem encL_q (i : Ins) : ∀ y ∈ encL i, 0 ≤ y ∧ y ≤ 255 := by
  unfold encL; simp only [List.forall_mem_cons]
  exact ⟨by omega, by omega, by omega, by omega, by omega, by omega, by omega, by omega, by omega, by omega, by omega, by omega, fun x h => by cases h⟩
theorem encX_q (i : Ins) : ∀ y ∈ encX i, 0 ≤ y ∧ y ≤ 255 := by
  unfold encX; split
  · exact encL_q i
  · intro y h; cases h
theorem encX_len (i : Ins) : (encX i).length = 12 ∨ (encX i).length = 0 := by unfold encX; split; exact .inl rfl; exact .inr rfl
def decN (l : List Int) : Nat → Int
  | 0 => 0
  | n + 1 => decN l n * 256 + l.getD (4 + n) 0
def decU (l : List Int) : Int := decN l 8
theorem decN_bd {l : List Int} (hq : ∀ y ∈ l, 0 ≤ y ∧ y ≤ 255) : ∀ n, 0 ≤ decN l n ∧ decN l n < 256 ^ n
  | 0 => by unfold decN; omega
  | n + 1 => by
    have ih := decN_bd hq n
    have hb : 0 ≤ l.getD (4 + n) 0 ∧ l.getD (4 + n) 0 ≤ 255 := by
      rw [List.getD_eq_getElem?_getD]
      cases h : l[4 + n]? with
      | none => simp
      | some y => exact hq y (List.mem_of_getElem? h)
    rw [decN, Int.pow_succ]; omega
theorem decN_seven {l : List Int} (hq : ∀ y ∈ l, 0 ≤ y ∧ y ≤ 255) {n : Nat} (h : n ≤ 7) : 0 ≤ decN l n ∧ decN l n < 72057594037927936 := by
  have h2 := decN_bd hq n
  refine ⟨h2.1, Int.lt_of_lt_of_le h2.2 ?_⟩
  rcases (by omega : n = 0 ∨ n = 1 ∨ n = 2 ∨ n = 3 ∨ n = 4 ∨ n = 5 ∨ n = 6 ∨ n = 7) with rfl | rfl | rfl | rfl | rfl | rfl | rfl | rfl <;> decide
theorem decU_eq (l : List Int) : decU l = (((((((l.getD 4 0) * 256 + l.getD 5 0) * 256 + l.getD 6 0) * 256 + l.getD 7 0) * 256 + l.getD 8 0) * 256 + l.getD 9 0) * 256 + l.getD 10 0) * 256 + l.getD 11 0 := by
  simp only [decU, decN, Int.zero_mul, Int.zero_add]
theorem decN_eight {l : List Int} (hq : ∀ y ∈ l, 0 ≤ y ∧ y ≤ 255) : 0 ≤ decU l ∧ decU l < 18446744073709551616 := by
  have := decN_bd hq 8
  have h3 : (256 : Int) ^ 8 = 18446744073709551616 := by decide
  unfold decU; omega
def decK (u : Int) : Int := if u < 9223372036854775808 then u else u - 18446744073709551616
theorem wrap_decK {u : Int} (h : 0 ≤ u ∧ u < 18446744073709551616) : IntKind.wrap .i64 u = decK u := by
  unfold decK
  by_cases hu : u < 9223372036854775808
  · rw [if_pos hu]; exact IntWalk.i64_in _ (by omega)
  · rw [if_neg hu]
    have e := wrap_i64_neg (m := 18446744073709551616 - u) (by omega)
    rw [show 18446744073709551616 - (18446744073709551616 - u) = u by omega] at e
    rw [e]; omega
theorem decK_bd {u : Int} (h : 0 ≤ u ∧ u < 18446744073709551616) : -9223372036854775808 ≤ decK u ∧ decK u ≤ 9223372036854775807 := by unfold decK; split <;> omega
def decI (l : List Int) : Ins := ⟨l.getD 0 0, l.getD 1 0, l.getD 2 0, l.getD 3 0, decK (decU l)⟩
def decB (l : List Int) : Bool := decide (l.length = 12) && formB (decI l)
def decR (l : List Int) : Ins := if decB l then decI l else ⟨0, 0, 0, 0, 0⟩
def decE (l : List Int) : Int := if decB l then 0 else 3
theorem dec_no {l : List Int} (h : l.length ≠ 12 ∨ formB (decI l) = false) : decR l = ⟨0, 0, 0, 0, 0⟩ ∧ decE l = 3 ∧ decB l = false := by
  have e : decB l = false := by
    unfold decB
    rcases h with h | h
    · rw [decide_eq_false h]; rfl
    · rw [h, Bool.and_false]
  unfold decR decE; rw [e]; exact ⟨rfl, rfl, rfl⟩
theorem dec_yes {l : List Int} (h1 : l.length = 12) (h : formB (decI l) = true) : decR l = decI l ∧ decE l = 0 ∧ decB l = true := by
  have e : decB l = true := by unfold decB; rw [decide_eq_true h1, h]; rfl
  unfold decR decE; rw [e]; exact ⟨rfl, rfl, rfl⟩
theorem dec_enc {i : Ins} (h : formB i = true) : decR (encX i) = i ∧ decE (encX i) = 0 := by
  have hp := formB_iff.1 h
  have e : decI (encX i) = i := by
    rw [(encX_yes h).1]
    obtain ⟨o, a, b, c, k⟩ := i
    simp only at hp
    unfold decI encL
    simp only [List.getD_cons_zero, List.getD_cons_succ]
    have h1 : u64F k < 18446744073709551616 ∧ 0 ≤ u64F k ∧ (0 ≤ k → u64F k = k) ∧ (k < 0 → u64F k = k + 18446744073709551616) := by unfold u64F; omega
    generalize u64F k = u at h1
    have h2 : ((((((u / 72057594037927936 % 256 * 256 + u / 281474976710656 % 256) * 256 + u / 1099511627776 % 256) * 256 + u / 4294967296 % 256) * 256 + u / 16777216 % 256) * 256 + u / 65536 % 256) * 256 + u / 256 % 256) * 256 + u / 1 % 256 = u := by
      have a1 := Int.mul_ediv_add_emod u 256
      have a2 := Int.mul_ediv_add_emod (u / 256) 256
      have a3 := Int.mul_ediv_add_emod (u / 256 / 256) 256
      have a4 := Int.mul_ediv_add_emod (u / 256 / 256 / 256) 256
      have a5 := Int.mul_ediv_add_emod (u / 256 / 256 / 256 / 256) 256
      have a6 := Int.mul_ediv_add_emod (u / 256 / 256 / 256 / 256 / 256) 256
      have a7 := Int.mul_ediv_add_emod (u / 256 / 256 / 256 / 256 / 256 / 256) 256
      have b2 : u / 65536 = u / 256 / 256 := by rw [Int.ediv_ediv_of_nonneg (by decide)]; rfl
      have b3 : u / 16777216 = u / 256 / 256 / 256 := by rw [Int.ediv_ediv_of_nonneg (by decide), Int.ediv_ediv_of_nonneg (by decide)]; rfl
      have b4 : u / 4294967296 = u / 256 / 256 / 256 / 256 := by rw [Int.ediv_ediv_of_nonneg (by decide), Int.ediv_ediv_of_nonneg (by decide), Int.ediv_ediv_of_nonneg (by decide)]; rfl
      have b5 : u / 1099511627776 = u / 256 / 256 / 256 / 256 / 256 := by rw [Int.ediv_ediv_of_nonneg (by decide), Int.ediv_ediv_of_nonneg (by decide), Int.ediv_ediv_of_nonneg (by decide), Int.ediv_ediv_of_nonneg (by decide)]; rfl
      have b6 : u / 281474976710656 = u / 256 / 256 / 256 / 256 / 256 / 256 := by rw [Int.ediv_ediv_of_nonneg (by decide), Int.ediv_ediv_of_nonneg (by decide), Int.ediv_ediv_of_nonneg (by decide), Int.ediv_ediv_of_nonneg (by decide), Int.ediv_ediv_of_nonneg (by decide)]; rfl
      have b7 : u / 72057594037927936 = u / 256 / 256 / 256 / 256 / 256 / 256 / 256 := by rw [Int.ediv_ediv_of_nonneg (by decide), Int.ediv_ediv_of_nonneg (by decide), Int.ediv_ediv_of_nonneg (by decide), Int.ediv_ediv_of_nonneg (by decide), Int.ediv_ediv_of_nonneg (by decide), Int.ediv_ediv_of_nonneg (by decide)]; rfl
      rw [b2, b3, b4, b5, b6, b7, Int.ediv_one]
      omega
    rw [show decU [o % 256, a % 256, b % 256, c % 256, u / 72057594037927936 % 256, u / 281474976710656 % 256, u / 1099511627776 % 256, u / 4294967296 % 256, u / 16777216 % 256, u / 65536 % 256, u / 256 % 256, u / 1 % 256] = u from (decU_eq _).trans h2]
    have h3 : decK u = k := by unfold decK; split <;> omega
    rw [h3, show o % 256 = o by omega, show a % 256 = a by omega, show b % 256 = b by omega, show c % 256 = c by omega]
  obtain ⟨d1, d2, _⟩ := dec_yes (l := encX i) (by rw [(encX_yes h).1]; rfl) (by rw [e]; exact h)
  rw [d1, d2, e]; exact ⟨rfl, rfl⟩
/-! walks of texts -/
theorem has_yes {s : ByteArray} {c : Int} {i : Nat} (hi : i < s.size) (h : byteAt s i = c) : hasF s c = true := by
  unfold hasF; rw [List.any_eq_true]
  have hl := ls_length s
  refine ⟨(ls s).getD i 0, ?_, by rw [beq_iff_eq, ← h, byteAt_ls]⟩
  rw [List.getD_eq_getElem?_getD, List.getElem?_eq_getElem (by omega)]; exact List.getElem_mem _
theorem has_no {s : ByteArray} {c : Int} (h : ∀ j, j < s.size → byteAt s j ≠ c) : hasF s c = false := by
  unfold hasF; rw [List.any_eq_false]
  intro x hx
  obtain ⟨j, hj, rfl⟩ := List.mem_iff_getElem.1 hx
  have := h j (by rw [← ls_length]; exact hj)
  rw [byteAt_ls, List.getD_eq_getElem?_getD, List.getElem?_eq_getElem hj] at this
  simpa using this
theorem byte_eq {s : ByteArray} {k : Nat} {c : Nat} (hc : c < 256) : byteAt s k = c ↔ (ls s).getD k 0 = UInt8.ofNat c := by
  rw [byteAt_ls]
  constructor
  · intro h; apply UInt8.toNat_inj.1; rw [UInt8.toNat_ofNat', Nat.mod_eq_of_lt (by omega)]; omega
  · intro h; rw [h, UInt8.toNat_ofNat', Nat.mod_eq_of_lt (by omega)]
theorem take_one {l : List UInt8} {k : Nat} (hk : k < l.length) : l.take (k + 1) = l.take k ++ [l.getD k 0] := by
  rw [List.take_add_one, List.getD_eq_getElem?_getD, List.getElem?_eq_getElem hk]; rfl
theorem text_step {i : Ins} {t u F : ByteArray} {N : List UInt8} {k : Int} (h0 : 0 ≤ k) (hk : k < (F.size : Int)) (ht : ls t = N ++ ((ls F).take k.toNat).flatMap (partL i)) (hu : ls u = ls t ++ partL i ((ls F).getD k.toNat 0)) :
    ls u = N ++ ((ls F).take (k + 1).toNat).flatMap (partL i) := by
  rw [hu, ht, show (k + 1).toNat = k.toNat + 1 by omega, take_one (by rw [ls_length]; omega), List.flatMap_append, List.append_assoc]; simp
theorem part_r {i : Ins} {t F : ByteArray} {k : Nat} (h : byteAt F k ≠ 75) : ls (((t ++ (⟨#[32]⟩ : ByteArray)) ++ (⟨#[114]⟩ : ByteArray)) ++ itoaB (fldF i (byteAt F k))) = ls t ++ partL i ((ls F).getD k 0) := by
  unfold partL wordL
  rw [if_neg (show ¬ (ls F).getD k 0 = 75 from fun e => h ((byte_eq (c := 75) (by decide)).2 e)), ls_append, ls_append, ls_append, ← byteAt_ls]
  simp only [List.append_assoc]; rfl
theorem part_k {i : Ins} {t F : ByteArray} {k : Nat} (h : byteAt F k = 75) : ls ((t ++ (⟨#[32]⟩ : ByteArray)) ++ itoaB (fldF i (byteAt F k))) = ls t ++ partL i ((ls F).getD k 0) := by
  unfold partL wordL
  rw [if_pos (show (ls F).getD k 0 = 75 from (byte_eq (c := 75) (by decide)).1 h), ls_append, ls_append, ← byteAt_ls]
  simp only [List.append_assoc]; rfl
theorem fld_bd {i : Ins} (h : (-9223372036854775808 ≤ i.gA ∧ i.gA ≤ 9223372036854775807) ∧ (-9223372036854775808 ≤ i.gB ∧ i.gB ≤ 9223372036854775807) ∧ (-9223372036854775808 ≤ i.gC ∧ i.gC ≤ 9223372036854775807) ∧ (-9223372036854775808 ≤ i.gK ∧ i.gK ≤ 9223372036854775807)) (c : Int) : -9223372036854775808 ≤ fldF i c ∧ fldF i c ≤ 9223372036854775807 := by
  unfold fldF; repeat' split
  · exact h.1
  · exact h.2.1
  · exact h.2.2.1
  · exact h.2.2.2
theorem text_done {i : Ins} {t : ByteArray} (h : formB i = true) (ht : ls t = ls (rowsL.getD i.gOp.toNat rwo0).gname ++ ((ls (rowsL.getD i.gOp.toNat rwo0).gfields).take (rowsL.getD i.gOp.toNat rwo0).gfields.size).flatMap (partL i)) : t = textI i := by
  have hp := formB_iff.1 h
  obtain ⟨r1, r2, _⟩ := rows_at hp.1
  apply ls_inj
  rw [(textI_yes h).1, ht, r1, r2, ← ls_length, List.take_length]; rfl
theorem rtext_done {i : Ins} {t : ByteArray} {b c k : Bool} (h : formB i = true) (hb : hasF (fieldsF i.gOp) 66 = b) (hc : hasF (fieldsF i.gOp) 67 = c) (hk : hasF (fieldsF i.gOp) 75 = k)
    (ht : ls t = ls (nameL.getD i.gOp.toNat ByteArray.empty) ++ (32 :: 114 :: Lib.itoa i.gA) ++ (if b then 32 :: 114 :: Lib.itoa i.gB else []) ++ (if c then 32 :: 114 :: Lib.itoa i.gC else []) ++ (if k then 32 :: Lib.itoa i.gK else [])) : t = textI i := by
  apply ls_inj
  rw [(textI_yes h).1, ht]
  subst hb hc hk
  unfold textLs hasF
  have e1 : partL i 65 = 32 :: 114 :: Lib.itoa i.gA := rfl
  have e2 : partL i 66 = 32 :: 114 :: Lib.itoa i.gB := rfl
  have e3 : partL i 67 = 32 :: 114 :: Lib.itoa i.gC := rfl
  have e4 : partL i 75 = 32 :: Lib.itoa i.gK := rfl
  rcases fields_shape i.gOp with h5 | h5 | h5 | h5 | h5 <;> rw [h5] <;> simp [e1, e2, e3, e4]
theorem trim_eq (w : List UInt8) : Lib.trimPrefix w [114] = trimR w := by
  unfold Lib.trimPrefix Lib.hasPrefix trimR
  cases w with
  | nil => rfl
  | cons x r =>
    by_cases hx : x = 114
    · subst hx; simp
    · simp [hx, Ne.symm hx]

theorem hb20 : HasBody Tryd.prog 20 := fun _ _ => by kernel_rfl
noncomputable def K20_0 : List Item := adv 11 [] (bodyOf Tryd.f20)
noncomputable def K20_1 : List Item := adv 8 [] K20_0
noncomputable def K20_2 : List Item := adv 8 [true] K20_1
noncomputable def K20_3 : List Item := adv 3 [] (popK K20_2)
noncomputable def K20_4 : List Item := adv 5 [true] K20_3
noncomputable def K20_5 : List Item := adv 6 [false] K20_3
noncomputable def K20_6 : List Item := adv 6 [false] K20_1
set_option maxRecDepth 20000 in
set_option maxHeartbeats 20000000 in
theorem uses_any (s : ByteArray) (c : Int) (w : World) (hs : s.size ≤ 9223372036854775807) : Ret Tryd.prog 20 #[.string s, .int .u8 c] w (fun v w' => v = .bool (hasF s c) ∧ Sep w [] w') := by
 have S0 := Sep.refl w
 refine Ret.named fun R hR => ?_
 refine Ret.of_J (N := 17) [(0, .string s), (1, .int .u8 c)] Tryd.func20 rfl rfl (Nat.le_of_ble_eq_true (by kernel_rfl)) (by kernel_rfl) ?_
 refine J.run 11 K20_0 [(5, .int .i64 0), (0, .string s), (1, .int .u8 c)] w (by kernel_rfl) ?_
 have L20_1 : ∀ (mm_ : Nat) (i : Int) (w1 : World), (0 ≤ i) → (i ≤ (s.size : Int)) → (∀ j, j < (i).toNat → byteAt s j ≠ c) → Sep w [] w1 → ((s.size : Int) - i).toNat = mm_ → J Tryd.prog 20 17 R K20_0 [(5, .int .i64 i), (0, .string s), (1, .int .u8 c)] w1 := by
  intro mm1
  induction mm1 using Nat.strongRecOn with
  | _ mm1 ih1 =>
  intro i w1 h0 h1 hq S1 hm1
  refine J.run 8 K20_1 [(9, .bool (decide (i < (s.size : Int)))), (5, .int .i64 i), (0, .string s), (1, .int .u8 c)] w1 (by kernel_rfl) ?_
  by_cases fk1 : i < (s.size : Int)
  ·skip
   refine J.head (.bool true) (congrArg Value.bool (decide_eq_true fk1)) ?_
   refine J.run 8 K20_2 [(13, .int .i64 i), (12, .string s), (5, .int .i64 i), (0, .string s), (1, .int .u8 c)] w1 (by kernel_rfl) ?_
   have := byteAt_bounds s (i).toNat
   refine J.ok (OK.byte 14 9 s i (byteAt s (i).toNat) (by kernel_rfl) (by kernel_rfl) (by omega) (by omega) (rfl)) ?_
   refine J.run 3 K20_3 [(16, .bool ((byteAt s (i).toNat) == c)), (5, .int .i64 i), (0, .string s), (1, .int .u8 c)] w1 (by kernel_rfl) ?_
   by_cases fk2 : (byteAt s (i).toNat) = c
   ·skip
    refine J.head (.bool true) (congrArg Value.bool (beq_iff_eq.2 fk2)) ?_
    refine J.run 5 K20_4 [(4, .bool true)] w1 (by kernel_rfl) ?_
    refine J.ret Tryd.f20 [.bool true] Tryd.func20 ⟨by kernel_rfl, trivial⟩ ?_
    refine hR _ _ ?_
    exact ⟨congrArg Value.bool (has_yes (i := i.toNat) (by omega) (by omega)).symm, S1.nil⟩
   ·skip
    refine J.head (.bool false) (congrArg Value.bool (beq_eq_false_iff_ne.2 fk2)) ?_
    refine J.run 6 K20_5 [(11, .int .i64 (IntKind.wrap .i64 (i + 1))), (0, .string s), (1, .int .u8 c)] w1 (by kernel_rfl) ?_
    refine J.head (.int .i64 (i + 1)) (congrArg (Value.int .i64) (IntWalk.i64_in _ (by omega))) ?_
    refine J.run 3 K20_0 [(5, .int .i64 (i + 1)), (0, .string s), (1, .int .u8 c)] w1 (by kernel_rfl) ?_
    refine J.run 0 K20_0 [(5, .int .i64 (i + 1)), (0, .string s), (1, .int .u8 c)] w1 (by kernel_rfl) ?_
    exact ih1 _ (show ((s.size : Int) - (i + 1)).toNat < mm1 from by omega) (i + 1) w1 (by omega) (by omega) (dg_step (q := fun j => byteAt s j ≠ c) h0 hq (by omega)) S1 rfl
  ·skip
   refine J.head (.bool false) (congrArg Value.bool (decide_eq_false fk1)) ?_
   refine J.run 6 K20_6 [(4, .bool false)] w1 (by kernel_rfl) ?_
   refine J.ret Tryd.f20 [.bool false] Tryd.func20 ⟨by kernel_rfl, trivial⟩ ?_
   refine hR _ _ ?_
   exact ⟨congrArg Value.bool (has_no fun j hj => hq j (by omega)).symm, S1.nil⟩
 exact L20_1 _ 0 w (by omega) (by omega) (by intro j hj; simp at hj) S0 rfl

theorem hb7 : HasBody Tryd.prog 7 := fun _ _ => by kernel_rfl
noncomputable def K7_0 : List Item := adv 2 [] (bodyOf Tryd.f7)
noncomputable def K7_1 : List Item := adv 6 [] (popK K7_0)
noncomputable def K7_2 : List Item := adv 2 [] (popK K7_1)
noncomputable def K7_3 : List Item := adv 40 [true] K7_2
noncomputable def K7_4 : List Item := adv 1 [] K7_2
noncomputable def K7_5 : List Item := adv 3 [] (popK K7_4)
noncomputable def K7_6 : List Item := adv 35 [true] K7_5
noncomputable def K7_7 : List Item := adv 1 [] K7_5
noncomputable def K7_8 : List Item := adv 3 [] (popK K7_7)
noncomputable def K7_9 : List Item := adv 30 [true] K7_8
noncomputable def K7_10 : List Item := adv 1 [] K7_8
noncomputable def K7_11 : List Item := adv 3 [] (popK K7_10)
noncomputable def K7_12 : List Item := adv 25 [true] K7_11
noncomputable def K7_13 : List Item := adv 1 [] K7_11
noncomputable def K7_14 : List Item := adv 3 [] (popK K7_13)
noncomputable def K7_15 : List Item := adv 20 [true] K7_14
noncomputable def K7_16 : List Item := adv 1 [] K7_14
noncomputable def K7_17 : List Item := adv 3 [] (popK K7_16)
noncomputable def K7_18 : List Item := adv 15 [true] K7_17
noncomputable def K7_19 : List Item := adv 1 [] K7_17
noncomputable def K7_20 : List Item := adv 3 [] (popK K7_19)
noncomputable def K7_21 : List Item := adv 10 [true] K7_20
noncomputable def K7_22 : List Item := adv 1 [] K7_20
noncomputable def K7_23 : List Item := adv 3 [] (popK K7_22)
noncomputable def K7_24 : List Item := adv 5 [true] K7_23
noncomputable def K7_25 : List Item := adv 5 [false] K7_23
noncomputable def K7_26 : List Item := adv 4 [] (popK (popK K7_25))
noncomputable def K7_27 : List Item := List.drop 1 K7_26
noncomputable def K7_28 : List Item := adv 5 [true] K7_27
noncomputable def K7_29 : List Item := adv 5 [false] K7_27
noncomputable def K7_30 : List Item := adv 1 [] (popK K7_29)
noncomputable def K7_31 : List Item := adv 12 [] (popK K7_30)
noncomputable def K7_32 : List Item := adv 7 [] (popK K7_31)
noncomputable def K7_33 : List Item := adv 4 [true] K7_32
noncomputable def K7_34 : List Item := adv 2 [] (popK K7_33)
noncomputable def K7_35 : List Item := adv 1 [] K7_34
noncomputable def K7_36 : List Item := adv 4 [] (popK K7_35)
noncomputable def K7_37 : List Item := adv 6 [] K7_34
noncomputable def K7_38 : List Item := adv 7 [false] K7_32
noncomputable def K7_39 : List Item := adv 6 [true, true] K7_38
noncomputable def K7_40 : List Item := adv 2 [] (popK K7_39)
noncomputable def K7_41 : List Item := adv 5 [] K7_40
noncomputable def K7_42 : List Item := adv 5 [] K7_40
noncomputable def K7_43 : List Item := adv 6 [false] K7_38
noncomputable def K7_44 : List Item := adv 6 [true, true] K7_43
noncomputable def K7_45 : List Item := adv 2 [] (popK K7_44)
noncomputable def K7_46 : List Item := adv 5 [] K7_45
noncomputable def K7_47 : List Item := adv 5 [] K7_45
noncomputable def K7_48 : List Item := adv 6 [false] K7_43
noncomputable def K7_49 : List Item := adv 6 [true, true] K7_48
noncomputable def K7_50 : List Item := adv 2 [] (popK K7_49)
noncomputable def K7_51 : List Item := adv 5 [] K7_50
noncomputable def K7_52 : List Item := adv 5 [] K7_50
noncomputable def K7_53 : List Item := adv 5 [false] K7_48
noncomputable def K7_54 : List Item := adv 4 [true] K7_53
noncomputable def K7_55 : List Item := adv 2 [] (popK K7_54)
noncomputable def K7_56 : List Item := adv 5 [] K7_55
noncomputable def K7_57 : List Item := adv 5 [] K7_55
noncomputable def K7_58 : List Item := adv 7 [false] K7_53
noncomputable def K7_59 : List Item := adv 6 [true, true] K7_58
noncomputable def K7_60 : List Item := adv 2 [] (popK K7_59)
noncomputable def K7_61 : List Item := adv 4 [] K7_60
noncomputable def K7_62 : List Item := adv 5 [] K7_61
noncomputable def K7_63 : List Item := adv 5 [] K7_61
noncomputable def K7_64 : List Item := adv 9 [] K7_60
noncomputable def K7_65 : List Item := adv 5 [false] K7_58
noncomputable def K7_66 : List Item := adv 4 [true] K7_65
noncomputable def K7_67 : List Item := adv 2 [] (popK K7_66)
noncomputable def K7_68 : List Item := adv 4 [] K7_67
noncomputable def K7_69 : List Item := adv 5 [] K7_68
noncomputable def K7_70 : List Item := adv 5 [] K7_68
noncomputable def K7_71 : List Item := adv 9 [] K7_67
noncomputable def K7_72 : List Item := adv 7 [false] K7_65
noncomputable def K7_73 : List Item := adv 6 [true, true] K7_72
noncomputable def K7_74 : List Item := adv 2 [] (popK K7_73)
noncomputable def K7_75 : List Item := adv 4 [] K7_74
noncomputable def K7_76 : List Item := adv 5 [] K7_75
noncomputable def K7_77 : List Item := adv 5 [] K7_75
noncomputable def K7_78 : List Item := adv 9 [] K7_74
noncomputable def K7_79 : List Item := adv 5 [false] K7_72
noncomputable def K7_80 : List Item := adv 4 [true] K7_79
noncomputable def K7_81 : List Item := adv 2 [] (popK K7_80)
noncomputable def K7_82 : List Item := adv 4 [] K7_81
noncomputable def K7_83 : List Item := adv 5 [] K7_82
noncomputable def K7_84 : List Item := adv 5 [] K7_82
noncomputable def K7_85 : List Item := adv 9 [] K7_81
noncomputable def K7_86 : List Item := adv 6 [false] K7_79
noncomputable def K7_87 : List Item := adv 4 [true] K7_86
noncomputable def K7_88 : List Item := adv 2 [] (popK K7_87)
noncomputable def K7_89 : List Item := adv 1 [] K7_88
noncomputable def K7_90 : List Item := adv 4 [] (popK K7_89)
noncomputable def K7_91 : List Item := adv 6 [] K7_88
noncomputable def K7_92 : List Item := adv 6 [false] K7_86
noncomputable def K7_93 : List Item := adv 4 [true] K7_92
noncomputable def K7_94 : List Item := adv 2 [] (popK K7_93)
noncomputable def K7_95 : List Item := adv 1 [] K7_94
noncomputable def K7_96 : List Item := adv 3 [] (popK K7_95)
noncomputable def K7_97 : List Item := adv 1 [] K7_96
noncomputable def K7_98 : List Item := adv 1 [] (popK K7_97)
noncomputable def K7_99 : List Item := adv 4 [] K7_98
noncomputable def K7_100 : List Item := adv 7 [] K7_96
noncomputable def K7_101 : List Item := adv 12 [] K7_94
noncomputable def K7_102 : List Item := adv 6 [false] K7_92
noncomputable def K7_103 : List Item := adv 2 [] (popK K7_102)
noncomputable def K7_104 : List Item := adv 1 [] K7_103
noncomputable def K7_105 : List Item := adv 4 [] (popK K7_104)
noncomputable def K7_106 : List Item := adv 6 [] K7_103
noncomputable def K7_107 : List Item := adv 2 [] K7_26
noncomputable def K7_108 : List Item := adv 2 [] (popK K7_107)
noncomputable def K7_109 : List Item := adv 6 [] K7_108
noncomputable def K7_110 : List Item := adv 2 [] (popK K7_109)
noncomputable def K7_111 : List Item := adv 7 [] K7_110
noncomputable def K7_112 : List Item := adv 2 [] (popK K7_111)
noncomputable def K7_113 : List Item := adv 1 [] K7_112
noncomputable def K7_114 : List Item := adv 1 [] K7_110
noncomputable def K7_115 : List Item := adv 4 [] (popK K7_114)
noncomputable def K7_116 : List Item := adv 1 [] K7_115
noncomputable def K7_117 : List Item := adv 2 [] (popK K7_116)
noncomputable def K7_118 : List Item := adv 1 [] K7_117
noncomputable def K7_119 : List Item := adv 1 [] K7_108
noncomputable def K7_120 : List Item := adv 3 [] (popK K7_119)
noncomputable def K7_121 : List Item := adv 1 [] K7_120
noncomputable def K7_122 : List Item := adv 2 [] (popK K7_121)
noncomputable def K7_123 : List Item := adv 7 [] K7_122
noncomputable def K7_124 : List Item := adv 2 [] (popK K7_123)
noncomputable def K7_125 : List Item := adv 1 [] K7_124
noncomputable def K7_126 : List Item := adv 1 [] K7_122
noncomputable def K7_127 : List Item := adv 4 [] (popK K7_126)
noncomputable def K7_128 : List Item := adv 1 [] K7_127
noncomputable def K7_129 : List Item := adv 2 [] (popK K7_128)
noncomputable def K7_130 : List Item := adv 1 [] K7_129
set_option maxRecDepth 20000 in
set_option maxHeartbeats 20000000 in
theorem rformed_any (i : Ins) (w : World) (hi : insQ w i) : Ret Tryd.prog 7 #[.agg #[.int .i64 i.gOp, .int .i64 i.gA, .int .i64 i.gB, .int .i64 i.gC, .int .i64 i.gK]] w (fun v w' => v = .bool (formB i) ∧ Sep w [] w') := by
 have S0 := Sep.refl w
 refine Ret.named fun R hR => ?_
 refine Ret.of_J (N := 170) [(0, .agg #[.int .i64 i.gOp, .int .i64 i.gA, .int .i64 i.gB, .int .i64 i.gC, .int .i64 i.gK])] Tryd.func7 rfl rfl (Nat.le_of_ble_eq_true (by kernel_rfl)) (by kernel_rfl) ?_
 obtain ⟨q1, q2, q3, q4, q5, _⟩ := id hi
 have hfz := fields_size (op := i.gOp)
 refine J.run 2 K7_0 [(0, .agg #[.int .i64 i.gOp, .int .i64 i.gA, .int .i64 i.gB, .int .i64 i.gC, .int .i64 i.gK])] w (by kernel_rfl) ?_
 refine J.new S0 1 [.int .i64 i.gOp, .int .i64 i.gA, .int .i64 i.gB, .int .i64 i.gC, .int .i64 i.gK] 23 (by kernel_rfl) ?_
 intro b1 w1 S1
 refine J.run 6 K7_1 [(7, .pointer (some ⟨b1, 0, none⟩)), (1, .pointer (some ⟨b1, 0, none⟩))] w1 (by kernel_rfl) ?_
 refine J.ok (OK.ldBox S1 0 8 3 0 (.int .i64 i.gOp) (by kernel_rfl) rfl (by kernel_rfl)) ?_
 refine J.run 2 K7_2 [(10, .bool (decide (i.gOp < 1))), (1, .pointer (some ⟨b1, 0, none⟩))] w1 (by kernel_rfl) ?_
 by_cases fk1 : i.gOp < 1
 ·skip
  refine J.head (.bool true) (congrArg Value.bool (decide_eq_true fk1)) ?_
  refine J.run 40 K7_3 [(2, .bool false)] w1 (by kernel_rfl) ?_
  refine J.ret Tryd.f7 [.bool false] Tryd.func7 ⟨by kernel_rfl, trivial⟩ ?_
  refine hR _ _ ?_
  exact ⟨congrArg Value.bool (decide_eq_false (show ¬ (formP i.gOp i.gA i.gB i.gC i.gK) by omega)).symm, S1.nil⟩
 ·skip
  refine J.head (.bool false) (congrArg Value.bool (decide_eq_false fk1)) ?_
  refine J.run 1 K7_4 [(11, .pointer (some ⟨b1, 0, none⟩)), (10, .bool false), (1, .pointer (some ⟨b1, 0, none⟩))] w1 (by kernel_rfl) ?_
  refine J.ok (OK.ldBox S1 0 12 3 0 (.int .i64 i.gOp) (by kernel_rfl) rfl (by kernel_rfl)) ?_
  refine J.run 3 K7_5 [(15, .bool (decide (i.gOp > 22))), (1, .pointer (some ⟨b1, 0, none⟩))] w1 (by kernel_rfl) ?_
  by_cases fk2 : i.gOp > 22
  ·skip
   refine J.head (.bool true) (congrArg Value.bool (decide_eq_true fk2)) ?_
   refine J.run 35 K7_6 [(2, .bool false)] w1 (by kernel_rfl) ?_
   refine J.ret Tryd.f7 [.bool false] Tryd.func7 ⟨by kernel_rfl, trivial⟩ ?_
   refine hR _ _ ?_
   exact ⟨congrArg Value.bool (decide_eq_false (show ¬ (formP i.gOp i.gA i.gB i.gC i.gK) by omega)).symm, S1.nil⟩
  ·skip
   refine J.head (.bool false) (congrArg Value.bool (decide_eq_false fk2)) ?_
   refine J.run 1 K7_7 [(16, .pointer (some ⟨b1, 1, none⟩)), (15, .bool false), (1, .pointer (some ⟨b1, 0, none⟩))] w1 (by kernel_rfl) ?_
   refine J.ok (OK.ldBox S1 0 17 3 1 (.int .i64 i.gA) (by kernel_rfl) rfl (by kernel_rfl)) ?_
   refine J.run 3 K7_8 [(20, .bool (decide (i.gA < 0))), (1, .pointer (some ⟨b1, 0, none⟩))] w1 (by kernel_rfl) ?_
   by_cases fk3 : i.gA < 0
   ·skip
    refine J.head (.bool true) (congrArg Value.bool (decide_eq_true fk3)) ?_
    refine J.run 30 K7_9 [(2, .bool false)] w1 (by kernel_rfl) ?_
    refine J.ret Tryd.f7 [.bool false] Tryd.func7 ⟨by kernel_rfl, trivial⟩ ?_
    refine hR _ _ ?_
    exact ⟨congrArg Value.bool (decide_eq_false (show ¬ (formP i.gOp i.gA i.gB i.gC i.gK) by omega)).symm, S1.nil⟩
   ·skip
    refine J.head (.bool false) (congrArg Value.bool (decide_eq_false fk3)) ?_
    refine J.run 1 K7_10 [(21, .pointer (some ⟨b1, 1, none⟩)), (20, .bool false), (1, .pointer (some ⟨b1, 0, none⟩))] w1 (by kernel_rfl) ?_
    refine J.ok (OK.ldBox S1 0 22 3 1 (.int .i64 i.gA) (by kernel_rfl) rfl (by kernel_rfl)) ?_
    refine J.run 3 K7_11 [(25, .bool (decide (i.gA > 15))), (1, .pointer (some ⟨b1, 0, none⟩))] w1 (by kernel_rfl) ?_
    by_cases fk4 : i.gA > 15
    ·skip
     refine J.head (.bool true) (congrArg Value.bool (decide_eq_true fk4)) ?_
     refine J.run 25 K7_12 [(2, .bool false)] w1 (by kernel_rfl) ?_
     refine J.ret Tryd.f7 [.bool false] Tryd.func7 ⟨by kernel_rfl, trivial⟩ ?_
     refine hR _ _ ?_
     exact ⟨congrArg Value.bool (decide_eq_false (show ¬ (formP i.gOp i.gA i.gB i.gC i.gK) by omega)).symm, S1.nil⟩
    ·skip
     refine J.head (.bool false) (congrArg Value.bool (decide_eq_false fk4)) ?_
     refine J.run 1 K7_13 [(26, .pointer (some ⟨b1, 2, none⟩)), (25, .bool false), (1, .pointer (some ⟨b1, 0, none⟩))] w1 (by kernel_rfl) ?_
     refine J.ok (OK.ldBox S1 0 27 3 2 (.int .i64 i.gB) (by kernel_rfl) rfl (by kernel_rfl)) ?_
     refine J.run 3 K7_14 [(30, .bool (decide (i.gB < 0))), (1, .pointer (some ⟨b1, 0, none⟩))] w1 (by kernel_rfl) ?_
     by_cases fk5 : i.gB < 0
     ·skip
      refine J.head (.bool true) (congrArg Value.bool (decide_eq_true fk5)) ?_
      refine J.run 20 K7_15 [(2, .bool false)] w1 (by kernel_rfl) ?_
      refine J.ret Tryd.f7 [.bool false] Tryd.func7 ⟨by kernel_rfl, trivial⟩ ?_
      refine hR _ _ ?_
      exact ⟨congrArg Value.bool (decide_eq_false (show ¬ (formP i.gOp i.gA i.gB i.gC i.gK) by omega)).symm, S1.nil⟩
     ·skip
      refine J.head (.bool false) (congrArg Value.bool (decide_eq_false fk5)) ?_
      refine J.run 1 K7_16 [(31, .pointer (some ⟨b1, 2, none⟩)), (30, .bool false), (1, .pointer (some ⟨b1, 0, none⟩))] w1 (by kernel_rfl) ?_
      refine J.ok (OK.ldBox S1 0 32 3 2 (.int .i64 i.gB) (by kernel_rfl) rfl (by kernel_rfl)) ?_
      refine J.run 3 K7_17 [(35, .bool (decide (i.gB > 15))), (1, .pointer (some ⟨b1, 0, none⟩))] w1 (by kernel_rfl) ?_
      by_cases fk6 : i.gB > 15
      ·skip
       refine J.head (.bool true) (congrArg Value.bool (decide_eq_true fk6)) ?_
       refine J.run 15 K7_18 [(2, .bool false)] w1 (by kernel_rfl) ?_
       refine J.ret Tryd.f7 [.bool false] Tryd.func7 ⟨by kernel_rfl, trivial⟩ ?_
       refine hR _ _ ?_
       exact ⟨congrArg Value.bool (decide_eq_false (show ¬ (formP i.gOp i.gA i.gB i.gC i.gK) by omega)).symm, S1.nil⟩
      ·skip
       refine J.head (.bool false) (congrArg Value.bool (decide_eq_false fk6)) ?_
       refine J.run 1 K7_19 [(36, .pointer (some ⟨b1, 3, none⟩)), (35, .bool false), (1, .pointer (some ⟨b1, 0, none⟩))] w1 (by kernel_rfl) ?_
       refine J.ok (OK.ldBox S1 0 37 3 3 (.int .i64 i.gC) (by kernel_rfl) rfl (by kernel_rfl)) ?_
       refine J.run 3 K7_20 [(40, .bool (decide (i.gC < 0))), (1, .pointer (some ⟨b1, 0, none⟩))] w1 (by kernel_rfl) ?_
       by_cases fk7 : i.gC < 0
       ·skip
        refine J.head (.bool true) (congrArg Value.bool (decide_eq_true fk7)) ?_
        refine J.run 10 K7_21 [(2, .bool false)] w1 (by kernel_rfl) ?_
        refine J.ret Tryd.f7 [.bool false] Tryd.func7 ⟨by kernel_rfl, trivial⟩ ?_
        refine hR _ _ ?_
        exact ⟨congrArg Value.bool (decide_eq_false (show ¬ (formP i.gOp i.gA i.gB i.gC i.gK) by omega)).symm, S1.nil⟩
       ·skip
        refine J.head (.bool false) (congrArg Value.bool (decide_eq_false fk7)) ?_
        refine J.run 1 K7_22 [(41, .pointer (some ⟨b1, 3, none⟩)), (40, .bool false), (1, .pointer (some ⟨b1, 0, none⟩))] w1 (by kernel_rfl) ?_
        refine J.ok (OK.ldBox S1 0 42 3 3 (.int .i64 i.gC) (by kernel_rfl) rfl (by kernel_rfl)) ?_
        refine J.run 3 K7_23 [(44, .bool (decide (i.gC > 15))), (1, .pointer (some ⟨b1, 0, none⟩))] w1 (by kernel_rfl) ?_
        by_cases fk8 : i.gC > 15
        ·skip
         refine J.head (.bool true) (congrArg Value.bool (decide_eq_true fk8)) ?_
         refine J.run 5 K7_24 [(2, .bool false)] w1 (by kernel_rfl) ?_
         refine J.ret Tryd.f7 [.bool false] Tryd.func7 ⟨by kernel_rfl, trivial⟩ ?_
         refine hR _ _ ?_
         exact ⟨congrArg Value.bool (decide_eq_false (show ¬ (formP i.gOp i.gA i.gB i.gC i.gK) by omega)).symm, S1.nil⟩
        ·skip
         refine J.head (.bool false) (congrArg Value.bool (decide_eq_false fk8)) ?_
         refine J.run 5 K7_25 [(45, .pointer (some ⟨b1, 0, none⟩)), (1, .pointer (some ⟨b1, 0, none⟩))] w1 (by kernel_rfl) ?_
         refine J.ok (OK.ldBox S1 0 46 3 0 (.int .i64 i.gOp) (by kernel_rfl) rfl (by kernel_rfl)) ?_
         refine J.callF 47 19 #[.int .i64 i.gOp] hb19 (by kernel_rfl) (rfields_any i.gOp _ (by omega)) ?_
         rintro _ w2 ⟨rfl, T1⟩
         have S2 : Sep w [box b1 [.int .i64 i.gOp, .int .i64 i.gA, .int .i64 i.gB, .int .i64 i.gC, .int .i64 i.gK] 23] w2 := S1.trans T1
         clear T1 S1
         have := fields_size (op := i.gOp)
         refine J.run 4 K7_26 [(3, .string (fieldsF i.gOp)), (1, .pointer (some ⟨b1, 0, none⟩))] w2 (by kernel_rfl) ?_
         have X1 : ∀ (tb : Bool) (w3 : World), ((tb = true → ¬ ((4 ≤ i.gOp ∨ i.gB = 0) ∧ (useC i.gOp ∨ i.gC = 0) ∧ (useK i.gOp ∨ i.gK = 0))) ∧ (tb = false → (4 ≤ i.gOp ∨ i.gB = 0) ∧ (useC i.gOp ∨ i.gC = 0) ∧ (useK i.gOp ∨ i.gK = 0))) → Sep w [box b1 [.int .i64 i.gOp, .int .i64 i.gA, .int .i64 i.gB, .int .i64 i.gC, .int .i64 i.gK] 23] w3 → J Tryd.prog 7 170 R K7_27 [(1, .pointer (some ⟨b1, 0, none⟩)), (75, .bool tb)] w3 := by
          intro tb w3 htb S3
          refine J.run 0 K7_27 [(75, .bool tb), (1, .pointer (some ⟨b1, 0, none⟩))] w3 (by kernel_rfl) ?_
          rcases Bool.eq_false_or_eq_true tb with fk9 | fk9
          ·skip
           refine J.head (.bool true) (congrArg Value.bool fk9) ?_
           have fb1 := htb.1 fk9
           refine J.run 5 K7_28 [(2, .bool false)] w3 (by kernel_rfl) ?_
           refine J.ret Tryd.f7 [.bool false] Tryd.func7 ⟨by kernel_rfl, trivial⟩ ?_
           refine hR _ _ ?_
           exact ⟨congrArg Value.bool (decide_eq_false (show ¬ (formP i.gOp i.gA i.gB i.gC i.gK) by omega)).symm, S3.nil⟩
          ·skip
           refine J.head (.bool false) (congrArg Value.bool fk9) ?_
           have fb2 := htb.2 fk9
           refine J.run 5 K7_29 [(77, .pointer (some ⟨b1, 4, none⟩)), (1, .pointer (some ⟨b1, 0, none⟩))] w3 (by kernel_rfl) ?_
           refine J.ok (OK.ldBox S3 0 78 3 4 (.int .i64 i.gK) (by kernel_rfl) rfl (by kernel_rfl)) ?_
           refine J.run 1 K7_30 [(79, .int .i64 (if 0 > i.gK then 0 else i.gK)), (1, .pointer (some ⟨b1, 0, none⟩))] w3 (by kernel_rfl) ?_
           refine J.head (.int .i64 (max i.gK 0)) (congrArg (Value.int .i64) (by omega)) ?_
           refine J.callF 80 21 #[.int .i64 (max i.gK 0)] hb21 (by kernel_rfl) (rtypes_any (max i.gK 0) _ (by omega)) ?_
           rintro _ w4 ⟨rfl, T2⟩
           have S4 : Sep w [box b1 [.int .i64 i.gOp, .int .i64 i.gA, .int .i64 i.gB, .int .i64 i.gC, .int .i64 i.gK] 23] w4 := S3.trans T2
           clear T2 S3
           refine J.run 12 K7_31 [(84, .pointer (some ⟨b1, 0, none⟩)), (6, .int .i64 ((max i.gK 0) % 128)), (5, .int .i64 ((max i.gK 0) / 128 % 128)), (4, .int .i64 ((max i.gK 0) / 16384)), (1, .pointer (some ⟨b1, 0, none⟩))] w4 (by kernel_rfl) ?_
           refine J.ok (OK.ldBox S4 0 85 3 0 (.int .i64 i.gOp) (by kernel_rfl) rfl (by kernel_rfl)) ?_
           refine J.run 7 K7_32 [(86, .bool (i.gOp == 1)), (85, .int .i64 i.gOp), (6, .int .i64 ((max i.gK 0) % 128)), (5, .int .i64 ((max i.gK 0) / 128 % 128)), (4, .int .i64 ((max i.gK 0) / 16384)), (1, .pointer (some ⟨b1, 0, none⟩))] w4 (by kernel_rfl) ?_
           by_cases fk10 : i.gOp = 1
           ·skip
            refine J.head (.bool true) (congrArg Value.bool (beq_iff_eq.2 fk10)) ?_
            refine J.run 4 K7_33 [(88, .pointer (some ⟨b1, 4, none⟩)), (1, .pointer (some ⟨b1, 0, none⟩))] w4 (by kernel_rfl) ?_
            refine J.ok (OK.ldBox S4 0 89 3 4 (.int .i64 i.gK) (by kernel_rfl) rfl (by kernel_rfl)) ?_
            refine J.run 2 K7_34 [(91, .bool (decide (i.gK ≥ (-1099511627776)))), (1, .pointer (some ⟨b1, 0, none⟩))] w4 (by kernel_rfl) ?_
            by_cases fk11 : i.gK ≥ (-1099511627776)
            ·skip
             refine J.head (.bool true) (congrArg Value.bool (decide_eq_true fk11)) ?_
             refine J.run 1 K7_35 [(92, .pointer (some ⟨b1, 4, none⟩)), (91, .bool true)] w4 (by kernel_rfl) ?_
             refine J.ok (OK.ldBox S4 0 93 3 4 (.int .i64 i.gK) (by kernel_rfl) rfl (by kernel_rfl)) ?_
             refine J.run 4 K7_36 [(2, .bool (decide (i.gK ≤ 1099511627776)))] w4 (by kernel_rfl) ?_
             refine J.ret Tryd.f7 [.bool (decide (i.gK ≤ 1099511627776))] Tryd.func7 ⟨by kernel_rfl, trivial⟩ ?_
             refine hR _ _ ?_
             exact ⟨congrArg Value.bool (by show (decide (i.gK ≤ 1099511627776)) = decide (formP i.gOp i.gA i.gB i.gC i.gK); by_cases hz_ : i.gK ≤ 1099511627776; (rw [(decide_eq_true hz_)]; first | exact (decide_eq_true (by omega)).symm | exact (decide_eq_false (by omega)).symm); (rw [(decide_eq_false hz_)]; first | exact (decide_eq_false (by omega)).symm | exact (decide_eq_true (by omega)).symm)), S4.nil⟩
            ·skip
             refine J.head (.bool false) (congrArg Value.bool (decide_eq_false fk11)) ?_
             refine J.run 6 K7_37 [(2, .bool false)] w4 (by kernel_rfl) ?_
             refine J.ret Tryd.f7 [.bool false] Tryd.func7 ⟨by kernel_rfl, trivial⟩ ?_
             refine hR _ _ ?_
             exact ⟨congrArg Value.bool (decide_eq_false (show ¬ (formP i.gOp i.gA i.gB i.gC i.gK) by omega)).symm, S4.nil⟩
           ·skip
            refine J.head (.bool false) (congrArg Value.bool (beq_eq_false_iff_ne.2 fk10)) ?_
            refine J.run 7 K7_38 [(96, .bool (i.gOp == 5)), (85, .int .i64 i.gOp), (6, .int .i64 ((max i.gK 0) % 128)), (5, .int .i64 ((max i.gK 0) / 128 % 128)), (4, .int .i64 ((max i.gK 0) / 16384)), (1, .pointer (some ⟨b1, 0, none⟩))] w4 (by kernel_rfl) ?_
            by_cases fk12 : i.gOp = 5
            ·skip
             refine J.head (.bool true) (congrArg Value.bool (beq_iff_eq.2 fk12)) ?_
             refine J.run 6 K7_39 [(101, .pointer (some ⟨b1, 4, none⟩)), (4, .int .i64 ((max i.gK 0) / 16384))] w4 (by kernel_rfl) ?_
             refine J.ok (OK.ldBox S4 0 102 3 4 (.int .i64 i.gK) (by kernel_rfl) rfl (by kernel_rfl)) ?_
             refine J.run 2 K7_40 [(104, .bool (decide (i.gK ≥ 0))), (4, .int .i64 ((max i.gK 0) / 16384))] w4 (by kernel_rfl) ?_
             by_cases fk13 : i.gK ≥ 0
             ·skip
              refine J.head (.bool true) (congrArg Value.bool (decide_eq_true fk13)) ?_
              refine J.run 5 K7_41 [(2, .bool (decide (((max i.gK 0) / 16384) < 128)))] w4 (by kernel_rfl) ?_
              refine J.ret Tryd.f7 [.bool (decide (((max i.gK 0) / 16384) < 128))] Tryd.func7 ⟨by kernel_rfl, trivial⟩ ?_
              refine hR _ _ ?_
              exact ⟨congrArg Value.bool (by show (decide (((max i.gK 0) / 16384) < 128)) = decide (formP i.gOp i.gA i.gB i.gC i.gK); by_cases hz_ : ((max i.gK 0) / 16384) < 128; (rw [(decide_eq_true hz_)]; first | exact (decide_eq_true (by omega)).symm | exact (decide_eq_false (by omega)).symm); (rw [(decide_eq_false hz_)]; first | exact (decide_eq_false (by omega)).symm | exact (decide_eq_true (by omega)).symm)), S4.nil⟩
             ·skip
              refine J.head (.bool false) (congrArg Value.bool (decide_eq_false fk13)) ?_
              refine J.run 5 K7_42 [(2, .bool false)] w4 (by kernel_rfl) ?_
              refine J.ret Tryd.f7 [.bool false] Tryd.func7 ⟨by kernel_rfl, trivial⟩ ?_
              refine hR _ _ ?_
              exact ⟨congrArg Value.bool (decide_eq_false (show ¬ (formP i.gOp i.gA i.gB i.gC i.gK) by omega)).symm, S4.nil⟩
            ·skip
             refine J.head (.bool false) (congrArg Value.bool (beq_eq_false_iff_ne.2 fk12)) ?_
             refine J.run 6 K7_43 [(96, .bool (i.gOp == 6)), (85, .int .i64 i.gOp), (6, .int .i64 ((max i.gK 0) % 128)), (5, .int .i64 ((max i.gK 0) / 128 % 128)), (4, .int .i64 ((max i.gK 0) / 16384)), (1, .pointer (some ⟨b1, 0, none⟩))] w4 (by kernel_rfl) ?_
             by_cases fk14 : i.gOp = 6
             ·skip
              refine J.head (.bool true) (congrArg Value.bool (beq_iff_eq.2 fk14)) ?_
              refine J.run 6 K7_44 [(101, .pointer (some ⟨b1, 4, none⟩)), (4, .int .i64 ((max i.gK 0) / 16384))] w4 (by kernel_rfl) ?_
              refine J.ok (OK.ldBox S4 0 102 3 4 (.int .i64 i.gK) (by kernel_rfl) rfl (by kernel_rfl)) ?_
              refine J.run 2 K7_45 [(104, .bool (decide (i.gK ≥ 0))), (4, .int .i64 ((max i.gK 0) / 16384))] w4 (by kernel_rfl) ?_
              by_cases fk15 : i.gK ≥ 0
              ·skip
               refine J.head (.bool true) (congrArg Value.bool (decide_eq_true fk15)) ?_
               refine J.run 5 K7_46 [(2, .bool (decide (((max i.gK 0) / 16384) < 128)))] w4 (by kernel_rfl) ?_
               refine J.ret Tryd.f7 [.bool (decide (((max i.gK 0) / 16384) < 128))] Tryd.func7 ⟨by kernel_rfl, trivial⟩ ?_
               refine hR _ _ ?_
               exact ⟨congrArg Value.bool (by show (decide (((max i.gK 0) / 16384) < 128)) = decide (formP i.gOp i.gA i.gB i.gC i.gK); by_cases hz_ : ((max i.gK 0) / 16384) < 128; (rw [(decide_eq_true hz_)]; first | exact (decide_eq_true (by omega)).symm | exact (decide_eq_false (by omega)).symm); (rw [(decide_eq_false hz_)]; first | exact (decide_eq_false (by omega)).symm | exact (decide_eq_true (by omega)).symm)), S4.nil⟩
              ·skip
               refine J.head (.bool false) (congrArg Value.bool (decide_eq_false fk15)) ?_
               refine J.run 5 K7_47 [(2, .bool false)] w4 (by kernel_rfl) ?_
               refine J.ret Tryd.f7 [.bool false] Tryd.func7 ⟨by kernel_rfl, trivial⟩ ?_
               refine hR _ _ ?_
               exact ⟨congrArg Value.bool (decide_eq_false (show ¬ (formP i.gOp i.gA i.gB i.gC i.gK) by omega)).symm, S4.nil⟩
             ·skip
              refine J.head (.bool false) (congrArg Value.bool (beq_eq_false_iff_ne.2 fk14)) ?_
              refine J.run 6 K7_48 [(96, .bool (i.gOp == 7)), (85, .int .i64 i.gOp), (6, .int .i64 ((max i.gK 0) % 128)), (5, .int .i64 ((max i.gK 0) / 128 % 128)), (4, .int .i64 ((max i.gK 0) / 16384)), (1, .pointer (some ⟨b1, 0, none⟩))] w4 (by kernel_rfl) ?_
              by_cases fk16 : i.gOp = 7
              ·skip
               refine J.head (.bool true) (congrArg Value.bool (beq_iff_eq.2 fk16)) ?_
               refine J.run 6 K7_49 [(101, .pointer (some ⟨b1, 4, none⟩)), (4, .int .i64 ((max i.gK 0) / 16384))] w4 (by kernel_rfl) ?_
               refine J.ok (OK.ldBox S4 0 102 3 4 (.int .i64 i.gK) (by kernel_rfl) rfl (by kernel_rfl)) ?_
               refine J.run 2 K7_50 [(104, .bool (decide (i.gK ≥ 0))), (4, .int .i64 ((max i.gK 0) / 16384))] w4 (by kernel_rfl) ?_
               by_cases fk17 : i.gK ≥ 0
               ·skip
                refine J.head (.bool true) (congrArg Value.bool (decide_eq_true fk17)) ?_
                refine J.run 5 K7_51 [(2, .bool (decide (((max i.gK 0) / 16384) < 128)))] w4 (by kernel_rfl) ?_
                refine J.ret Tryd.f7 [.bool (decide (((max i.gK 0) / 16384) < 128))] Tryd.func7 ⟨by kernel_rfl, trivial⟩ ?_
                refine hR _ _ ?_
                exact ⟨congrArg Value.bool (by show (decide (((max i.gK 0) / 16384) < 128)) = decide (formP i.gOp i.gA i.gB i.gC i.gK); by_cases hz_ : ((max i.gK 0) / 16384) < 128; (rw [(decide_eq_true hz_)]; first | exact (decide_eq_true (by omega)).symm | exact (decide_eq_false (by omega)).symm); (rw [(decide_eq_false hz_)]; first | exact (decide_eq_false (by omega)).symm | exact (decide_eq_true (by omega)).symm)), S4.nil⟩
               ·skip
                refine J.head (.bool false) (congrArg Value.bool (decide_eq_false fk17)) ?_
                refine J.run 5 K7_52 [(2, .bool false)] w4 (by kernel_rfl) ?_
                refine J.ret Tryd.f7 [.bool false] Tryd.func7 ⟨by kernel_rfl, trivial⟩ ?_
                refine hR _ _ ?_
                exact ⟨congrArg Value.bool (decide_eq_false (show ¬ (formP i.gOp i.gA i.gB i.gC i.gK) by omega)).symm, S4.nil⟩
              ·skip
               refine J.head (.bool false) (congrArg Value.bool (beq_eq_false_iff_ne.2 fk16)) ?_
               refine J.run 5 K7_53 [(96, .bool (i.gOp == 8)), (85, .int .i64 i.gOp), (6, .int .i64 ((max i.gK 0) % 128)), (5, .int .i64 ((max i.gK 0) / 128 % 128)), (4, .int .i64 ((max i.gK 0) / 16384)), (1, .pointer (some ⟨b1, 0, none⟩))] w4 (by kernel_rfl) ?_
               by_cases fk18 : i.gOp = 8
               ·skip
                refine J.head (.bool true) (congrArg Value.bool (beq_iff_eq.2 fk18)) ?_
                refine J.run 4 K7_54 [(101, .pointer (some ⟨b1, 4, none⟩)), (4, .int .i64 ((max i.gK 0) / 16384))] w4 (by kernel_rfl) ?_
                refine J.ok (OK.ldBox S4 0 102 3 4 (.int .i64 i.gK) (by kernel_rfl) rfl (by kernel_rfl)) ?_
                refine J.run 2 K7_55 [(104, .bool (decide (i.gK ≥ 0))), (4, .int .i64 ((max i.gK 0) / 16384))] w4 (by kernel_rfl) ?_
                by_cases fk19 : i.gK ≥ 0
                ·skip
                 refine J.head (.bool true) (congrArg Value.bool (decide_eq_true fk19)) ?_
                 refine J.run 5 K7_56 [(2, .bool (decide (((max i.gK 0) / 16384) < 128)))] w4 (by kernel_rfl) ?_
                 refine J.ret Tryd.f7 [.bool (decide (((max i.gK 0) / 16384) < 128))] Tryd.func7 ⟨by kernel_rfl, trivial⟩ ?_
                 refine hR _ _ ?_
                 exact ⟨congrArg Value.bool (by show (decide (((max i.gK 0) / 16384) < 128)) = decide (formP i.gOp i.gA i.gB i.gC i.gK); by_cases hz_ : ((max i.gK 0) / 16384) < 128; (rw [(decide_eq_true hz_)]; first | exact (decide_eq_true (by omega)).symm | exact (decide_eq_false (by omega)).symm); (rw [(decide_eq_false hz_)]; first | exact (decide_eq_false (by omega)).symm | exact (decide_eq_true (by omega)).symm)), S4.nil⟩
                ·skip
                 refine J.head (.bool false) (congrArg Value.bool (decide_eq_false fk19)) ?_
                 refine J.run 5 K7_57 [(2, .bool false)] w4 (by kernel_rfl) ?_
                 refine J.ret Tryd.f7 [.bool false] Tryd.func7 ⟨by kernel_rfl, trivial⟩ ?_
                 refine hR _ _ ?_
                 exact ⟨congrArg Value.bool (decide_eq_false (show ¬ (formP i.gOp i.gA i.gB i.gC i.gK) by omega)).symm, S4.nil⟩
               ·skip
                refine J.head (.bool false) (congrArg Value.bool (beq_eq_false_iff_ne.2 fk18)) ?_
                refine J.run 7 K7_58 [(108, .bool (i.gOp == 9)), (85, .int .i64 i.gOp), (6, .int .i64 ((max i.gK 0) % 128)), (5, .int .i64 ((max i.gK 0) / 128 % 128)), (4, .int .i64 ((max i.gK 0) / 16384)), (1, .pointer (some ⟨b1, 0, none⟩))] w4 (by kernel_rfl) ?_
                by_cases fk20 : i.gOp = 9
                ·skip
                 refine J.head (.bool true) (congrArg Value.bool (beq_iff_eq.2 fk20)) ?_
                 refine J.run 6 K7_59 [(111, .pointer (some ⟨b1, 4, none⟩)), (5, .int .i64 ((max i.gK 0) / 128 % 128)), (4, .int .i64 ((max i.gK 0) / 16384))] w4 (by kernel_rfl) ?_
                 refine J.ok (OK.ldBox S4 0 112 3 4 (.int .i64 i.gK) (by kernel_rfl) rfl (by kernel_rfl)) ?_
                 refine J.run 2 K7_60 [(114, .bool (decide (i.gK ≥ 0))), (5, .int .i64 ((max i.gK 0) / 128 % 128)), (4, .int .i64 ((max i.gK 0) / 16384))] w4 (by kernel_rfl) ?_
                 by_cases fk21 : i.gK ≥ 0
                 ·skip
                  refine J.head (.bool true) (congrArg Value.bool (decide_eq_true fk21)) ?_
                  refine J.run 4 K7_61 [(118, .bool (decide (((max i.gK 0) / 16384) < 128))), (5, .int .i64 ((max i.gK 0) / 128 % 128))] w4 (by kernel_rfl) ?_
                  by_cases fk22 : ((max i.gK 0) / 16384) < 128
                  ·skip
                   refine J.head (.bool true) (congrArg Value.bool (decide_eq_true fk22)) ?_
                   refine J.run 5 K7_62 [(2, .bool (((max i.gK 0) / 128 % 128) == 0))] w4 (by kernel_rfl) ?_
                   refine J.ret Tryd.f7 [.bool (((max i.gK 0) / 128 % 128) == 0)] Tryd.func7 ⟨by kernel_rfl, trivial⟩ ?_
                   refine hR _ _ ?_
                   exact ⟨congrArg Value.bool (by show (((max i.gK 0) / 128 % 128) == 0) = decide (formP i.gOp i.gA i.gB i.gC i.gK); by_cases hz_ : ((max i.gK 0) / 128 % 128) = 0; (rw [(beq_iff_eq.2 hz_)]; first | exact (decide_eq_true (by omega)).symm | exact (decide_eq_false (by omega)).symm); (rw [(beq_eq_false_iff_ne.2 hz_)]; first | exact (decide_eq_false (by omega)).symm | exact (decide_eq_true (by omega)).symm)), S4.nil⟩
                  ·skip
                   refine J.head (.bool false) (congrArg Value.bool (decide_eq_false fk22)) ?_
                   refine J.run 5 K7_63 [(2, .bool false)] w4 (by kernel_rfl) ?_
                   refine J.ret Tryd.f7 [.bool false] Tryd.func7 ⟨by kernel_rfl, trivial⟩ ?_
                   refine hR _ _ ?_
                   exact ⟨congrArg Value.bool (decide_eq_false (show ¬ (formP i.gOp i.gA i.gB i.gC i.gK) by omega)).symm, S4.nil⟩
                 ·skip
                  refine J.head (.bool false) (congrArg Value.bool (decide_eq_false fk21)) ?_
                  refine J.run 9 K7_64 [(2, .bool false)] w4 (by kernel_rfl) ?_
                  refine J.ret Tryd.f7 [.bool false] Tryd.func7 ⟨by kernel_rfl, trivial⟩ ?_
                  refine hR _ _ ?_
                  exact ⟨congrArg Value.bool (decide_eq_false (show ¬ (formP i.gOp i.gA i.gB i.gC i.gK) by omega)).symm, S4.nil⟩
                ·skip
                 refine J.head (.bool false) (congrArg Value.bool (beq_eq_false_iff_ne.2 fk20)) ?_
                 refine J.run 5 K7_65 [(108, .bool (i.gOp == 10)), (85, .int .i64 i.gOp), (6, .int .i64 ((max i.gK 0) % 128)), (5, .int .i64 ((max i.gK 0) / 128 % 128)), (4, .int .i64 ((max i.gK 0) / 16384)), (1, .pointer (some ⟨b1, 0, none⟩))] w4 (by kernel_rfl) ?_
                 by_cases fk23 : i.gOp = 10
                 ·skip
                  refine J.head (.bool true) (congrArg Value.bool (beq_iff_eq.2 fk23)) ?_
                  refine J.run 4 K7_66 [(111, .pointer (some ⟨b1, 4, none⟩)), (5, .int .i64 ((max i.gK 0) / 128 % 128)), (4, .int .i64 ((max i.gK 0) / 16384))] w4 (by kernel_rfl) ?_
                  refine J.ok (OK.ldBox S4 0 112 3 4 (.int .i64 i.gK) (by kernel_rfl) rfl (by kernel_rfl)) ?_
                  refine J.run 2 K7_67 [(114, .bool (decide (i.gK ≥ 0))), (5, .int .i64 ((max i.gK 0) / 128 % 128)), (4, .int .i64 ((max i.gK 0) / 16384))] w4 (by kernel_rfl) ?_
                  by_cases fk24 : i.gK ≥ 0
                  ·skip
                   refine J.head (.bool true) (congrArg Value.bool (decide_eq_true fk24)) ?_
                   refine J.run 4 K7_68 [(118, .bool (decide (((max i.gK 0) / 16384) < 128))), (5, .int .i64 ((max i.gK 0) / 128 % 128))] w4 (by kernel_rfl) ?_
                   by_cases fk25 : ((max i.gK 0) / 16384) < 128
                   ·skip
                    refine J.head (.bool true) (congrArg Value.bool (decide_eq_true fk25)) ?_
                    refine J.run 5 K7_69 [(2, .bool (((max i.gK 0) / 128 % 128) == 0))] w4 (by kernel_rfl) ?_
                    refine J.ret Tryd.f7 [.bool (((max i.gK 0) / 128 % 128) == 0)] Tryd.func7 ⟨by kernel_rfl, trivial⟩ ?_
                    refine hR _ _ ?_
                    exact ⟨congrArg Value.bool (by show (((max i.gK 0) / 128 % 128) == 0) = decide (formP i.gOp i.gA i.gB i.gC i.gK); by_cases hz_ : ((max i.gK 0) / 128 % 128) = 0; (rw [(beq_iff_eq.2 hz_)]; first | exact (decide_eq_true (by omega)).symm | exact (decide_eq_false (by omega)).symm); (rw [(beq_eq_false_iff_ne.2 hz_)]; first | exact (decide_eq_false (by omega)).symm | exact (decide_eq_true (by omega)).symm)), S4.nil⟩
                   ·skip
                    refine J.head (.bool false) (congrArg Value.bool (decide_eq_false fk25)) ?_
                    refine J.run 5 K7_70 [(2, .bool false)] w4 (by kernel_rfl) ?_
                    refine J.ret Tryd.f7 [.bool false] Tryd.func7 ⟨by kernel_rfl, trivial⟩ ?_
                    refine hR _ _ ?_
                    exact ⟨congrArg Value.bool (decide_eq_false (show ¬ (formP i.gOp i.gA i.gB i.gC i.gK) by omega)).symm, S4.nil⟩
                  ·skip
                   refine J.head (.bool false) (congrArg Value.bool (decide_eq_false fk24)) ?_
                   refine J.run 9 K7_71 [(2, .bool false)] w4 (by kernel_rfl) ?_
                   refine J.ret Tryd.f7 [.bool false] Tryd.func7 ⟨by kernel_rfl, trivial⟩ ?_
                   refine hR _ _ ?_
                   exact ⟨congrArg Value.bool (decide_eq_false (show ¬ (formP i.gOp i.gA i.gB i.gC i.gK) by omega)).symm, S4.nil⟩
                 ·skip
                  refine J.head (.bool false) (congrArg Value.bool (beq_eq_false_iff_ne.2 fk23)) ?_
                  refine J.run 7 K7_72 [(122, .bool (i.gOp == 13)), (85, .int .i64 i.gOp), (6, .int .i64 ((max i.gK 0) % 128)), (4, .int .i64 ((max i.gK 0) / 16384)), (1, .pointer (some ⟨b1, 0, none⟩))] w4 (by kernel_rfl) ?_
                  by_cases fk26 : i.gOp = 13
                  ·skip
                   refine J.head (.bool true) (congrArg Value.bool (beq_iff_eq.2 fk26)) ?_
                   refine J.run 6 K7_73 [(125, .pointer (some ⟨b1, 4, none⟩)), (6, .int .i64 ((max i.gK 0) % 128)), (4, .int .i64 ((max i.gK 0) / 16384))] w4 (by kernel_rfl) ?_
                   refine J.ok (OK.ldBox S4 0 126 3 4 (.int .i64 i.gK) (by kernel_rfl) rfl (by kernel_rfl)) ?_
                   refine J.run 2 K7_74 [(128, .bool (decide (i.gK ≥ 0))), (6, .int .i64 ((max i.gK 0) % 128)), (4, .int .i64 ((max i.gK 0) / 16384))] w4 (by kernel_rfl) ?_
                   by_cases fk27 : i.gK ≥ 0
                   ·skip
                    refine J.head (.bool true) (congrArg Value.bool (decide_eq_true fk27)) ?_
                    refine J.run 4 K7_75 [(132, .bool (decide (((max i.gK 0) / 16384) < 128))), (6, .int .i64 ((max i.gK 0) % 128))] w4 (by kernel_rfl) ?_
                    by_cases fk28 : ((max i.gK 0) / 16384) < 128
                    ·skip
                     refine J.head (.bool true) (congrArg Value.bool (decide_eq_true fk28)) ?_
                     refine J.run 5 K7_76 [(2, .bool (((max i.gK 0) % 128) == 0))] w4 (by kernel_rfl) ?_
                     refine J.ret Tryd.f7 [.bool (((max i.gK 0) % 128) == 0)] Tryd.func7 ⟨by kernel_rfl, trivial⟩ ?_
                     refine hR _ _ ?_
                     exact ⟨congrArg Value.bool (by show (((max i.gK 0) % 128) == 0) = decide (formP i.gOp i.gA i.gB i.gC i.gK); by_cases hz_ : ((max i.gK 0) % 128) = 0; (rw [(beq_iff_eq.2 hz_)]; first | exact (decide_eq_true (by omega)).symm | exact (decide_eq_false (by omega)).symm); (rw [(beq_eq_false_iff_ne.2 hz_)]; first | exact (decide_eq_false (by omega)).symm | exact (decide_eq_true (by omega)).symm)), S4.nil⟩
                    ·skip
                     refine J.head (.bool false) (congrArg Value.bool (decide_eq_false fk28)) ?_
                     refine J.run 5 K7_77 [(2, .bool false)] w4 (by kernel_rfl) ?_
                     refine J.ret Tryd.f7 [.bool false] Tryd.func7 ⟨by kernel_rfl, trivial⟩ ?_
                     refine hR _ _ ?_
                     exact ⟨congrArg Value.bool (decide_eq_false (show ¬ (formP i.gOp i.gA i.gB i.gC i.gK) by omega)).symm, S4.nil⟩
                   ·skip
                    refine J.head (.bool false) (congrArg Value.bool (decide_eq_false fk27)) ?_
                    refine J.run 9 K7_78 [(2, .bool false)] w4 (by kernel_rfl) ?_
                    refine J.ret Tryd.f7 [.bool false] Tryd.func7 ⟨by kernel_rfl, trivial⟩ ?_
                    refine hR _ _ ?_
                    exact ⟨congrArg Value.bool (decide_eq_false (show ¬ (formP i.gOp i.gA i.gB i.gC i.gK) by omega)).symm, S4.nil⟩
                  ·skip
                   refine J.head (.bool false) (congrArg Value.bool (beq_eq_false_iff_ne.2 fk26)) ?_
                   refine J.run 5 K7_79 [(122, .bool (i.gOp == 14)), (85, .int .i64 i.gOp), (6, .int .i64 ((max i.gK 0) % 128)), (4, .int .i64 ((max i.gK 0) / 16384)), (1, .pointer (some ⟨b1, 0, none⟩))] w4 (by kernel_rfl) ?_
                   by_cases fk29 : i.gOp = 14
                   ·skip
                    refine J.head (.bool true) (congrArg Value.bool (beq_iff_eq.2 fk29)) ?_
                    refine J.run 4 K7_80 [(125, .pointer (some ⟨b1, 4, none⟩)), (6, .int .i64 ((max i.gK 0) % 128)), (4, .int .i64 ((max i.gK 0) / 16384))] w4 (by kernel_rfl) ?_
                    refine J.ok (OK.ldBox S4 0 126 3 4 (.int .i64 i.gK) (by kernel_rfl) rfl (by kernel_rfl)) ?_
                    refine J.run 2 K7_81 [(128, .bool (decide (i.gK ≥ 0))), (6, .int .i64 ((max i.gK 0) % 128)), (4, .int .i64 ((max i.gK 0) / 16384))] w4 (by kernel_rfl) ?_
                    by_cases fk30 : i.gK ≥ 0
                    ·skip
                     refine J.head (.bool true) (congrArg Value.bool (decide_eq_true fk30)) ?_
                     refine J.run 4 K7_82 [(132, .bool (decide (((max i.gK 0) / 16384) < 128))), (6, .int .i64 ((max i.gK 0) % 128))] w4 (by kernel_rfl) ?_
                     by_cases fk31 : ((max i.gK 0) / 16384) < 128
                     ·skip
                      refine J.head (.bool true) (congrArg Value.bool (decide_eq_true fk31)) ?_
                      refine J.run 5 K7_83 [(2, .bool (((max i.gK 0) % 128) == 0))] w4 (by kernel_rfl) ?_
                      refine J.ret Tryd.f7 [.bool (((max i.gK 0) % 128) == 0)] Tryd.func7 ⟨by kernel_rfl, trivial⟩ ?_
                      refine hR _ _ ?_
                      exact ⟨congrArg Value.bool (by show (((max i.gK 0) % 128) == 0) = decide (formP i.gOp i.gA i.gB i.gC i.gK); by_cases hz_ : ((max i.gK 0) % 128) = 0; (rw [(beq_iff_eq.2 hz_)]; first | exact (decide_eq_true (by omega)).symm | exact (decide_eq_false (by omega)).symm); (rw [(beq_eq_false_iff_ne.2 hz_)]; first | exact (decide_eq_false (by omega)).symm | exact (decide_eq_true (by omega)).symm)), S4.nil⟩
                     ·skip
                      refine J.head (.bool false) (congrArg Value.bool (decide_eq_false fk31)) ?_
                      refine J.run 5 K7_84 [(2, .bool false)] w4 (by kernel_rfl) ?_
                      refine J.ret Tryd.f7 [.bool false] Tryd.func7 ⟨by kernel_rfl, trivial⟩ ?_
                      refine hR _ _ ?_
                      exact ⟨congrArg Value.bool (decide_eq_false (show ¬ (formP i.gOp i.gA i.gB i.gC i.gK) by omega)).symm, S4.nil⟩
                    ·skip
                     refine J.head (.bool false) (congrArg Value.bool (decide_eq_false fk30)) ?_
                     refine J.run 9 K7_85 [(2, .bool false)] w4 (by kernel_rfl) ?_
                     refine J.ret Tryd.f7 [.bool false] Tryd.func7 ⟨by kernel_rfl, trivial⟩ ?_
                     refine hR _ _ ?_
                     exact ⟨congrArg Value.bool (decide_eq_false (show ¬ (formP i.gOp i.gA i.gB i.gC i.gK) by omega)).symm, S4.nil⟩
                   ·skip
                    refine J.head (.bool false) (congrArg Value.bool (beq_eq_false_iff_ne.2 fk29)) ?_
                    refine J.run 6 K7_86 [(136, .bool (i.gOp == 19)), (85, .int .i64 i.gOp), (1, .pointer (some ⟨b1, 0, none⟩))] w4 (by kernel_rfl) ?_
                    by_cases fk32 : i.gOp = 19
                    ·skip
                     refine J.head (.bool true) (congrArg Value.bool (beq_iff_eq.2 fk32)) ?_
                     refine J.run 4 K7_87 [(138, .pointer (some ⟨b1, 4, none⟩)), (1, .pointer (some ⟨b1, 0, none⟩))] w4 (by kernel_rfl) ?_
                     refine J.ok (OK.ldBox S4 0 139 3 4 (.int .i64 i.gK) (by kernel_rfl) rfl (by kernel_rfl)) ?_
                     refine J.run 2 K7_88 [(141, .bool (decide (i.gK ≥ 0))), (1, .pointer (some ⟨b1, 0, none⟩))] w4 (by kernel_rfl) ?_
                     by_cases fk33 : i.gK ≥ 0
                     ·skip
                      refine J.head (.bool true) (congrArg Value.bool (decide_eq_true fk33)) ?_
                      refine J.run 1 K7_89 [(142, .pointer (some ⟨b1, 4, none⟩)), (141, .bool true)] w4 (by kernel_rfl) ?_
                      refine J.ok (OK.ldBox S4 0 143 3 4 (.int .i64 i.gK) (by kernel_rfl) rfl (by kernel_rfl)) ?_
                      refine J.run 4 K7_90 [(2, .bool (decide (i.gK ≤ 15)))] w4 (by kernel_rfl) ?_
                      refine J.ret Tryd.f7 [.bool (decide (i.gK ≤ 15))] Tryd.func7 ⟨by kernel_rfl, trivial⟩ ?_
                      refine hR _ _ ?_
                      exact ⟨congrArg Value.bool (by show (decide (i.gK ≤ 15)) = decide (formP i.gOp i.gA i.gB i.gC i.gK); by_cases hz_ : i.gK ≤ 15; (rw [(decide_eq_true hz_)]; first | exact (decide_eq_true (by omega)).symm | exact (decide_eq_false (by omega)).symm); (rw [(decide_eq_false hz_)]; first | exact (decide_eq_false (by omega)).symm | exact (decide_eq_true (by omega)).symm)), S4.nil⟩
                     ·skip
                      refine J.head (.bool false) (congrArg Value.bool (decide_eq_false fk33)) ?_
                      refine J.run 6 K7_91 [(2, .bool false)] w4 (by kernel_rfl) ?_
                      refine J.ret Tryd.f7 [.bool false] Tryd.func7 ⟨by kernel_rfl, trivial⟩ ?_
                      refine hR _ _ ?_
                      exact ⟨congrArg Value.bool (decide_eq_false (show ¬ (formP i.gOp i.gA i.gB i.gC i.gK) by omega)).symm, S4.nil⟩
                    ·skip
                     refine J.head (.bool false) (congrArg Value.bool (beq_eq_false_iff_ne.2 fk32)) ?_
                     refine J.run 6 K7_92 [(146, .bool (i.gOp == 22)), (1, .pointer (some ⟨b1, 0, none⟩))] w4 (by kernel_rfl) ?_
                     by_cases fk34 : i.gOp = 22
                     ·skip
                      refine J.head (.bool true) (congrArg Value.bool (beq_iff_eq.2 fk34)) ?_
                      refine J.run 4 K7_93 [(148, .pointer (some ⟨b1, 4, none⟩)), (1, .pointer (some ⟨b1, 0, none⟩))] w4 (by kernel_rfl) ?_
                      refine J.ok (OK.ldBox S4 0 149 3 4 (.int .i64 i.gK) (by kernel_rfl) rfl (by kernel_rfl)) ?_
                      refine J.run 2 K7_94 [(151, .bool (decide (i.gK ≥ 0))), (1, .pointer (some ⟨b1, 0, none⟩))] w4 (by kernel_rfl) ?_
                      by_cases fk35 : i.gK ≥ 0
                      ·skip
                       refine J.head (.bool true) (congrArg Value.bool (decide_eq_true fk35)) ?_
                       refine J.run 1 K7_95 [(152, .pointer (some ⟨b1, 4, none⟩)), (151, .bool true), (1, .pointer (some ⟨b1, 0, none⟩))] w4 (by kernel_rfl) ?_
                       refine J.ok (OK.ldBox S4 0 153 3 4 (.int .i64 i.gK) (by kernel_rfl) rfl (by kernel_rfl)) ?_
                       refine J.run 3 K7_96 [(156, .bool (decide (i.gK ≤ 32767))), (1, .pointer (some ⟨b1, 0, none⟩))] w4 (by kernel_rfl) ?_
                       by_cases fk36 : i.gK ≤ 32767
                       ·skip
                        refine J.head (.bool true) (congrArg Value.bool (decide_eq_true fk36)) ?_
                        refine J.run 1 K7_97 [(157, .pointer (some ⟨b1, 4, none⟩)), (156, .bool true)] w4 (by kernel_rfl) ?_
                        refine J.ok (OK.ldBox S4 0 158 3 4 (.int .i64 i.gK) (by kernel_rfl) rfl (by kernel_rfl)) ?_
                        refine J.run 1 K7_98 [(159, .int .i64 (Int.tmod i.gK 32)), (156, .bool true)] w4 (by kernel_rfl) ?_
                        refine J.head (.int .i64 (i.gK % 32)) (congrArg (Value.int .i64) (IntWalk.rem_in _ _ (by omega))) ?_
                        refine J.run 4 K7_99 [(2, .bool (decide ((i.gK % 32) ≤ 20)))] w4 (by kernel_rfl) ?_
                        refine J.ret Tryd.f7 [.bool (decide ((i.gK % 32) ≤ 20))] Tryd.func7 ⟨by kernel_rfl, trivial⟩ ?_
                        refine hR _ _ ?_
                        exact ⟨congrArg Value.bool (by show (decide ((i.gK % 32) ≤ 20)) = decide (formP i.gOp i.gA i.gB i.gC i.gK); by_cases hz_ : (i.gK % 32) ≤ 20; (rw [(decide_eq_true hz_)]; first | exact (decide_eq_true (by omega)).symm | exact (decide_eq_false (by omega)).symm); (rw [(decide_eq_false hz_)]; first | exact (decide_eq_false (by omega)).symm | exact (decide_eq_true (by omega)).symm)), S4.nil⟩
                       ·skip
                        refine J.head (.bool false) (congrArg Value.bool (decide_eq_false fk36)) ?_
                        refine J.run 7 K7_100 [(2, .bool false)] w4 (by kernel_rfl) ?_
                        refine J.ret Tryd.f7 [.bool false] Tryd.func7 ⟨by kernel_rfl, trivial⟩ ?_
                        refine hR _ _ ?_
                        exact ⟨congrArg Value.bool (decide_eq_false (show ¬ (formP i.gOp i.gA i.gB i.gC i.gK) by omega)).symm, S4.nil⟩
                      ·skip
                       refine J.head (.bool false) (congrArg Value.bool (decide_eq_false fk35)) ?_
                       refine J.run 12 K7_101 [(2, .bool false)] w4 (by kernel_rfl) ?_
                       refine J.ret Tryd.f7 [.bool false] Tryd.func7 ⟨by kernel_rfl, trivial⟩ ?_
                       refine hR _ _ ?_
                       exact ⟨congrArg Value.bool (decide_eq_false (show ¬ (formP i.gOp i.gA i.gB i.gC i.gK) by omega)).symm, S4.nil⟩
                     ·skip
                      refine J.head (.bool false) (congrArg Value.bool (beq_eq_false_iff_ne.2 fk34)) ?_
                      refine J.run 6 K7_102 [(162, .pointer (some ⟨b1, 4, none⟩)), (1, .pointer (some ⟨b1, 0, none⟩))] w4 (by kernel_rfl) ?_
                      refine J.ok (OK.ldBox S4 0 163 3 4 (.int .i64 i.gK) (by kernel_rfl) rfl (by kernel_rfl)) ?_
                      refine J.run 2 K7_103 [(165, .bool (decide (i.gK ≥ 0))), (1, .pointer (some ⟨b1, 0, none⟩))] w4 (by kernel_rfl) ?_
                      by_cases fk37 : i.gK ≥ 0
                      ·skip
                       refine J.head (.bool true) (congrArg Value.bool (decide_eq_true fk37)) ?_
                       refine J.run 1 K7_104 [(166, .pointer (some ⟨b1, 4, none⟩)), (165, .bool true)] w4 (by kernel_rfl) ?_
                       refine J.ok (OK.ldBox S4 0 167 3 4 (.int .i64 i.gK) (by kernel_rfl) rfl (by kernel_rfl)) ?_
                       refine J.run 4 K7_105 [(2, .bool (decide (i.gK ≤ 32767)))] w4 (by kernel_rfl) ?_
                       refine J.ret Tryd.f7 [.bool (decide (i.gK ≤ 32767))] Tryd.func7 ⟨by kernel_rfl, trivial⟩ ?_
                       refine hR _ _ ?_
                       exact ⟨congrArg Value.bool (by show (decide (i.gK ≤ 32767)) = decide (formP i.gOp i.gA i.gB i.gC i.gK); by_cases hz_ : i.gK ≤ 32767; (rw [(decide_eq_true hz_)]; first | exact (decide_eq_true (by omega)).symm | exact (decide_eq_false (by omega)).symm); (rw [(decide_eq_false hz_)]; first | exact (decide_eq_false (by omega)).symm | exact (decide_eq_true (by omega)).symm)), S4.nil⟩
                      ·skip
                       refine J.head (.bool false) (congrArg Value.bool (decide_eq_false fk37)) ?_
                       refine J.run 6 K7_106 [(2, .bool false)] w4 (by kernel_rfl) ?_
                       refine J.ret Tryd.f7 [.bool false] Tryd.func7 ⟨by kernel_rfl, trivial⟩ ?_
                       refine hR _ _ ?_
                       exact ⟨congrArg Value.bool (decide_eq_false (show ¬ (formP i.gOp i.gA i.gB i.gC i.gK) by omega)).symm, S4.nil⟩
         refine J.run 2 K7_107 [(48, .string (fieldsF i.gOp)), (3, .string (fieldsF i.gOp)), (1, .pointer (some ⟨b1, 0, none⟩))] w2 (by kernel_rfl) ?_
         refine J.callF 49 20 #[.string (fieldsF i.gOp), .int .u8 66] hb20 (by kernel_rfl) (uses_any (fieldsF i.gOp) 66 _ (by omega)) ?_
         rintro _ w5 ⟨rfl, T3⟩
         have S5 : Sep w [box b1 [.int .i64 i.gOp, .int .i64 i.gA, .int .i64 i.gB, .int .i64 i.gC, .int .i64 i.gK] 23] w5 := S2.trans T3
         clear T3 S2
         refine J.run 2 K7_108 [(51, .bool (!(hasF (fieldsF i.gOp) 66))), (3, .string (fieldsF i.gOp)), (1, .pointer (some ⟨b1, 0, none⟩))] w5 (by kernel_rfl) ?_
         rcases Bool.eq_false_or_eq_true (hasF (fieldsF i.gOp) 66) with fk38 | fk38
         ·skip
          refine J.head (.bool false) (congrArg Value.bool (by rw [fk38]; rfl)) ?_
          have fb3 := (has_B (op := i.gOp) (by omega)).1 fk38
          refine J.run 6 K7_109 [(57, .string (fieldsF i.gOp)), (56, .bool false), (3, .string (fieldsF i.gOp)), (1, .pointer (some ⟨b1, 0, none⟩))] w5 (by kernel_rfl) ?_
          refine J.callF 58 20 #[.string (fieldsF i.gOp), .int .u8 67] hb20 (by kernel_rfl) (uses_any (fieldsF i.gOp) 67 _ (by omega)) ?_
          rintro _ w6 ⟨rfl, T4⟩
          have S6 : Sep w [box b1 [.int .i64 i.gOp, .int .i64 i.gA, .int .i64 i.gB, .int .i64 i.gC, .int .i64 i.gK] 23] w6 := S5.trans T4
          clear T4 S5
          refine J.run 2 K7_110 [(60, .bool (!(hasF (fieldsF i.gOp) 67))), (56, .bool false), (3, .string (fieldsF i.gOp)), (1, .pointer (some ⟨b1, 0, none⟩))] w6 (by kernel_rfl) ?_
          rcases Bool.eq_false_or_eq_true (hasF (fieldsF i.gOp) 67) with fk39 | fk39
          ·skip
           refine J.head (.bool false) (congrArg Value.bool (by rw [fk39]; rfl)) ?_
           have fb4 := (has_C (op := i.gOp) (by omega)).1 fk39
           refine J.run 7 K7_111 [(67, .string (fieldsF i.gOp)), (66, .bool false), (1, .pointer (some ⟨b1, 0, none⟩))] w6 (by kernel_rfl) ?_
           refine J.callF 68 20 #[.string (fieldsF i.gOp), .int .u8 75] hb20 (by kernel_rfl) (uses_any (fieldsF i.gOp) 75 _ (by omega)) ?_
           rintro _ w7 ⟨rfl, T5⟩
           have S7 : Sep w [box b1 [.int .i64 i.gOp, .int .i64 i.gA, .int .i64 i.gB, .int .i64 i.gC, .int .i64 i.gK] 23] w7 := S6.trans T5
           clear T5 S6
           refine J.run 2 K7_112 [(70, .bool (!(hasF (fieldsF i.gOp) 75))), (66, .bool false), (1, .pointer (some ⟨b1, 0, none⟩))] w7 (by kernel_rfl) ?_
           rcases Bool.eq_false_or_eq_true (hasF (fieldsF i.gOp) 75) with fk40 | fk40
           ·skip
            refine J.head (.bool false) (congrArg Value.bool (by rw [fk40]; rfl)) ?_
            have fb5 := (has_K (op := i.gOp) (by omega)).1 fk40
            refine J.run 6 K7_27 [(1, .pointer (some ⟨b1, 0, none⟩)), (75, .bool false)] w7 (by kernel_rfl) ?_
            exact X1 false w7 (⟨fun h_ => by first | (cases h_; done) | (have h2_ := of_decide_eq_true h_; omega) | (have h2_ := bne_iff_ne.1 h_; omega) | omega, fun h_ => by first | (cases h_; done) | (have h2_ := of_decide_eq_false h_; omega) | (have h2_ := bne_eq_false_iff_eq.1 h_; omega) | omega⟩) S7
           ·skip
            refine J.head (.bool true) (congrArg Value.bool (by rw [fk40]; rfl)) ?_
            have fb6 := mt (has_K (op := i.gOp) (by omega)).2 (by rw [fk40]; decide)
            refine J.run 1 K7_113 [(71, .pointer (some ⟨b1, 4, none⟩)), (70, .bool true), (66, .bool false), (1, .pointer (some ⟨b1, 0, none⟩))] w7 (by kernel_rfl) ?_
            refine J.ok (OK.ldBox S7 0 72 3 4 (.int .i64 i.gK) (by kernel_rfl) rfl (by kernel_rfl)) ?_
            refine J.run 4 K7_27 [(1, .pointer (some ⟨b1, 0, none⟩)), (75, .bool (i.gK != 0))] w7 (by kernel_rfl) ?_
            exact X1 (i.gK != 0) w7 (⟨fun h_ => by first | (cases h_; done) | (have h2_ := of_decide_eq_true h_; omega) | (have h2_ := bne_iff_ne.1 h_; omega) | omega, fun h_ => by first | (cases h_; done) | (have h2_ := of_decide_eq_false h_; omega) | (have h2_ := bne_eq_false_iff_eq.1 h_; omega) | omega⟩) S7
          ·skip
           refine J.head (.bool true) (congrArg Value.bool (by rw [fk39]; rfl)) ?_
           have fb7 := mt (has_C (op := i.gOp) (by omega)).2 (by rw [fk39]; decide)
           refine J.run 1 K7_114 [(61, .pointer (some ⟨b1, 3, none⟩)), (60, .bool true), (56, .bool false), (3, .string (fieldsF i.gOp)), (1, .pointer (some ⟨b1, 0, none⟩))] w6 (by kernel_rfl) ?_
           refine J.ok (OK.ldBox S6 0 62 3 3 (.int .i64 i.gC) (by kernel_rfl) rfl (by kernel_rfl)) ?_
           refine J.run 4 K7_115 [(66, .bool (i.gC != 0)), (3, .string (fieldsF i.gOp)), (1, .pointer (some ⟨b1, 0, none⟩))] w6 (by kernel_rfl) ?_
           by_cases fk41 : i.gC = 0
           ·skip
            refine J.head (.bool false) (congrArg Value.bool (bne_eq_false_iff_eq.2 fk41)) ?_
            refine J.run 1 K7_116 [(67, .string (fieldsF i.gOp)), (66, .bool false), (1, .pointer (some ⟨b1, 0, none⟩))] w6 (by kernel_rfl) ?_
            refine J.callF 68 20 #[.string (fieldsF i.gOp), .int .u8 75] hb20 (by kernel_rfl) (uses_any (fieldsF i.gOp) 75 _ (by omega)) ?_
            rintro _ w8 ⟨rfl, T6⟩
            have S8 : Sep w [box b1 [.int .i64 i.gOp, .int .i64 i.gA, .int .i64 i.gB, .int .i64 i.gC, .int .i64 i.gK] 23] w8 := S6.trans T6
            clear T6 S6
            refine J.run 2 K7_117 [(70, .bool (!(hasF (fieldsF i.gOp) 75))), (66, .bool false), (1, .pointer (some ⟨b1, 0, none⟩))] w8 (by kernel_rfl) ?_
            rcases Bool.eq_false_or_eq_true (hasF (fieldsF i.gOp) 75) with fk42 | fk42
            ·skip
             refine J.head (.bool false) (congrArg Value.bool (by rw [fk42]; rfl)) ?_
             have fb8 := (has_K (op := i.gOp) (by omega)).1 fk42
             refine J.run 6 K7_27 [(1, .pointer (some ⟨b1, 0, none⟩)), (75, .bool false)] w8 (by kernel_rfl) ?_
             exact X1 false w8 (⟨fun h_ => by first | (cases h_; done) | (have h2_ := of_decide_eq_true h_; omega) | (have h2_ := bne_iff_ne.1 h_; omega) | omega, fun h_ => by first | (cases h_; done) | (have h2_ := of_decide_eq_false h_; omega) | (have h2_ := bne_eq_false_iff_eq.1 h_; omega) | omega⟩) S8
            ·skip
             refine J.head (.bool true) (congrArg Value.bool (by rw [fk42]; rfl)) ?_
             have fb9 := mt (has_K (op := i.gOp) (by omega)).2 (by rw [fk42]; decide)
             refine J.run 1 K7_118 [(71, .pointer (some ⟨b1, 4, none⟩)), (70, .bool true), (66, .bool false), (1, .pointer (some ⟨b1, 0, none⟩))] w8 (by kernel_rfl) ?_
             refine J.ok (OK.ldBox S8 0 72 3 4 (.int .i64 i.gK) (by kernel_rfl) rfl (by kernel_rfl)) ?_
             refine J.run 4 K7_27 [(1, .pointer (some ⟨b1, 0, none⟩)), (75, .bool (i.gK != 0))] w8 (by kernel_rfl) ?_
             exact X1 (i.gK != 0) w8 (⟨fun h_ => by first | (cases h_; done) | (have h2_ := of_decide_eq_true h_; omega) | (have h2_ := bne_iff_ne.1 h_; omega) | omega, fun h_ => by first | (cases h_; done) | (have h2_ := of_decide_eq_false h_; omega) | (have h2_ := bne_eq_false_iff_eq.1 h_; omega) | omega⟩) S8
           ·skip
            refine J.head (.bool true) (congrArg Value.bool (bne_iff_ne.2 fk41)) ?_
            refine J.run 10 K7_27 [(1, .pointer (some ⟨b1, 0, none⟩)), (75, .bool true)] w6 (by kernel_rfl) ?_
            exact X1 true w6 (⟨fun h_ => by first | (cases h_; done) | (have h2_ := of_decide_eq_true h_; omega) | (have h2_ := bne_iff_ne.1 h_; omega) | omega, fun h_ => by first | (cases h_; done) | (have h2_ := of_decide_eq_false h_; omega) | (have h2_ := bne_eq_false_iff_eq.1 h_; omega) | omega⟩) S6
         ·skip
          refine J.head (.bool true) (congrArg Value.bool (by rw [fk38]; rfl)) ?_
          have fb10 := mt (has_B (op := i.gOp) (by omega)).2 (by rw [fk38]; decide)
          refine J.run 1 K7_119 [(52, .pointer (some ⟨b1, 2, none⟩)), (51, .bool true), (3, .string (fieldsF i.gOp)), (1, .pointer (some ⟨b1, 0, none⟩))] w5 (by kernel_rfl) ?_
          refine J.ok (OK.ldBox S5 0 53 3 2 (.int .i64 i.gB) (by kernel_rfl) rfl (by kernel_rfl)) ?_
          refine J.run 3 K7_120 [(56, .bool (i.gB != 0)), (3, .string (fieldsF i.gOp)), (1, .pointer (some ⟨b1, 0, none⟩))] w5 (by kernel_rfl) ?_
          by_cases fk43 : i.gB = 0
          ·skip
           refine J.head (.bool false) (congrArg Value.bool (bne_eq_false_iff_eq.2 fk43)) ?_
           refine J.run 1 K7_121 [(57, .string (fieldsF i.gOp)), (56, .bool false), (3, .string (fieldsF i.gOp)), (1, .pointer (some ⟨b1, 0, none⟩))] w5 (by kernel_rfl) ?_
           refine J.callF 58 20 #[.string (fieldsF i.gOp), .int .u8 67] hb20 (by kernel_rfl) (uses_any (fieldsF i.gOp) 67 _ (by omega)) ?_
           rintro _ w9 ⟨rfl, T7⟩
           have S9 : Sep w [box b1 [.int .i64 i.gOp, .int .i64 i.gA, .int .i64 i.gB, .int .i64 i.gC, .int .i64 i.gK] 23] w9 := S5.trans T7
           clear T7 S5
           refine J.run 2 K7_122 [(60, .bool (!(hasF (fieldsF i.gOp) 67))), (56, .bool false), (3, .string (fieldsF i.gOp)), (1, .pointer (some ⟨b1, 0, none⟩))] w9 (by kernel_rfl) ?_
           rcases Bool.eq_false_or_eq_true (hasF (fieldsF i.gOp) 67) with fk44 | fk44
           ·skip
            refine J.head (.bool false) (congrArg Value.bool (by rw [fk44]; rfl)) ?_
            have fb11 := (has_C (op := i.gOp) (by omega)).1 fk44
            refine J.run 7 K7_123 [(67, .string (fieldsF i.gOp)), (66, .bool false), (1, .pointer (some ⟨b1, 0, none⟩))] w9 (by kernel_rfl) ?_
            refine J.callF 68 20 #[.string (fieldsF i.gOp), .int .u8 75] hb20 (by kernel_rfl) (uses_any (fieldsF i.gOp) 75 _ (by omega)) ?_
            rintro _ w10 ⟨rfl, T8⟩
            have S10 : Sep w [box b1 [.int .i64 i.gOp, .int .i64 i.gA, .int .i64 i.gB, .int .i64 i.gC, .int .i64 i.gK] 23] w10 := S9.trans T8
            clear T8 S9
            refine J.run 2 K7_124 [(70, .bool (!(hasF (fieldsF i.gOp) 75))), (66, .bool false), (1, .pointer (some ⟨b1, 0, none⟩))] w10 (by kernel_rfl) ?_
            rcases Bool.eq_false_or_eq_true (hasF (fieldsF i.gOp) 75) with fk45 | fk45
            ·skip
             refine J.head (.bool false) (congrArg Value.bool (by rw [fk45]; rfl)) ?_
             have fb12 := (has_K (op := i.gOp) (by omega)).1 fk45
             refine J.run 6 K7_27 [(1, .pointer (some ⟨b1, 0, none⟩)), (75, .bool false)] w10 (by kernel_rfl) ?_
             exact X1 false w10 (⟨fun h_ => by first | (cases h_; done) | (have h2_ := of_decide_eq_true h_; omega) | (have h2_ := bne_iff_ne.1 h_; omega) | omega, fun h_ => by first | (cases h_; done) | (have h2_ := of_decide_eq_false h_; omega) | (have h2_ := bne_eq_false_iff_eq.1 h_; omega) | omega⟩) S10
            ·skip
             refine J.head (.bool true) (congrArg Value.bool (by rw [fk45]; rfl)) ?_
             have fb13 := mt (has_K (op := i.gOp) (by omega)).2 (by rw [fk45]; decide)
             refine J.run 1 K7_125 [(71, .pointer (some ⟨b1, 4, none⟩)), (70, .bool true), (66, .bool false), (1, .pointer (some ⟨b1, 0, none⟩))] w10 (by kernel_rfl) ?_
             refine J.ok (OK.ldBox S10 0 72 3 4 (.int .i64 i.gK) (by kernel_rfl) rfl (by kernel_rfl)) ?_
             refine J.run 4 K7_27 [(1, .pointer (some ⟨b1, 0, none⟩)), (75, .bool (i.gK != 0))] w10 (by kernel_rfl) ?_
             exact X1 (i.gK != 0) w10 (⟨fun h_ => by first | (cases h_; done) | (have h2_ := of_decide_eq_true h_; omega) | (have h2_ := bne_iff_ne.1 h_; omega) | omega, fun h_ => by first | (cases h_; done) | (have h2_ := of_decide_eq_false h_; omega) | (have h2_ := bne_eq_false_iff_eq.1 h_; omega) | omega⟩) S10
           ·skip
            refine J.head (.bool true) (congrArg Value.bool (by rw [fk44]; rfl)) ?_
            have fb14 := mt (has_C (op := i.gOp) (by omega)).2 (by rw [fk44]; decide)
            refine J.run 1 K7_126 [(61, .pointer (some ⟨b1, 3, none⟩)), (60, .bool true), (56, .bool false), (3, .string (fieldsF i.gOp)), (1, .pointer (some ⟨b1, 0, none⟩))] w9 (by kernel_rfl) ?_
            refine J.ok (OK.ldBox S9 0 62 3 3 (.int .i64 i.gC) (by kernel_rfl) rfl (by kernel_rfl)) ?_
            refine J.run 4 K7_127 [(66, .bool (i.gC != 0)), (3, .string (fieldsF i.gOp)), (1, .pointer (some ⟨b1, 0, none⟩))] w9 (by kernel_rfl) ?_
            by_cases fk46 : i.gC = 0
            ·skip
             refine J.head (.bool false) (congrArg Value.bool (bne_eq_false_iff_eq.2 fk46)) ?_
             refine J.run 1 K7_128 [(67, .string (fieldsF i.gOp)), (66, .bool false), (1, .pointer (some ⟨b1, 0, none⟩))] w9 (by kernel_rfl) ?_
             refine J.callF 68 20 #[.string (fieldsF i.gOp), .int .u8 75] hb20 (by kernel_rfl) (uses_any (fieldsF i.gOp) 75 _ (by omega)) ?_
             rintro _ w11 ⟨rfl, T9⟩
             have S11 : Sep w [box b1 [.int .i64 i.gOp, .int .i64 i.gA, .int .i64 i.gB, .int .i64 i.gC, .int .i64 i.gK] 23] w11 := S9.trans T9
             clear T9 S9
             refine J.run 2 K7_129 [(70, .bool (!(hasF (fieldsF i.gOp) 75))), (66, .bool false), (1, .pointer (some ⟨b1, 0, none⟩))] w11 (by kernel_rfl) ?_
             rcases Bool.eq_false_or_eq_true (hasF (fieldsF i.gOp) 75) with fk47 | fk47
             ·skip
              refine J.head (.bool false) (congrArg Value.bool (by rw [fk47]; rfl)) ?_
              have fb15 := (has_K (op := i.gOp) (by omega)).1 fk47
              refine J.run 6 K7_27 [(1, .pointer (some ⟨b1, 0, none⟩)), (75, .bool false)] w11 (by kernel_rfl) ?_
              exact X1 false w11 (⟨fun h_ => by first | (cases h_; done) | (have h2_ := of_decide_eq_true h_; omega) | (have h2_ := bne_iff_ne.1 h_; omega) | omega, fun h_ => by first | (cases h_; done) | (have h2_ := of_decide_eq_false h_; omega) | (have h2_ := bne_eq_false_iff_eq.1 h_; omega) | omega⟩) S11
             ·skip
              refine J.head (.bool true) (congrArg Value.bool (by rw [fk47]; rfl)) ?_
              have fb16 := mt (has_K (op := i.gOp) (by omega)).2 (by rw [fk47]; decide)
              refine J.run 1 K7_130 [(71, .pointer (some ⟨b1, 4, none⟩)), (70, .bool true), (66, .bool false), (1, .pointer (some ⟨b1, 0, none⟩))] w11 (by kernel_rfl) ?_
              refine J.ok (OK.ldBox S11 0 72 3 4 (.int .i64 i.gK) (by kernel_rfl) rfl (by kernel_rfl)) ?_
              refine J.run 4 K7_27 [(1, .pointer (some ⟨b1, 0, none⟩)), (75, .bool (i.gK != 0))] w11 (by kernel_rfl) ?_
              exact X1 (i.gK != 0) w11 (⟨fun h_ => by first | (cases h_; done) | (have h2_ := of_decide_eq_true h_; omega) | (have h2_ := bne_iff_ne.1 h_; omega) | omega, fun h_ => by first | (cases h_; done) | (have h2_ := of_decide_eq_false h_; omega) | (have h2_ := bne_eq_false_iff_eq.1 h_; omega) | omega⟩) S11
            ·skip
             refine J.head (.bool true) (congrArg Value.bool (bne_iff_ne.2 fk46)) ?_
             refine J.run 10 K7_27 [(1, .pointer (some ⟨b1, 0, none⟩)), (75, .bool true)] w9 (by kernel_rfl) ?_
             exact X1 true w9 (⟨fun h_ => by first | (cases h_; done) | (have h2_ := of_decide_eq_true h_; omega) | (have h2_ := bne_iff_ne.1 h_; omega) | omega, fun h_ => by first | (cases h_; done) | (have h2_ := of_decide_eq_false h_; omega) | (have h2_ := bne_eq_false_iff_eq.1 h_; omega) | omega⟩) S9
          ·skip
           refine J.head (.bool true) (congrArg Value.bool (bne_iff_ne.2 fk43)) ?_
           refine J.run 20 K7_27 [(1, .pointer (some ⟨b1, 0, none⟩)), (75, .bool true)] w5 (by kernel_rfl) ?_
           exact X1 true w5 (⟨fun h_ => by first | (cases h_; done) | (have h2_ := of_decide_eq_true h_; omega) | (have h2_ := bne_iff_ne.1 h_; omega) | omega, fun h_ => by first | (cases h_; done) | (have h2_ := of_decide_eq_false h_; omega) | (have h2_ := bne_eq_false_iff_eq.1 h_; omega) | omega⟩) S5

end Go.Proofs.YthfpejhonhaggaaDoor
