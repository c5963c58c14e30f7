/- Walks of functions of this seat, printed by a program over the engine. Conditions: as each theorem says. -/
import Derived.Test.YthfpejhonhaggaaGreatDoorZW7
namespace Go.Proofs.YthfpejhonhaggaaGreatDoor
open Go.Eng Go.RowKit
set_option linter.unusedSimpArgs false
set_option linter.unusedVariables false
theorem hb61 : HasBody Tryz.prog 61 := fun _ _ => by kernel_rfl
noncomputable def K61_0 : List Item := adv 10 [] (bodyOf Tryz.f61)
noncomputable def K61_1 : List Item := adv 2 [] K61_0
noncomputable def K61_2 : List Item := adv 1 [] K61_1
noncomputable def K61_3 : List Item := adv 2 [] K61_2
noncomputable def K61_4 : List Item := adv 4 [] K61_3
set_option maxRecDepth 20000 in
set_option maxHeartbeats 20000000 in
theorem rtypes_any (k : Int) (w : World) (hk : 0 ≤ k ∧ k ≤ 9223372036854775807) : Ret Tryz.prog 61 #[iv k] w (fun v w' => v = .tuple #[iv (k / 16384), iv (k / 128 % 128), iv (k % 128)] ∧ Sep w [] w') := by
 have S0 := Sep.refl w
 refine Ret.named fun R hR => ?_
 refine Ret.of_J (N := 12) [(0, iv k)] Tryz.func61 rfl rfl (Nat.le_of_ble_eq_true (by kernel_rfl)) (by kernel_rfl) ?_
 refine J.run 10 K61_0 [(6, iv (IntKind.wrap .i64 (Int.tdiv k 16384))), (0, iv k)] w (by kernel_rfl) ?_
 refine J.head (iv (k / 16384)) (congrArg (Value.int .i64) (IntWalk.i64_quo _ _ (by omega))) ?_
 refine J.run 2 K61_1 [(8, iv (IntKind.wrap .i64 (Int.tdiv k 128))), (6, iv (k / 16384)), (0, iv k)] w (by kernel_rfl) ?_
 refine J.head (iv (k / 128)) (congrArg (Value.int .i64) (IntWalk.i64_quo _ _ (by omega))) ?_
 refine J.run 1 K61_2 [(9, iv (Int.tmod (k / 128) 128)), (6, iv (k / 16384)), (0, iv k)] w (by kernel_rfl) ?_
 refine J.head (iv ((k / 128) % 128)) (congrArg (Value.int .i64) (IntWalk.rem_in _ _ (by omega))) ?_
 refine J.run 2 K61_3 [(11, iv (Int.tmod k 128)), (9, iv ((k / 128) % 128)), (6, iv (k / 16384))] w (by kernel_rfl) ?_
 refine J.head (iv (k % 128)) (congrArg (Value.int .i64) (IntWalk.rem_in _ _ (by omega))) ?_
 refine J.run 4 K61_4 [(4, iv (k % 128)), (3, iv ((k / 128) % 128)), (2, iv (k / 16384))] w (by kernel_rfl) ?_
 refine J.ret Tryz.f61 [iv (k / 16384), iv ((k / 128) % 128), iv (k % 128)] Tryz.func61 ⟨by kernel_rfl, by kernel_rfl, by kernel_rfl, trivial⟩ ?_
 refine hR _ _ ?_
 exact ⟨rfl, S0.nil⟩

theorem hb59 : HasBody Tryz.prog 59 := fun _ _ => by kernel_rfl
noncomputable def K59_0 : List Item := adv 16 [] (bodyOf Tryz.f59)
noncomputable def K59_1 : List Item := List.drop 1 K59_0
noncomputable def K59_2 : List Item := adv 5 [true] K59_1
noncomputable def K59_3 : List Item := adv 7 [false] K59_1
noncomputable def K59_4 : List Item := List.drop 1 K59_3
noncomputable def K59_5 : List Item := adv 5 [true] K59_4
noncomputable def K59_6 : List Item := adv 7 [false] K59_4
noncomputable def K59_7 : List Item := List.drop 1 K59_6
noncomputable def K59_8 : List Item := adv 5 [true] K59_7
noncomputable def K59_9 : List Item := adv 7 [false] K59_7
noncomputable def K59_10 : List Item := List.drop 1 K59_9
noncomputable def K59_11 : List Item := adv 5 [true] K59_10
noncomputable def K59_12 : List Item := adv 7 [false] K59_10
noncomputable def K59_13 : List Item := adv 6 [false] K59_9
noncomputable def K59_14 : List Item := adv 6 [false] K59_13
noncomputable def K59_15 : List Item := adv 6 [false] K59_6
noncomputable def K59_16 : List Item := adv 6 [false] K59_15
noncomputable def K59_17 : List Item := adv 6 [false] K59_16
noncomputable def K59_18 : List Item := adv 6 [false] K59_17
noncomputable def K59_19 : List Item := adv 6 [false] K59_18
noncomputable def K59_20 : List Item := adv 6 [false] K59_19
noncomputable def K59_21 : List Item := adv 6 [false] K59_0
set_option maxRecDepth 20000 in
set_option maxHeartbeats 20000000 in
theorem rfields_any (op : Int) (w : World) (hop : 1 ≤ op ∧ op ≤ 22) : Ret Tryz.prog 59 #[iv op] w (fun v w' => v = .string (fieldsF op) ∧ Sep w [] w') := by
 have S0 := Sep.refl w
 refine Ret.named fun R hR => ?_
 refine Ret.of_J (N := 25) [(0, iv op)] Tryz.func59 rfl rfl (Nat.le_of_ble_eq_true (by kernel_rfl)) (by kernel_rfl) ?_
 refine J.run 16 K59_0 [(4, .bool (op == 1)), (3, iv op)] w (by kernel_rfl) ?_
 have X1 : ∀ (tj4 : Bool) (w1 : World), ((tj4 = true → (op = 1 ∨ op = 2 ∨ op = 3)) ∧ (tj4 = false → ¬ (op = 1 ∨ op = 2 ∨ op = 3))) → Sep w [] w1 → J Tryz.prog 59 25 R K59_1 [(3, iv op), (4, .bool tj4)] w1 := by
  intro tj4 w1 htj4 S1
  refine J.run 0 K59_1 [(4, .bool tj4), (3, iv op)] w1 (by kernel_rfl) ?_
  rcases Bool.eq_false_or_eq_true tj4 with fk1 | fk1
  ·skip
   refine J.head (.bool true) (congrArg Value.bool fk1) ?_
   have fb1 := htj4.1 fk1
   refine J.run 5 K59_2 [(2, .string ⟨#[65, 75]⟩)] w1 (by kernel_rfl) ?_
   refine J.ret Tryz.f59 [.string ⟨#[65, 75]⟩] Tryz.func59 ⟨by kernel_rfl, trivial⟩ ?_
   refine hR _ _ ?_
   exact ⟨congrArg Value.string (by unfold fieldsF; (repeat first | rw [if_pos (by omega)] | rw [if_neg (by omega)]) <;> rfl), S1.nil⟩
  ·skip
   refine J.head (.bool false) (congrArg Value.bool fk1) ?_
   have fb2 := htj4.2 fk1
   refine J.run 7 K59_3 [(8, .bool (op == 4)), (3, iv op)] w1 (by kernel_rfl) ?_
   have X2 : ∀ (tj8 : Bool) (w2 : World), ((tj8 = true → (op = 4 ∨ op = 18)) ∧ (tj8 = false → ¬ (op = 4 ∨ op = 18))) → Sep w [] w2 → J Tryz.prog 59 25 R K59_4 [(3, iv op), (8, .bool tj8)] w2 := by
    intro tj8 w2 htj8 S2
    refine J.run 0 K59_4 [(8, .bool tj8), (3, iv op)] w2 (by kernel_rfl) ?_
    rcases Bool.eq_false_or_eq_true tj8 with fk2 | fk2
    ·skip
     refine J.head (.bool true) (congrArg Value.bool fk2) ?_
     have fb3 := htj8.1 fk2
     refine J.run 5 K59_5 [(2, .string ⟨#[65, 66]⟩)] w2 (by kernel_rfl) ?_
     refine J.ret Tryz.f59 [.string ⟨#[65, 66]⟩] Tryz.func59 ⟨by kernel_rfl, trivial⟩ ?_
     refine hR _ _ ?_
     exact ⟨congrArg Value.string (by unfold fieldsF; (repeat first | rw [if_pos (by omega)] | rw [if_neg (by omega)]) <;> rfl), S2.nil⟩
    ·skip
     refine J.head (.bool false) (congrArg Value.bool fk2) ?_
     have fb4 := htj8.2 fk2
     refine J.run 7 K59_6 [(11, .bool (op == 5)), (3, iv op)] w2 (by kernel_rfl) ?_
     have X3 : ∀ (tj11 : Bool) (w3 : World), ((tj11 = true → (op = 5 ∨ op = 6 ∨ op = 7 ∨ op = 8 ∨ op = 13 ∨ op = 14 ∨ op = 19 ∨ op = 21)) ∧ (tj11 = false → ¬ (op = 5 ∨ op = 6 ∨ op = 7 ∨ op = 8 ∨ op = 13 ∨ op = 14 ∨ op = 19 ∨ op = 21))) → Sep w [] w3 → J Tryz.prog 59 25 R K59_7 [(3, iv op), (11, .bool tj11)] w3 := by
      intro tj11 w3 htj11 S3
      refine J.run 0 K59_7 [(11, .bool tj11), (3, iv op)] w3 (by kernel_rfl) ?_
      rcases Bool.eq_false_or_eq_true tj11 with fk3 | fk3
      ·skip
       refine J.head (.bool true) (congrArg Value.bool fk3) ?_
       have fb5 := htj11.1 fk3
       refine J.run 5 K59_8 [(2, .string ⟨#[65, 66, 67, 75]⟩)] w3 (by kernel_rfl) ?_
       refine J.ret Tryz.f59 [.string ⟨#[65, 66, 67, 75]⟩] Tryz.func59 ⟨by kernel_rfl, trivial⟩ ?_
       refine hR _ _ ?_
       exact ⟨congrArg Value.string (by unfold fieldsF; (repeat first | rw [if_pos (by omega)] | rw [if_neg (by omega)]) <;> rfl), S3.nil⟩
      ·skip
       refine J.head (.bool false) (congrArg Value.bool fk3) ?_
       have fb6 := htj11.2 fk3
       refine J.run 7 K59_9 [(20, .bool (op == 9)), (3, iv op)] w3 (by kernel_rfl) ?_
       have X4 : ∀ (tj20 : Bool) (w4 : World), ((tj20 = true → (op = 9 ∨ op = 10 ∨ op = 20 ∨ op = 22)) ∧ (tj20 = false → ¬ (op = 9 ∨ op = 10 ∨ op = 20 ∨ op = 22))) → Sep w [] w4 → J Tryz.prog 59 25 R K59_10 [(20, .bool tj20)] w4 := by
        intro tj20 w4 htj20 S4
        rcases Bool.eq_false_or_eq_true tj20 with fk4 | fk4
        ·skip
         refine J.head (.bool true) (congrArg Value.bool fk4) ?_
         have fb7 := htj20.1 fk4
         refine J.run 5 K59_11 [(2, .string ⟨#[65, 66, 75]⟩)] w4 (by kernel_rfl) ?_
         refine J.ret Tryz.f59 [.string ⟨#[65, 66, 75]⟩] Tryz.func59 ⟨by kernel_rfl, trivial⟩ ?_
         refine hR _ _ ?_
         exact ⟨congrArg Value.string (by unfold fieldsF; (repeat first | rw [if_pos (by omega)] | rw [if_neg (by omega)]) <;> rfl), S4.nil⟩
        ·skip
         refine J.head (.bool false) (congrArg Value.bool fk4) ?_
         have fb8 := htj20.2 fk4
         refine J.run 7 K59_12 [(2, .string ⟨#[65, 66, 67]⟩)] w4 (by kernel_rfl) ?_
         refine J.ret Tryz.f59 [.string ⟨#[65, 66, 67]⟩] Tryz.func59 ⟨by kernel_rfl, trivial⟩ ?_
         refine hR _ _ ?_
         exact ⟨congrArg Value.string (by unfold fieldsF; (repeat first | rw [if_pos (by omega)] | rw [if_neg (by omega)]) <;> rfl), S4.nil⟩
       by_cases fk5 : op = 9
       ·skip
        refine J.head (.bool true) (congrArg Value.bool (beq_iff_eq.2 fk5)) ?_
        refine J.run 2 K59_10 [(20, .bool true)] w3 (by kernel_rfl) ?_
        exact X4 true w3 (⟨fun h_ => by first | (cases h_; done) | (have h2_ := of_decide_eq_true h_; omega) | (have h2_ := beq_iff_eq.1 h_; omega) | omega, fun h_ => by first | (cases h_; done) | (have h2_ := of_decide_eq_false h_; omega) | (have h2_ := beq_eq_false_iff_ne.1 h_; omega) | omega⟩) S3
       ·skip
        refine J.head (.bool false) (congrArg Value.bool (beq_eq_false_iff_ne.2 fk5)) ?_
        refine J.run 6 K59_13 [(20, .bool (op == 10)), (3, iv op)] w3 (by kernel_rfl) ?_
        by_cases fk6 : op = 10
        ·skip
         refine J.head (.bool true) (congrArg Value.bool (beq_iff_eq.2 fk6)) ?_
         refine J.run 2 K59_10 [(20, .bool true)] w3 (by kernel_rfl) ?_
         exact X4 true w3 (⟨fun h_ => by first | (cases h_; done) | (have h2_ := of_decide_eq_true h_; omega) | (have h2_ := beq_iff_eq.1 h_; omega) | omega, fun h_ => by first | (cases h_; done) | (have h2_ := of_decide_eq_false h_; omega) | (have h2_ := beq_eq_false_iff_ne.1 h_; omega) | omega⟩) S3
        ·skip
         refine J.head (.bool false) (congrArg Value.bool (beq_eq_false_iff_ne.2 fk6)) ?_
         refine J.run 6 K59_14 [(20, .bool (op == 20)), (3, iv op)] w3 (by kernel_rfl) ?_
         by_cases fk7 : op = 20
         ·skip
          refine J.head (.bool true) (congrArg Value.bool (beq_iff_eq.2 fk7)) ?_
          refine J.run 2 K59_10 [(20, .bool true)] w3 (by kernel_rfl) ?_
          exact X4 true w3 (⟨fun h_ => by first | (cases h_; done) | (have h2_ := of_decide_eq_true h_; omega) | (have h2_ := beq_iff_eq.1 h_; omega) | omega, fun h_ => by first | (cases h_; done) | (have h2_ := of_decide_eq_false h_; omega) | (have h2_ := beq_eq_false_iff_ne.1 h_; omega) | omega⟩) S3
         ·skip
          refine J.head (.bool false) (congrArg Value.bool (beq_eq_false_iff_ne.2 fk7)) ?_
          refine J.run 5 K59_10 [(20, .bool (op == 22))] w3 (by kernel_rfl) ?_
          exact X4 (op == 22) w3 (⟨fun h_ => by first | (cases h_; done) | (have h2_ := of_decide_eq_true h_; omega) | (have h2_ := beq_iff_eq.1 h_; omega) | omega, fun h_ => by first | (cases h_; done) | (have h2_ := of_decide_eq_false h_; omega) | (have h2_ := beq_eq_false_iff_ne.1 h_; omega) | omega⟩) S3
     by_cases fk8 : op = 5
     ·skip
      refine J.head (.bool true) (congrArg Value.bool (beq_iff_eq.2 fk8)) ?_
      refine J.run 2 K59_7 [(3, iv op), (11, .bool true)] w2 (by kernel_rfl) ?_
      exact X3 true w2 (⟨fun h_ => by first | (cases h_; done) | (have h2_ := of_decide_eq_true h_; omega) | (have h2_ := beq_iff_eq.1 h_; omega) | omega, fun h_ => by first | (cases h_; done) | (have h2_ := of_decide_eq_false h_; omega) | (have h2_ := beq_eq_false_iff_ne.1 h_; omega) | omega⟩) S2
     ·skip
      refine J.head (.bool false) (congrArg Value.bool (beq_eq_false_iff_ne.2 fk8)) ?_
      refine J.run 6 K59_15 [(11, .bool (op == 6)), (3, iv op)] w2 (by kernel_rfl) ?_
      by_cases fk9 : op = 6
      ·skip
       refine J.head (.bool true) (congrArg Value.bool (beq_iff_eq.2 fk9)) ?_
       refine J.run 2 K59_7 [(3, iv op), (11, .bool true)] w2 (by kernel_rfl) ?_
       exact X3 true w2 (⟨fun h_ => by first | (cases h_; done) | (have h2_ := of_decide_eq_true h_; omega) | (have h2_ := beq_iff_eq.1 h_; omega) | omega, fun h_ => by first | (cases h_; done) | (have h2_ := of_decide_eq_false h_; omega) | (have h2_ := beq_eq_false_iff_ne.1 h_; omega) | omega⟩) S2
      ·skip
       refine J.head (.bool false) (congrArg Value.bool (beq_eq_false_iff_ne.2 fk9)) ?_
       refine J.run 6 K59_16 [(11, .bool (op == 7)), (3, iv op)] w2 (by kernel_rfl) ?_
       by_cases fk10 : op = 7
       ·skip
        refine J.head (.bool true) (congrArg Value.bool (beq_iff_eq.2 fk10)) ?_
        refine J.run 2 K59_7 [(3, iv op), (11, .bool true)] w2 (by kernel_rfl) ?_
        exact X3 true w2 (⟨fun h_ => by first | (cases h_; done) | (have h2_ := of_decide_eq_true h_; omega) | (have h2_ := beq_iff_eq.1 h_; omega) | omega, fun h_ => by first | (cases h_; done) | (have h2_ := of_decide_eq_false h_; omega) | (have h2_ := beq_eq_false_iff_ne.1 h_; omega) | omega⟩) S2
       ·skip
        refine J.head (.bool false) (congrArg Value.bool (beq_eq_false_iff_ne.2 fk10)) ?_
        refine J.run 6 K59_17 [(11, .bool (op == 8)), (3, iv op)] w2 (by kernel_rfl) ?_
        by_cases fk11 : op = 8
        ·skip
         refine J.head (.bool true) (congrArg Value.bool (beq_iff_eq.2 fk11)) ?_
         refine J.run 2 K59_7 [(3, iv op), (11, .bool true)] w2 (by kernel_rfl) ?_
         exact X3 true w2 (⟨fun h_ => by first | (cases h_; done) | (have h2_ := of_decide_eq_true h_; omega) | (have h2_ := beq_iff_eq.1 h_; omega) | omega, fun h_ => by first | (cases h_; done) | (have h2_ := of_decide_eq_false h_; omega) | (have h2_ := beq_eq_false_iff_ne.1 h_; omega) | omega⟩) S2
        ·skip
         refine J.head (.bool false) (congrArg Value.bool (beq_eq_false_iff_ne.2 fk11)) ?_
         refine J.run 6 K59_18 [(11, .bool (op == 13)), (3, iv op)] w2 (by kernel_rfl) ?_
         by_cases fk12 : op = 13
         ·skip
          refine J.head (.bool true) (congrArg Value.bool (beq_iff_eq.2 fk12)) ?_
          refine J.run 2 K59_7 [(3, iv op), (11, .bool true)] w2 (by kernel_rfl) ?_
          exact X3 true w2 (⟨fun h_ => by first | (cases h_; done) | (have h2_ := of_decide_eq_true h_; omega) | (have h2_ := beq_iff_eq.1 h_; omega) | omega, fun h_ => by first | (cases h_; done) | (have h2_ := of_decide_eq_false h_; omega) | (have h2_ := beq_eq_false_iff_ne.1 h_; omega) | omega⟩) S2
         ·skip
          refine J.head (.bool false) (congrArg Value.bool (beq_eq_false_iff_ne.2 fk12)) ?_
          refine J.run 6 K59_19 [(11, .bool (op == 14)), (3, iv op)] w2 (by kernel_rfl) ?_
          by_cases fk13 : op = 14
          ·skip
           refine J.head (.bool true) (congrArg Value.bool (beq_iff_eq.2 fk13)) ?_
           refine J.run 2 K59_7 [(3, iv op), (11, .bool true)] w2 (by kernel_rfl) ?_
           exact X3 true w2 (⟨fun h_ => by first | (cases h_; done) | (have h2_ := of_decide_eq_true h_; omega) | (have h2_ := beq_iff_eq.1 h_; omega) | omega, fun h_ => by first | (cases h_; done) | (have h2_ := of_decide_eq_false h_; omega) | (have h2_ := beq_eq_false_iff_ne.1 h_; omega) | omega⟩) S2
          ·skip
           refine J.head (.bool false) (congrArg Value.bool (beq_eq_false_iff_ne.2 fk13)) ?_
           refine J.run 6 K59_20 [(11, .bool (op == 19)), (3, iv op)] w2 (by kernel_rfl) ?_
           by_cases fk14 : op = 19
           ·skip
            refine J.head (.bool true) (congrArg Value.bool (beq_iff_eq.2 fk14)) ?_
            refine J.run 2 K59_7 [(3, iv op), (11, .bool true)] w2 (by kernel_rfl) ?_
            exact X3 true w2 (⟨fun h_ => by first | (cases h_; done) | (have h2_ := of_decide_eq_true h_; omega) | (have h2_ := beq_iff_eq.1 h_; omega) | omega, fun h_ => by first | (cases h_; done) | (have h2_ := of_decide_eq_false h_; omega) | (have h2_ := beq_eq_false_iff_ne.1 h_; omega) | omega⟩) S2
           ·skip
            refine J.head (.bool false) (congrArg Value.bool (beq_eq_false_iff_ne.2 fk14)) ?_
            refine J.run 5 K59_7 [(3, iv op), (11, .bool (op == 21))] w2 (by kernel_rfl) ?_
            exact X3 (op == 21) w2 (⟨fun h_ => by first | (cases h_; done) | (have h2_ := of_decide_eq_true h_; omega) | (have h2_ := beq_iff_eq.1 h_; omega) | omega, fun h_ => by first | (cases h_; done) | (have h2_ := of_decide_eq_false h_; omega) | (have h2_ := beq_eq_false_iff_ne.1 h_; omega) | omega⟩) S2
   by_cases fk15 : op = 4
   ·skip
    refine J.head (.bool true) (congrArg Value.bool (beq_iff_eq.2 fk15)) ?_
    refine J.run 2 K59_4 [(3, iv op), (8, .bool true)] w1 (by kernel_rfl) ?_
    exact X2 true w1 (⟨fun h_ => by first | (cases h_; done) | (have h2_ := of_decide_eq_true h_; omega) | (have h2_ := beq_iff_eq.1 h_; omega) | omega, fun h_ => by first | (cases h_; done) | (have h2_ := of_decide_eq_false h_; omega) | (have h2_ := beq_eq_false_iff_ne.1 h_; omega) | omega⟩) S1
   ·skip
    refine J.head (.bool false) (congrArg Value.bool (beq_eq_false_iff_ne.2 fk15)) ?_
    refine J.run 5 K59_4 [(3, iv op), (8, .bool (op == 18))] w1 (by kernel_rfl) ?_
    exact X2 (op == 18) w1 (⟨fun h_ => by first | (cases h_; done) | (have h2_ := of_decide_eq_true h_; omega) | (have h2_ := beq_iff_eq.1 h_; omega) | omega, fun h_ => by first | (cases h_; done) | (have h2_ := of_decide_eq_false h_; omega) | (have h2_ := beq_eq_false_iff_ne.1 h_; omega) | omega⟩) S1
 by_cases fk16 : op = 1
 ·skip
  refine J.head (.bool true) (congrArg Value.bool (beq_iff_eq.2 fk16)) ?_
  refine J.run 2 K59_1 [(3, iv op), (4, .bool true)] w (by kernel_rfl) ?_
  exact X1 true w (⟨fun h_ => by first | (cases h_; done) | (have h2_ := of_decide_eq_true h_; omega) | (have h2_ := beq_iff_eq.1 h_; omega) | omega, fun h_ => by first | (cases h_; done) | (have h2_ := of_decide_eq_false h_; omega) | (have h2_ := beq_eq_false_iff_ne.1 h_; omega) | omega⟩) S0
 ·skip
  refine J.head (.bool false) (congrArg Value.bool (beq_eq_false_iff_ne.2 fk16)) ?_
  refine J.run 6 K59_21 [(4, .bool (op == 2)), (3, iv op)] w (by kernel_rfl) ?_
  by_cases fk17 : op = 2
  ·skip
   refine J.head (.bool true) (congrArg Value.bool (beq_iff_eq.2 fk17)) ?_
   refine J.run 2 K59_1 [(3, iv op), (4, .bool true)] w (by kernel_rfl) ?_
   exact X1 true w (⟨fun h_ => by first | (cases h_; done) | (have h2_ := of_decide_eq_true h_; omega) | (have h2_ := beq_iff_eq.1 h_; omega) | omega, fun h_ => by first | (cases h_; done) | (have h2_ := of_decide_eq_false h_; omega) | (have h2_ := beq_eq_false_iff_ne.1 h_; omega) | omega⟩) S0
  ·skip
   refine J.head (.bool false) (congrArg Value.bool (beq_eq_false_iff_ne.2 fk17)) ?_
   refine J.run 5 K59_1 [(3, iv op), (4, .bool (op == 3))] w (by kernel_rfl) ?_
   exact X1 (op == 3) w (⟨fun h_ => by first | (cases h_; done) | (have h2_ := of_decide_eq_true h_; omega) | (have h2_ := beq_iff_eq.1 h_; omega) | omega, fun h_ => by first | (cases h_; done) | (have h2_ := of_decide_eq_false h_; omega) | (have h2_ := beq_eq_false_iff_ne.1 h_; omega) | omega⟩) S0

/-! layer 13: bytes and texts of instructions -/
def setI (i : Ins) (c n : Int) : Ins := if c = 65 then { i with gA := n } else if c = 66 then { i with gB := n } else if c = 67 then { i with gC := n } else { i with gK := n }
def wordL (c : UInt8) (n : Int) : List UInt8 := (if c = 75 then [] else [114]) ++ Lib.itoa n
def partL (i : Ins) (c : UInt8) : List UInt8 := 32 :: wordL c (fldF i (c.toNat : Int))
def textLs (i : Ins) : List UInt8 := ls (nameL.getD i.gOp.toNat ByteArray.empty) ++ (ls (fieldsF i.gOp)).flatMap (partL i)
def textI (i : Ins) : ByteArray := if formB i then ⟨(textLs i).toArray⟩ else ByteArray.empty
abbrev ins0 : Ins := ⟨0, 0, 0, 0, 0⟩
def atM (l : List UInt8) : Option Int := match Lib.atoiAll l with | .ok n => some n | _ => none
def trimR (w : List UInt8) : List UInt8 := if w.head? = some 114 then w.tail else w
def matW (c : UInt8) (w : List UInt8) : Option Int := atM (if c = 75 then w else trimR w)
def dW (c : UInt8) (w : List UInt8) : List UInt8 := if c = 75 then w else w.tail
def refW (c : UInt8) (w : List UInt8) : Option Int :=
  if (c = 75 ∨ (2 ≤ w.length ∧ w.head? = some 114)) ∧ (dW c w).length ≤ 24 ∧ formL (dW c w) = true ∧ fitL (valL (dW c w)) = true then some (valL (dW c w)) else none
def goW (f : UInt8 → List UInt8 → Option Int) : List UInt8 → List (List UInt8) → Ins → Option Ins
  | [], _, i => some i
  | c :: cs, ws, i => match f c (ws.headD []) with
    | none => none
    | some n => goW f cs ws.tail (setI i (c.toNat : Int) n)
def opN (w : List UInt8) : Nat → Int
  | 0 => 0
  | k + 1 => if k ≠ 0 ∧ ls (nameL.getD k ByteArray.empty) = w then (k : Int) else opN w k
abbrev opW (w : List UInt8) : Int := opN w 23
def readI (f : UInt8 → List UInt8 → Option Int) (s : List UInt8) : Option Ins :=
  if opW ((splitOn 32 s).headD []) < 1 ∨ (splitOn 32 s).length ≠ 1 + (fieldsF (opW ((splitOn 32 s).headD []))).size then none else goW f (ls (fieldsF (opW ((splitOn 32 s).headD [])))) (splitOn 32 s).tail ⟨opW ((splitOn 32 s).headD []), 0, 0, 0, 0⟩
/-- what the texts mean: the instruction, and the error's number -/
def parI (s : ByteArray) : Ins := if 100 < s.size then ins0 else match (readI refW (ls s)).filter formB with | some i => i | none => ins0
def parIE (s : ByteArray) : Int := if 100 < s.size then 5 else match (readI refW (ls s)).filter formB with | some _ => 0 | none => 3
theorem opN_name (w : List UInt8) : ∀ k, opN w k = 0 ∨ ls (nameL.getD (opN w k).toNat ByteArray.empty) = w
  | 0 => .inl rfl
  | k + 1 => by
    unfold opN; split
    · rename_i h; right; rw [Int.toNat_natCast]; exact h.2
    · exact opN_name w k
theorem opW_name {op : Int} (h : 1 ≤ op ∧ op ≤ 22) : opW (ls (nameL.getD op.toNat ByteArray.empty)) = op := by
  rcases ops_cases h with rfl | rfl | rfl | rfl | rfl | rfl | rfl | rfl | rfl | rfl | rfl | rfl | rfl | rfl | rfl | rfl | rfl | rfl | rfl | rfl | rfl | rfl <;> decide +kernel
theorem opN_zero {w : List UInt8} : ∀ {k}, (∀ j, j < k → j ≠ 0 → ls (nameL.getD j ByteArray.empty) ≠ w) → opN w k = 0
  | 0, _ => rfl
  | k + 1, h => by
    unfold opN; rw [if_neg (fun hk => h k (by omega) hk.1 hk.2)]; exact opN_zero fun j hj => h j (by omega)
/-! splitting and joining at blanks -/
theorem split_join (c : UInt8) : ∀ l : List UInt8, ((splitOn c l).headD [] ++ (splitOn c l).tail.flatMap fun w => c :: w) = l
  | [] => rfl
  | x :: l => by
    have ih := split_join c l
    rw [splitOn]
    split
    · rename_i h
      cases hs : splitOn c l with
      | nil => exact absurd hs (splitOn_ne c l)
      | cons p ps =>
        rw [hs] at ih
        simp only [List.headD_cons, List.tail_cons] at ih
        simp only [List.headD_cons, List.tail_cons, List.flatMap_cons, List.nil_append, List.cons_append]
        rw [ih, h]
    · cases hs : splitOn c l with
      | nil => exact absurd hs (splitOn_ne c l)
      | cons p ps =>
        rw [hs] at ih
        simp only [List.headD_cons, List.tail_cons] at ih
        simp only [List.headD_cons, List.tail_cons, List.cons_append]
        rw [ih]
theorem split_cat {c : UInt8} {a : List UInt8} (ha : c ∉ a) : ∀ ws : List (List UInt8), (∀ w ∈ ws, c ∉ w) → splitOn c (a ++ ws.flatMap fun w => c :: w) = a :: ws := by
  intro ws
  induction ws generalizing a with
  | nil => intro _; rw [List.flatMap_nil, List.append_nil, splitOn_miss ha]
  | cons w ws ih =>
    intro h
    rw [List.flatMap_cons, List.cons_append, splitOn_hit ha, ih (h w (by simp)) fun x hx => h x (List.mem_cons_of_mem _ hx)]
/-! a word, read in both ways -/
theorem trim_ref {w : List UInt8} (h : 2 ≤ w.length ∧ w.head? = some 114) : trimR w = w.tail := by unfold trimR; rw [if_pos h.2]
theorem head_tail {w : List UInt8} (h : w.head? = some 114) : w = 114 :: w.tail := by
  cases w with
  | nil => cases h
  | cons x r => rw [List.head?_cons] at h; rw [Option.some.inj h]; rfl
theorem atM_form {l : List UInt8} (h : formL l = true) (hf : fitL (valL l) = true) : atM l = some (valL l) := by
  unfold atM; rw [atoi_form h, if_pos hf]
theorem ref_mat {c : UInt8} {w : List UInt8} {n : Int} (h : refW c w = some n) : matW c w = some n ∧ w = wordL c n := by
  unfold refW at h
  split at h
  · rename_i hc
    obtain ⟨h1, _, h3, h4⟩ := hc
    have e := Option.some.inj h
    unfold dW at h3 h4 e
    by_cases c75 : c = 75
    · rw [if_pos c75] at h3 h4 e
      unfold matW wordL
      rw [if_pos c75, if_pos c75, atM_form h3 h4, e]
      exact ⟨rfl, by rw [← e, itoa_form h3]; rfl⟩
    · rw [if_neg c75] at h3 h4 e
      have h2 := h1.resolve_left c75
      unfold matW wordL
      rw [if_neg c75, if_neg c75, trim_ref h2, atM_form h3 h4, e]
      exact ⟨rfl, by rw [← e, itoa_form h3]; exact head_tail h2.2⟩
  · cases h
theorem itoa_len {n : Int} (h : -9223372036854775808 ≤ n ∧ n ≤ 9223372036854775807) : (Lib.itoa n).length ≤ 20 := by
  have := itoaB_size h; rw [← ls_length] at this; exact this
theorem itoa_ne (n : Int) : Lib.itoa n ≠ [] := by
  intro h
  have := (form_itoa n).1
  rw [h] at this; exact absurd this (by decide)
theorem ref_word (c : UInt8) {n : Int} (h : -9223372036854775808 ≤ n ∧ n ≤ 9223372036854775807) : refW c (wordL c n) = some n := by
  obtain ⟨f1, f2⟩ := form_itoa n
  have hl := itoa_len h
  have hne := itoa_ne n
  have hp : 0 < (Lib.itoa n).length := List.length_pos_iff.2 hne
  have hfit : fitL (valL (Lib.itoa n)) = true := by rw [f2]; simp only [fitL, Bool.and_eq_true, decide_eq_true_eq]; exact h
  by_cases c75 : c = 75
  · have ew : wordL c n = Lib.itoa n := by unfold wordL; rw [if_pos c75]; rfl
    have ed : dW c (Lib.itoa n) = Lib.itoa n := by unfold dW; rw [if_pos c75]
    unfold refW
    rw [ew, ed, if_pos ⟨.inl c75, by omega, f1, hfit⟩, f2]
  · have ew : wordL c n = 114 :: Lib.itoa n := by unfold wordL; rw [if_neg c75]; rfl
    have ed : dW c (114 :: Lib.itoa n) = Lib.itoa n := by unfold dW; rw [if_neg c75]; rfl
    unfold refW
    rw [ew, ed, if_pos ⟨.inr ⟨by rw [List.length_cons]; omega, rfl⟩, by omega, f1, hfit⟩, f2]
theorem goW_ref : ∀ {cs : List UInt8} {ws : List (List UInt8)} {i j : Ins}, goW refW cs ws i = some j → goW matW cs ws i = some j
  | [], _, _, _, h => h
  | c :: cs, ws, i, j, h => by
    unfold goW at h ⊢
    cases hw : refW c (ws.headD []) with
    | none => rw [hw] at h; cases h
    | some n => rw [hw] at h; rw [(ref_mat hw).1]; exact goW_ref h
theorem goW_op {f : UInt8 → List UInt8 → Option Int} : ∀ {cs : List UInt8} {ws : List (List UInt8)} {i j : Ins}, goW f cs ws i = some j → j.gOp = i.gOp
  | [], _, _, _, h => by rw [← Option.some.inj h]
  | c :: cs, ws, i, j, h => by
    unfold goW at h
    cases hw : f c (ws.headD []) with
    | none => rw [hw] at h; cases h
    | some n =>
      rw [hw] at h
      rw [goW_op h]; unfold setI; repeat' split
      all_goals rfl
/-- the words of a text that is read, out of the instruction -/
theorem goW_words : ∀ {cs : List UInt8} {ws : List (List UInt8)} {i j : Ins}, (∀ c ∈ cs, c = 65 ∨ c = 66 ∨ c = 67 ∨ c = 75) → cs.Nodup → ws.length = cs.length → goW refW cs ws i = some j →
    (ws = cs.map fun c => wordL c (fldF j (c.toNat : Int))) ∧ ∀ c : UInt8, (c = 65 ∨ c = 66 ∨ c = 67 ∨ c = 75) → c ∉ cs → fldF j (c.toNat : Int) = fldF i (c.toNat : Int)
  | [], ws, i, j, _, _, hl, h => by
    have e := Option.some.inj h
    exact ⟨by rw [List.eq_nil_of_length_eq_zero hl]; rfl, fun c _ _ => by rw [← e]⟩
  | c :: cs, [], i, j, _, _, hl, h => by cases hl
  | c :: cs, w :: ws, i, j, hc, hn, hl, h => by
    unfold goW at h
    rw [List.headD_cons, List.tail_cons] at h
    cases hw : refW c w with
    | none => rw [hw] at h; cases h
    | some n =>
      rw [hw] at h
      obtain ⟨h1, h2⟩ := goW_words (fun x hx => hc x (List.mem_cons_of_mem _ hx)) (List.nodup_cons.1 hn).2 (by simpa using hl) h
      have hset : fldF (setI i (c.toNat : Int) n) (c.toNat : Int) = n := by
        rcases hc c (by simp) with rfl | rfl | rfl | rfl <;> rfl
      have hcc := (h2 c (hc c (by simp)) (List.nodup_cons.1 hn).1).trans hset
      refine ⟨by rw [List.map_cons, hcc, ← h1, ← (ref_mat hw).2], fun x hx hxn => ?_⟩
      rw [h2 x hx fun hm => hxn (List.mem_cons_of_mem _ hm)]
      have hne : x ≠ c := fun e => hxn (by rw [e]; simp)
      rcases hx with rfl | rfl | rfl | rfl <;> rcases hc c (by simp) with rfl | rfl | rfl | rfl <;> first | rfl | exact absurd rfl hne
theorem fields_shape (op : Int) : ls (fieldsF op) = [65, 75] ∨ ls (fieldsF op) = [65, 66] ∨ ls (fieldsF op) = [65, 66, 75] ∨ ls (fieldsF op) = [65, 66, 67] ∨ ls (fieldsF op) = [65, 66, 67, 75] := by
  unfold fieldsF; repeat' split
  · left; rfl
  · right; left; rfl
  · right; right; left; rfl
  · right; right; right; left; rfl
  · right; right; right; right; rfl
theorem fields_ok (op : Int) : (∀ c ∈ ls (fieldsF op), c = 65 ∨ c = 66 ∨ c = 67 ∨ c = 75) ∧ (ls (fieldsF op)).Nodup := by
  rcases fields_shape op with h | h | h | h | h <;> rw [h] <;> exact ⟨by decide, by decide⟩
theorem readI_some {f : UInt8 → List UInt8 → Option Int} {l : List UInt8} {j : Ins} (h : readI f l = some j) : 1 ≤ opW ((splitOn 32 l).headD []) ∧ (splitOn 32 l).length = 1 + (fieldsF (opW ((splitOn 32 l).headD []))).size ∧ goW f (ls (fieldsF (opW ((splitOn 32 l).headD [])))) (splitOn 32 l).tail ⟨opW ((splitOn 32 l).headD []), 0, 0, 0, 0⟩ = some j := by
  unfold readI at h
  split at h
  · cases h
  · rename_i hc; exact ⟨by omega, by omega, h⟩
theorem readI_yes {f : UInt8 → List UInt8 → Option Int} {l : List UInt8} (h1 : 1 ≤ opW ((splitOn 32 l).headD [])) (h2 : (splitOn 32 l).length = 1 + (fieldsF (opW ((splitOn 32 l).headD []))).size) : readI f l = goW f (ls (fieldsF (opW ((splitOn 32 l).headD [])))) (splitOn 32 l).tail ⟨opW ((splitOn 32 l).headD []), 0, 0, 0, 0⟩ := by
  unfold readI; rw [if_neg (by omega)]
theorem read_ref {l : List UInt8} {j : Ins} (h : readI refW l = some j) : readI matW l = some j ∧ textLs j = l := by
  obtain ⟨h1, h2, h3⟩ := readI_some h
  refine ⟨(readI_yes h1 h2).trans (goW_ref h3), ?_⟩
  have hop : j.gOp = opW ((splitOn 32 l).headD []) := goW_op h3
  obtain ⟨hw, _⟩ := goW_words (fields_ok _).1 (fields_ok _).2 (by rw [List.length_tail, h2, ls_length]; omega) h3
  have hn := (opN_name ((splitOn 32 l).headD []) 23).resolve_left (show ¬ opN _ 23 = 0 by show ¬ opW _ = 0; omega)
  have hj := split_join 32 l
  unfold textLs
  rw [hop, show nameL.getD (opW ((splitOn 32 l).headD [])).toNat ByteArray.empty = nameL.getD (opN ((splitOn 32 l).headD []) 23).toNat ByteArray.empty from rfl, hn]
  conv => rhs; rw [← hj]
  congr 1
  conv => rhs; rw [hw]
  rw [List.flatMap_map]; rfl
theorem itoa_blank (n : Int) : 32 ∉ Lib.itoa n := by
  obtain ⟨f1, _⟩ := form_itoa n
  have hc := canonL_facts (form_canon f1)
  have hd : 32 ∉ digL (Lib.itoa n) := fun h => by
    have := hc.2.1 32 h
    exact absurd this (by decide)
  intro h
  cases hn : negL (Lib.itoa n) with
  | true =>
    rw [digL_neg hn] at h
    rcases List.mem_cons.1 h with h | h
    · exact absurd h (by decide)
    · exact hd h
  | false => rw [digL_pos hn] at hd; exact hd h
theorem word_blank (c : UInt8) (n : Int) : 32 ∉ wordL c n := by
  unfold wordL
  intro h
  rcases List.mem_append.1 h with h | h
  · split at h
    · cases h
    · exact absurd (List.mem_singleton.1 h) (by decide)
  · exact itoa_blank n h
theorem name_blank {op : Int} (h : 1 ≤ op ∧ op ≤ 22) : 32 ∉ ls (nameL.getD op.toNat ByteArray.empty) := by
  rcases ops_cases h with rfl | rfl | rfl | rfl | rfl | rfl | rfl | rfl | rfl | rfl | rfl | rfl | rfl | rfl | rfl | rfl | rfl | rfl | rfl | rfl | rfl | rfl <;> decide +kernel
theorem split_text {j : Ins} (h : 1 ≤ j.gOp ∧ j.gOp ≤ 22) : splitOn 32 (textLs j) = ls (nameL.getD j.gOp.toNat ByteArray.empty) :: (ls (fieldsF j.gOp)).map fun c => wordL c (fldF j (c.toNat : Int)) := by
  have e : textLs j = ls (nameL.getD j.gOp.toNat ByteArray.empty) ++ ((ls (fieldsF j.gOp)).map fun c => wordL c (fldF j (c.toNat : Int))).flatMap fun w => 32 :: w := by
    unfold textLs; rw [List.flatMap_map]; rfl
  rw [e]
  exact split_cat (name_blank h) _ fun w hw => by
    obtain ⟨c, _, rfl⟩ := List.mem_map.1 hw
    exact word_blank c _
theorem goW_own {j : Ins} (h : formB j = true) : goW refW (ls (fieldsF j.gOp)) ((ls (fieldsF j.gOp)).map fun c => wordL c (fldF j (c.toNat : Int))) ⟨j.gOp, 0, 0, 0, 0⟩ = some j := by
  have hp := formB_iff.1 h
  have ha : refW 65 (wordL 65 j.gA) = some j.gA := ref_word 65 (by omega)
  have hb : refW 66 (wordL 66 j.gB) = some j.gB := ref_word 66 (by omega)
  have hc : refW 67 (wordL 67 j.gC) = some j.gC := ref_word 67 (by omega)
  have hk : refW 75 (wordL 75 j.gK) = some j.gK := ref_word 75 (by omega)
  have e1 : fldF j (((65 : UInt8).toNat : Nat) : Int) = j.gA := rfl
  have e2 : fldF j (((66 : UInt8).toNat : Nat) : Int) = j.gB := rfl
  have e3 : fldF j (((67 : UInt8).toNat : Nat) : Int) = j.gC := rfl
  have e4 : fldF j (((75 : UInt8).toNat : Nat) : Int) = j.gK := rfl
  have hB := has_B hp.1; have hC := has_C hp.1; have hK := has_K hp.1
  unfold hasF at hB hC hK
  rcases fields_shape j.gOp with h5 | h5 | h5 | h5 | h5 <;> rw [h5] at hB hC hK ⊢ <;> simp only [List.map_cons, List.map_nil, e1, e2, e3, e4, goW, List.headD_cons, List.tail_cons, ha, hb, hc, hk]
  · have z1 : j.gB = 0 := by have := mt hB.2 (by decide); omega
    have z2 : j.gC = 0 := by have := mt hC.2 (by decide); omega
    obtain ⟨o, a, b, c, k⟩ := j; simp only at z1 z2; subst z1 z2; rfl
  · have z1 : j.gK = 0 := by have := mt hK.2 (by decide); omega
    have z2 : j.gC = 0 := by have := mt hC.2 (by decide); omega
    obtain ⟨o, a, b, c, k⟩ := j; simp only at z1 z2; subst z1 z2; rfl
  · have z2 : j.gC = 0 := by have := mt hC.2 (by decide); omega
    obtain ⟨o, a, b, c, k⟩ := j; simp only at z2; subst z2; rfl
  · have z1 : j.gK = 0 := by have := mt hK.2 (by decide); omega
    obtain ⟨o, a, b, c, k⟩ := j; simp only at z1; subst z1; rfl
  · rfl
theorem read_own {j : Ins} (h : formB j = true) : readI refW (textLs j) = some j := by
  have hp := formB_iff.1 h
  have hs := split_text hp.1
  have ho : opW ((splitOn 32 (textLs j)).headD []) = j.gOp := by rw [hs]; exact opW_name hp.1
  rw [readI_yes (by rw [ho]; omega) (by rw [ho, hs, List.length_cons, List.length_map, ls_length]; omega), ho, hs, List.tail_cons]
  exact goW_own h
theorem read_own_filter {j : Ins} (h : formB j = true) : (readI refW (textLs j)).filter formB = some j := by rw [read_own h, Option.filter_some, if_pos h]
theorem filter_some {r : Option Ins} {j : Ins} (h : r.filter formB = some j) : r = some j ∧ formB j = true := by
  cases r with
  | none => cases h
  | some i =>
    rw [Option.filter_some] at h
    split at h
    · rename_i hf; have := Option.some.inj h; subst this; exact ⟨rfl, hf⟩
    · cases h
theorem text_len {j : Ins} (h : formB j = true) : (textLs j).length ≤ 95 := by
  have hp := formB_iff.1 h
  have hn := name_size hp.1
  rw [← ls_length] at hn
  have hw : ∀ c : UInt8, (c = 65 ∨ c = 66 ∨ c = 67 ∨ c = 75) → (partL j c).length ≤ 22 := fun c hc => by
    have hb : -9223372036854775808 ≤ fldF j (c.toNat : Int) ∧ fldF j (c.toNat : Int) ≤ 9223372036854775807 := by
      rcases hc with rfl | rfl | rfl | rfl
      · show _ ≤ j.gA ∧ j.gA ≤ _; omega
      · show _ ≤ j.gB ∧ j.gB ≤ _; omega
      · show _ ≤ j.gC ∧ j.gC ≤ _; omega
      · show _ ≤ j.gK ∧ j.gK ≤ _; omega
    have := itoa_len hb
    unfold partL wordL
    rw [List.length_cons, List.length_append]
    split <;> simp only [List.length_nil, List.length_singleton] <;> omega
  have a := hw 65 (by decide); have b := hw 66 (by decide); have c := hw 67 (by decide); have d := hw 75 (by decide)
  unfold textLs
  rw [List.length_append]
  rcases fields_shape j.gOp with h5 | h5 | h5 | h5 | h5 <;> rw [h5] <;> simp only [List.flatMap_cons, List.flatMap_nil, List.length_append, List.length_nil] <;> omega
theorem textI_yes {j : Ins} (h : formB j = true) : ls (textI j) = textLs j ∧ (textI j).size ≤ 95 := by
  have e : ls (textI j) = textLs j := by unfold textI; rw [if_pos h]
  exact ⟨e, by rw [← ls_length, e]; exact text_len h⟩
theorem textI_no {j : Ins} (h : formB j = false) : textI j = ByteArray.empty := by unfold textI; rw [if_neg (by rw [h]; decide)]
theorem read_empty (f : UInt8 → List UInt8 → Option Int) : readI f [] = none := by
  unfold readI; rw [if_pos]; left
  rw [show (splitOn 32 []).headD [] = [] from rfl, show opW [] = 0 by decide +kernel]; decide
/-- what the program does with what it has read -/
theorem par_long {s : ByteArray} (h : 100 < s.size) : parI s = ins0 ∧ parIE s = 5 := by unfold parI parIE; rw [if_pos h, if_pos h]; exact ⟨rfl, rfl⟩
theorem par_val {s : ByteArray} {j : Ins} (h : ¬ 100 < s.size) (hf : (readI refW (ls s)).filter formB = some j) : parI s = j ∧ parIE s = 0 := by unfold parI parIE; rw [if_neg h, if_neg h, hf]; exact ⟨rfl, rfl⟩
theorem par_none {s : ByteArray} (h : ¬ 100 < s.size) (hf : (readI refW (ls s)).filter formB = none) : parI s = ins0 ∧ parIE s = 3 := by unfold parI parIE; rw [if_neg h, if_neg h, hf]; exact ⟨rfl, rfl⟩
theorem mat_none {s : ByteArray} (h : ¬ 100 < s.size) (hm : readI matW (ls s) = none) : parI s = ins0 ∧ parIE s = 3 := by
  cases hf : (readI refW (ls s)).filter formB with
  | none => exact par_none h hf
  | some j => have := (read_ref (filter_some hf).1).1; rw [hm] at this; cases this
theorem mat_other {s : ByteArray} {j : Ins} (h : ¬ 100 < s.size) (hm : readI matW (ls s) = some j) (ht : ((textI j).toList == s.toList) = false) : parI s = ins0 ∧ parIE s = 3 := by
  cases hf : (readI refW (ls s)).filter formB with
  | none => exact par_none h hf
  | some i =>
    obtain ⟨h1, h2⟩ := filter_some hf
    obtain ⟨h3, h4⟩ := read_ref h1
    rw [hm] at h3
    have e := Option.some.inj h3; subst e
    rw [beq_ls, beq_eq_false_iff_ne] at ht
    exact absurd ((textI_yes h2).1.trans h4) ht
theorem mat_same {s : ByteArray} {j : Ins} (h : ¬ 100 < s.size) (hm : readI matW (ls s) = some j) (ht : ((textI j).toList == s.toList) = true) : parI s = j ∧ parIE s = 0 := by
  rw [beq_ls, beq_iff_eq] at ht
  cases hf : formB j with
  | false => rw [textI_no hf] at ht; rw [← ht] at hm; rw [show ls ByteArray.empty = [] from rfl, read_empty] at hm; cases hm
  | true => exact par_val h (by rw [← ht, (textI_yes hf).1]; exact read_own_filter hf)
/-! bytes -/
theorem wrapB (n : Int) : IntKind.wrap .u8 n = n % 256 := by simp [IntKind.wrap, IntKind.bits, IntKind.signed]
def u64F (k : Int) : Int := k % 18446744073709551616
def encL (i : Ins) : List Int := [i.gOp % 256, i.gA % 256, i.gB % 256, i.gC % 256, u64F i.gK / 72057594037927936 % 256, u64F i.gK / 281474976710656 % 256, u64F i.gK / 1099511627776 % 256, u64F i.gK / 4294967296 % 256, u64F i.gK / 16777216 % 256, u64F i.gK / 65536 % 256, u64F i.gK / 256 % 256, u64F i.gK / 1 % 256]
def encX (i : Ins) : List Int := if formB i then encL i else []
def encE (i : Ins) : Int := if formB i then 0 else 1
theorem encX_yes {i : Ins} (h : formB i = true) : encX i = encL i ∧ encE i = 0 := by unfold encX encE; rw [if_pos h, if_pos h]; exact ⟨rfl, rfl⟩
theorem encX_no {i : Ins} (h : formB i = false) : encX i = [] ∧ encE i = 1 := by unfold encX encE; rw [if_neg (by rw [h]; decide), if_neg (by rw [h]; decide)]; exact ⟨rfl, rfl⟩
theorem encX_len (i : Ins) : (encX i).length = 12 ∨ (encX i).length = 0 := by unfold encX; split; exact .inl rfl; exact .inr rfl
/-! walks of texts -/
theorem has_yes {s : ByteArray} {c : Int} {i : Nat} (hi : i < s.size) (h : byteAt s i = c) : hasF s c = true := by
  unfold hasF; rw [List.any_eq_true]
  have hl := ls_length s
  refine ⟨(ls s).getD i 0, ?_, by rw [beq_iff_eq, ← h, byteAt_ls]⟩
  rw [List.getD_eq_getElem?_getD, List.getElem?_eq_getElem (by omega)]; exact List.getElem_mem _
theorem has_no {s : ByteArray} {c : Int} (h : ∀ j, j < s.size → byteAt s j ≠ c) : hasF s c = false := by
  unfold hasF; rw [List.any_eq_false]
  intro x hx
  obtain ⟨j, hj, rfl⟩ := List.mem_iff_getElem.1 hx
  have := h j (by rw [← ls_length]; exact hj)
  rw [byteAt_ls, List.getD_eq_getElem?_getD, List.getElem?_eq_getElem hj] at this
  simpa using this
theorem byte_eq {s : ByteArray} {k : Nat} {c : Nat} (hc : c < 256) : byteAt s k = c ↔ (ls s).getD k 0 = UInt8.ofNat c := by
  rw [byteAt_ls]
  constructor
  · intro h; apply UInt8.toNat_inj.1; rw [UInt8.toNat_ofNat', Nat.mod_eq_of_lt (by omega)]; omega
  · intro h; rw [h, UInt8.toNat_ofNat', Nat.mod_eq_of_lt (by omega)]
theorem take_one {l : List UInt8} {k : Nat} (hk : k < l.length) : l.take (k + 1) = l.take k ++ [l.getD k 0] := by
  rw [List.take_add_one, List.getD_eq_getElem?_getD, List.getElem?_eq_getElem hk]; rfl
theorem text_step {i : Ins} {t u F : ByteArray} {N : List UInt8} {k : Int} (h0 : 0 ≤ k) (hk : k < (F.size : Int)) (ht : ls t = N ++ ((ls F).take k.toNat).flatMap (partL i)) (hu : ls u = ls t ++ partL i ((ls F).getD k.toNat 0)) :
    ls u = N ++ ((ls F).take (k + 1).toNat).flatMap (partL i) := by
  rw [hu, ht, show (k + 1).toNat = k.toNat + 1 by omega, take_one (by rw [ls_length]; omega), List.flatMap_append, List.append_assoc]; simp
theorem part_r {i : Ins} {t F : ByteArray} {k : Nat} (h : byteAt F k ≠ 75) : ls (((t ++ (⟨#[32]⟩ : ByteArray)) ++ (⟨#[114]⟩ : ByteArray)) ++ itoaB (fldF i (byteAt F k))) = ls t ++ partL i ((ls F).getD k 0) := by
  unfold partL wordL
  rw [if_neg (show ¬ (ls F).getD k 0 = 75 from fun e => h ((byte_eq (c := 75) (by decide)).2 e)), ls_append, ls_append, ls_append, ← byteAt_ls]
  simp only [List.append_assoc]; rfl
theorem part_k {i : Ins} {t F : ByteArray} {k : Nat} (h : byteAt F k = 75) : ls ((t ++ (⟨#[32]⟩ : ByteArray)) ++ itoaB (fldF i (byteAt F k))) = ls t ++ partL i ((ls F).getD k 0) := by
  unfold partL wordL
  rw [if_pos (show (ls F).getD k 0 = 75 from (byte_eq (c := 75) (by decide)).1 h), ls_append, ls_append, ← byteAt_ls]
  simp only [List.append_assoc]; rfl
theorem fld_bd {i : Ins} (h : (-9223372036854775808 ≤ i.gA ∧ i.gA ≤ 9223372036854775807) ∧ (-9223372036854775808 ≤ i.gB ∧ i.gB ≤ 9223372036854775807) ∧ (-9223372036854775808 ≤ i.gC ∧ i.gC ≤ 9223372036854775807) ∧ (-9223372036854775808 ≤ i.gK ∧ i.gK ≤ 9223372036854775807)) (c : Int) : -9223372036854775808 ≤ fldF i c ∧ fldF i c ≤ 9223372036854775807 := by
  unfold fldF; repeat' split
  · exact h.1
  · exact h.2.1
  · exact h.2.2.1
  · exact h.2.2.2
theorem text_done {i : Ins} {t : ByteArray} (h : formB i = true) (ht : ls t = ls (rowsL.getD i.gOp.toNat rwo0).gname ++ ((ls (rowsL.getD i.gOp.toNat rwo0).gfields).take (rowsL.getD i.gOp.toNat rwo0).gfields.size).flatMap (partL i)) : t = textI i := by
  have hp := formB_iff.1 h
  obtain ⟨r1, r2, _⟩ := rows_at hp.1
  apply ls_inj
  rw [(textI_yes h).1, ht, r1, r2, ← ls_length, List.take_length]; rfl
theorem trim_eq (w : List UInt8) : Lib.trimPrefix w [114] = trimR w := by
  unfold Lib.trimPrefix Lib.hasPrefix trimR
  cases w with
  | nil => rfl
  | cons x r =>
    by_cases hx : x = 114
    · subst hx; simp
    · simp [hx, Ne.symm hx]

theorem hb60 : HasBody Tryz.prog 60 := fun _ _ => by kernel_rfl
noncomputable def K60_0 : List Item := adv 11 [] (bodyOf Tryz.f60)
noncomputable def K60_1 : List Item := adv 8 [] K60_0
noncomputable def K60_2 : List Item := adv 8 [true] K60_1
noncomputable def K60_3 : List Item := adv 3 [] (popK K60_2)
noncomputable def K60_4 : List Item := adv 5 [true] K60_3
noncomputable def K60_5 : List Item := adv 6 [false] K60_3
noncomputable def K60_6 : List Item := adv 6 [false] K60_1
set_option maxRecDepth 20000 in
set_option maxHeartbeats 20000000 in
theorem uses_any (s : ByteArray) (c : Int) (w : World) (hs : s.size ≤ 9223372036854775807) : Ret Tryz.prog 60 #[.string s, .int .u8 c] w (fun v w' => v = .bool (hasF s c) ∧ Sep w [] w') := by
 have S0 := Sep.refl w
 refine Ret.named fun R hR => ?_
 refine Ret.of_J (N := 17) [(0, .string s), (1, .int .u8 c)] Tryz.func60 rfl rfl (Nat.le_of_ble_eq_true (by kernel_rfl)) (by kernel_rfl) ?_
 refine J.run 11 K60_0 [(5, iv 0), (0, .string s), (1, .int .u8 c)] w (by kernel_rfl) ?_
 have L60_1 : ∀ (mm_ : Nat) (i : Int) (w1 : World), (0 ≤ i) → (i ≤ (s.size : Int)) → (∀ j, j < (i).toNat → byteAt s j ≠ c) → Sep w [] w1 → ((s.size : Int) - i).toNat = mm_ → J Tryz.prog 60 17 R K60_0 [(5, iv i), (0, .string s), (1, .int .u8 c)] w1 := by
  intro mm1
  induction mm1 using Nat.strongRecOn with
  | _ mm1 ih1 =>
  intro i w1 h0 h1 hq S1 hm1
  refine J.run 8 K60_1 [(9, .bool (decide (i < (s.size : Int)))), (5, iv i), (0, .string s), (1, .int .u8 c)] w1 (by kernel_rfl) ?_
  by_cases fk1 : i < (s.size : Int)
  ·skip
   refine J.head (.bool true) (congrArg Value.bool (decide_eq_true fk1)) ?_
   refine J.run 8 K60_2 [(13, iv i), (12, .string s), (5, iv i), (0, .string s), (1, .int .u8 c)] w1 (by kernel_rfl) ?_
   have := byteAt_bounds s (i).toNat
   refine J.ok (OK.byte 14 9 s i (byteAt s (i).toNat) (by kernel_rfl) (by kernel_rfl) (by omega) (by omega) (rfl)) ?_
   refine J.run 3 K60_3 [(16, .bool ((byteAt s (i).toNat) == c)), (5, iv i), (0, .string s), (1, .int .u8 c)] w1 (by kernel_rfl) ?_
   by_cases fk2 : (byteAt s (i).toNat) = c
   ·skip
    refine J.head (.bool true) (congrArg Value.bool (beq_iff_eq.2 fk2)) ?_
    refine J.run 5 K60_4 [(4, .bool true)] w1 (by kernel_rfl) ?_
    refine J.ret Tryz.f60 [.bool true] Tryz.func60 ⟨by kernel_rfl, trivial⟩ ?_
    refine hR _ _ ?_
    exact ⟨congrArg Value.bool (has_yes (i := i.toNat) (by omega) (by omega)).symm, S1.nil⟩
   ·skip
    refine J.head (.bool false) (congrArg Value.bool (beq_eq_false_iff_ne.2 fk2)) ?_
    refine J.run 6 K60_5 [(11, iv (IntKind.wrap .i64 (i + 1))), (0, .string s), (1, .int .u8 c)] w1 (by kernel_rfl) ?_
    refine J.head (iv (i + 1)) (congrArg (Value.int .i64) (IntWalk.i64_in _ (by omega))) ?_
    refine J.run 3 K60_0 [(5, iv (i + 1)), (0, .string s), (1, .int .u8 c)] w1 (by kernel_rfl) ?_
    refine J.run 0 K60_0 [(5, iv (i + 1)), (0, .string s), (1, .int .u8 c)] w1 (by kernel_rfl) ?_
    exact ih1 _ (show ((s.size : Int) - (i + 1)).toNat < mm1 from by omega) (i + 1) w1 (by omega) (by omega) (dg_step (q := fun j => byteAt s j ≠ c) h0 hq (by omega)) S1 rfl
  ·skip
   refine J.head (.bool false) (congrArg Value.bool (decide_eq_false fk1)) ?_
   refine J.run 6 K60_6 [(4, .bool false)] w1 (by kernel_rfl) ?_
   refine J.ret Tryz.f60 [.bool false] Tryz.func60 ⟨by kernel_rfl, trivial⟩ ?_
   refine hR _ _ ?_
   exact ⟨congrArg Value.bool (has_no fun j hj => hq j (by omega)).symm, S1.nil⟩
 exact L60_1 _ 0 w (by omega) (by omega) (by intro j hj; simp at hj) S0 rfl

theorem hb24 : HasBody Tryz.prog 24 := fun _ _ => by kernel_rfl
noncomputable def K24_0 : List Item := adv 2 [] (bodyOf Tryz.f24)
noncomputable def K24_1 : List Item := adv 6 [] (popK K24_0)
noncomputable def K24_2 : List Item := adv 2 [] (popK K24_1)
noncomputable def K24_3 : List Item := adv 40 [true] K24_2
noncomputable def K24_4 : List Item := adv 1 [] K24_2
noncomputable def K24_5 : List Item := adv 3 [] (popK K24_4)
noncomputable def K24_6 : List Item := adv 35 [true] K24_5
noncomputable def K24_7 : List Item := adv 1 [] K24_5
noncomputable def K24_8 : List Item := adv 3 [] (popK K24_7)
noncomputable def K24_9 : List Item := adv 30 [true] K24_8
noncomputable def K24_10 : List Item := adv 1 [] K24_8
noncomputable def K24_11 : List Item := adv 3 [] (popK K24_10)
noncomputable def K24_12 : List Item := adv 25 [true] K24_11
noncomputable def K24_13 : List Item := adv 1 [] K24_11
noncomputable def K24_14 : List Item := adv 3 [] (popK K24_13)
noncomputable def K24_15 : List Item := adv 20 [true] K24_14
noncomputable def K24_16 : List Item := adv 1 [] K24_14
noncomputable def K24_17 : List Item := adv 3 [] (popK K24_16)
noncomputable def K24_18 : List Item := adv 15 [true] K24_17
noncomputable def K24_19 : List Item := adv 1 [] K24_17
noncomputable def K24_20 : List Item := adv 3 [] (popK K24_19)
noncomputable def K24_21 : List Item := adv 10 [true] K24_20
noncomputable def K24_22 : List Item := adv 1 [] K24_20
noncomputable def K24_23 : List Item := adv 3 [] (popK K24_22)
noncomputable def K24_24 : List Item := adv 5 [true] K24_23
noncomputable def K24_25 : List Item := adv 5 [false] K24_23
noncomputable def K24_26 : List Item := adv 4 [] (popK (popK K24_25))
noncomputable def K24_27 : List Item := List.drop 1 K24_26
noncomputable def K24_28 : List Item := adv 5 [true] K24_27
noncomputable def K24_29 : List Item := adv 5 [false] K24_27
noncomputable def K24_30 : List Item := adv 1 [] (popK K24_29)
noncomputable def K24_31 : List Item := adv 12 [] (popK K24_30)
noncomputable def K24_32 : List Item := adv 7 [] (popK K24_31)
noncomputable def K24_33 : List Item := adv 4 [true] K24_32
noncomputable def K24_34 : List Item := adv 2 [] (popK K24_33)
noncomputable def K24_35 : List Item := adv 1 [] K24_34
noncomputable def K24_36 : List Item := adv 4 [] (popK K24_35)
noncomputable def K24_37 : List Item := adv 6 [] K24_34
noncomputable def K24_38 : List Item := adv 7 [false] K24_32
noncomputable def K24_39 : List Item := List.drop 1 K24_38
noncomputable def K24_40 : List Item := adv 4 [true] K24_39
noncomputable def K24_41 : List Item := adv 2 [] (popK K24_40)
noncomputable def K24_42 : List Item := adv 5 [] K24_41
noncomputable def K24_43 : List Item := adv 5 [] K24_41
noncomputable def K24_44 : List Item := adv 7 [false] K24_39
noncomputable def K24_45 : List Item := List.drop 1 K24_44
noncomputable def K24_46 : List Item := adv 4 [true] K24_45
noncomputable def K24_47 : List Item := adv 2 [] (popK K24_46)
noncomputable def K24_48 : List Item := adv 4 [] K24_47
noncomputable def K24_49 : List Item := adv 5 [] K24_48
noncomputable def K24_50 : List Item := adv 5 [] K24_48
noncomputable def K24_51 : List Item := adv 9 [] K24_47
noncomputable def K24_52 : List Item := adv 7 [false] K24_45
noncomputable def K24_53 : List Item := List.drop 1 K24_52
noncomputable def K24_54 : List Item := adv 4 [true] K24_53
noncomputable def K24_55 : List Item := adv 2 [] (popK K24_54)
noncomputable def K24_56 : List Item := adv 4 [] K24_55
noncomputable def K24_57 : List Item := adv 5 [] K24_56
noncomputable def K24_58 : List Item := adv 5 [] K24_56
noncomputable def K24_59 : List Item := adv 9 [] K24_55
noncomputable def K24_60 : List Item := adv 6 [false] K24_53
noncomputable def K24_61 : List Item := adv 4 [true] K24_60
noncomputable def K24_62 : List Item := adv 2 [] (popK K24_61)
noncomputable def K24_63 : List Item := adv 1 [] K24_62
noncomputable def K24_64 : List Item := adv 4 [] (popK K24_63)
noncomputable def K24_65 : List Item := adv 6 [] K24_62
noncomputable def K24_66 : List Item := adv 6 [false] K24_60
noncomputable def K24_67 : List Item := adv 4 [true] K24_66
noncomputable def K24_68 : List Item := adv 2 [] (popK K24_67)
noncomputable def K24_69 : List Item := adv 1 [] K24_68
noncomputable def K24_70 : List Item := adv 3 [] (popK K24_69)
noncomputable def K24_71 : List Item := adv 1 [] K24_70
noncomputable def K24_72 : List Item := adv 1 [] (popK K24_71)
noncomputable def K24_73 : List Item := adv 4 [] K24_72
noncomputable def K24_74 : List Item := adv 7 [] K24_70
noncomputable def K24_75 : List Item := adv 12 [] K24_68
noncomputable def K24_76 : List Item := adv 6 [false] K24_66
noncomputable def K24_77 : List Item := adv 2 [] (popK K24_76)
noncomputable def K24_78 : List Item := adv 1 [] K24_77
noncomputable def K24_79 : List Item := adv 4 [] (popK K24_78)
noncomputable def K24_80 : List Item := adv 6 [] K24_77
noncomputable def K24_81 : List Item := adv 6 [false] K24_38
noncomputable def K24_82 : List Item := adv 6 [false] K24_81
noncomputable def K24_83 : List Item := adv 2 [] K24_26
noncomputable def K24_84 : List Item := adv 2 [] (popK K24_83)
noncomputable def K24_85 : List Item := adv 6 [] K24_84
noncomputable def K24_86 : List Item := adv 2 [] (popK K24_85)
noncomputable def K24_87 : List Item := adv 7 [] K24_86
noncomputable def K24_88 : List Item := adv 2 [] (popK K24_87)
noncomputable def K24_89 : List Item := adv 1 [] K24_88
noncomputable def K24_90 : List Item := adv 1 [] K24_86
noncomputable def K24_91 : List Item := adv 4 [] (popK K24_90)
noncomputable def K24_92 : List Item := adv 1 [] K24_91
noncomputable def K24_93 : List Item := adv 2 [] (popK K24_92)
noncomputable def K24_94 : List Item := adv 1 [] K24_93
noncomputable def K24_95 : List Item := adv 1 [] K24_84
noncomputable def K24_96 : List Item := adv 3 [] (popK K24_95)
noncomputable def K24_97 : List Item := adv 1 [] K24_96
noncomputable def K24_98 : List Item := adv 2 [] (popK K24_97)
noncomputable def K24_99 : List Item := adv 7 [] K24_98
noncomputable def K24_100 : List Item := adv 2 [] (popK K24_99)
noncomputable def K24_101 : List Item := adv 1 [] K24_100
noncomputable def K24_102 : List Item := adv 1 [] K24_98
noncomputable def K24_103 : List Item := adv 4 [] (popK K24_102)
noncomputable def K24_104 : List Item := adv 1 [] K24_103
noncomputable def K24_105 : List Item := adv 2 [] (popK K24_104)
noncomputable def K24_106 : List Item := adv 1 [] K24_105
set_option maxRecDepth 20000 in
set_option maxHeartbeats 20000000 in
theorem rformed_any (i : Ins) (w : World) (hi : insQ w i) : Ret Tryz.prog 24 #[.agg (insA i)] w (fun v w' => v = .bool (formB i) ∧ Sep w [] w') := by
 have S0 := Sep.refl w
 refine Ret.named fun R hR => ?_
 refine Ret.of_J (N := 170) [(0, .agg (insA i))] Tryz.func24 rfl rfl (Nat.le_of_ble_eq_true (by kernel_rfl)) (by kernel_rfl) ?_
 obtain ⟨q1, q2, q3, q4, q5, _⟩ := id hi
 have hfz := fields_size (op := i.gOp)
 refine J.run 2 K24_0 [(0, .agg (insA i))] w (by kernel_rfl) ?_
 refine J.new S0 1 (insC i) 44 (by kernel_rfl) ?_
 intro b1 w1 S1
 refine J.run 6 K24_1 [(7, pv b1), (1, pv b1)] w1 (by kernel_rfl) ?_
 refine J.ok (OK.ldBox S1 0 8 3 0 (iv i.gOp) (by kernel_rfl) rfl (by kernel_rfl)) ?_
 refine J.run 2 K24_2 [(10, .bool (decide (i.gOp < 1))), (1, pv b1)] w1 (by kernel_rfl) ?_
 by_cases fk1 : i.gOp < 1
 ·skip
  refine J.head (.bool true) (congrArg Value.bool (decide_eq_true fk1)) ?_
  refine J.run 40 K24_3 [(2, .bool false)] w1 (by kernel_rfl) ?_
  refine J.ret Tryz.f24 [.bool false] Tryz.func24 ⟨by kernel_rfl, trivial⟩ ?_
  refine hR _ _ ?_
  exact ⟨congrArg Value.bool (decide_eq_false (show ¬ (formP i.gOp i.gA i.gB i.gC i.gK) by omega)).symm, S1.nil⟩
 ·skip
  refine J.head (.bool false) (congrArg Value.bool (decide_eq_false fk1)) ?_
  refine J.run 1 K24_4 [(11, pv b1), (10, .bool false), (1, pv b1)] w1 (by kernel_rfl) ?_
  refine J.ok (OK.ldBox S1 0 12 3 0 (iv i.gOp) (by kernel_rfl) rfl (by kernel_rfl)) ?_
  refine J.run 3 K24_5 [(15, .bool (decide (i.gOp > 22))), (1, pv b1)] w1 (by kernel_rfl) ?_
  by_cases fk2 : i.gOp > 22
  ·skip
   refine J.head (.bool true) (congrArg Value.bool (decide_eq_true fk2)) ?_
   refine J.run 35 K24_6 [(2, .bool false)] w1 (by kernel_rfl) ?_
   refine J.ret Tryz.f24 [.bool false] Tryz.func24 ⟨by kernel_rfl, trivial⟩ ?_
   refine hR _ _ ?_
   exact ⟨congrArg Value.bool (decide_eq_false (show ¬ (formP i.gOp i.gA i.gB i.gC i.gK) by omega)).symm, S1.nil⟩
  ·skip
   refine J.head (.bool false) (congrArg Value.bool (decide_eq_false fk2)) ?_
   refine J.run 1 K24_7 [(16, .pointer (some ⟨b1, 1, none⟩)), (15, .bool false), (1, pv b1)] w1 (by kernel_rfl) ?_
   refine J.ok (OK.ldBox S1 0 17 3 1 (iv i.gA) (by kernel_rfl) rfl (by kernel_rfl)) ?_
   refine J.run 3 K24_8 [(20, .bool (decide (i.gA < 0))), (1, pv b1)] w1 (by kernel_rfl) ?_
   by_cases fk3 : i.gA < 0
   ·skip
    refine J.head (.bool true) (congrArg Value.bool (decide_eq_true fk3)) ?_
    refine J.run 30 K24_9 [(2, .bool false)] w1 (by kernel_rfl) ?_
    refine J.ret Tryz.f24 [.bool false] Tryz.func24 ⟨by kernel_rfl, trivial⟩ ?_
    refine hR _ _ ?_
    exact ⟨congrArg Value.bool (decide_eq_false (show ¬ (formP i.gOp i.gA i.gB i.gC i.gK) by omega)).symm, S1.nil⟩
   ·skip
    refine J.head (.bool false) (congrArg Value.bool (decide_eq_false fk3)) ?_
    refine J.run 1 K24_10 [(21, .pointer (some ⟨b1, 1, none⟩)), (20, .bool false), (1, pv b1)] w1 (by kernel_rfl) ?_
    refine J.ok (OK.ldBox S1 0 22 3 1 (iv i.gA) (by kernel_rfl) rfl (by kernel_rfl)) ?_
    refine J.run 3 K24_11 [(25, .bool (decide (i.gA > 15))), (1, pv b1)] w1 (by kernel_rfl) ?_
    by_cases fk4 : i.gA > 15
    ·skip
     refine J.head (.bool true) (congrArg Value.bool (decide_eq_true fk4)) ?_
     refine J.run 25 K24_12 [(2, .bool false)] w1 (by kernel_rfl) ?_
     refine J.ret Tryz.f24 [.bool false] Tryz.func24 ⟨by kernel_rfl, trivial⟩ ?_
     refine hR _ _ ?_
     exact ⟨congrArg Value.bool (decide_eq_false (show ¬ (formP i.gOp i.gA i.gB i.gC i.gK) by omega)).symm, S1.nil⟩
    ·skip
     refine J.head (.bool false) (congrArg Value.bool (decide_eq_false fk4)) ?_
     refine J.run 1 K24_13 [(26, .pointer (some ⟨b1, 2, none⟩)), (25, .bool false), (1, pv b1)] w1 (by kernel_rfl) ?_
     refine J.ok (OK.ldBox S1 0 27 3 2 (iv i.gB) (by kernel_rfl) rfl (by kernel_rfl)) ?_
     refine J.run 3 K24_14 [(30, .bool (decide (i.gB < 0))), (1, pv b1)] w1 (by kernel_rfl) ?_
     by_cases fk5 : i.gB < 0
     ·skip
      refine J.head (.bool true) (congrArg Value.bool (decide_eq_true fk5)) ?_
      refine J.run 20 K24_15 [(2, .bool false)] w1 (by kernel_rfl) ?_
      refine J.ret Tryz.f24 [.bool false] Tryz.func24 ⟨by kernel_rfl, trivial⟩ ?_
      refine hR _ _ ?_
      exact ⟨congrArg Value.bool (decide_eq_false (show ¬ (formP i.gOp i.gA i.gB i.gC i.gK) by omega)).symm, S1.nil⟩
     ·skip
      refine J.head (.bool false) (congrArg Value.bool (decide_eq_false fk5)) ?_
      refine J.run 1 K24_16 [(31, .pointer (some ⟨b1, 2, none⟩)), (30, .bool false), (1, pv b1)] w1 (by kernel_rfl) ?_
      refine J.ok (OK.ldBox S1 0 32 3 2 (iv i.gB) (by kernel_rfl) rfl (by kernel_rfl)) ?_
      refine J.run 3 K24_17 [(35, .bool (decide (i.gB > 15))), (1, pv b1)] w1 (by kernel_rfl) ?_
      by_cases fk6 : i.gB > 15
      ·skip
       refine J.head (.bool true) (congrArg Value.bool (decide_eq_true fk6)) ?_
       refine J.run 15 K24_18 [(2, .bool false)] w1 (by kernel_rfl) ?_
       refine J.ret Tryz.f24 [.bool false] Tryz.func24 ⟨by kernel_rfl, trivial⟩ ?_
       refine hR _ _ ?_
       exact ⟨congrArg Value.bool (decide_eq_false (show ¬ (formP i.gOp i.gA i.gB i.gC i.gK) by omega)).symm, S1.nil⟩
      ·skip
       refine J.head (.bool false) (congrArg Value.bool (decide_eq_false fk6)) ?_
       refine J.run 1 K24_19 [(36, .pointer (some ⟨b1, 3, none⟩)), (35, .bool false), (1, pv b1)] w1 (by kernel_rfl) ?_
       refine J.ok (OK.ldBox S1 0 37 3 3 (iv i.gC) (by kernel_rfl) rfl (by kernel_rfl)) ?_
       refine J.run 3 K24_20 [(40, .bool (decide (i.gC < 0))), (1, pv b1)] w1 (by kernel_rfl) ?_
       by_cases fk7 : i.gC < 0
       ·skip
        refine J.head (.bool true) (congrArg Value.bool (decide_eq_true fk7)) ?_
        refine J.run 10 K24_21 [(2, .bool false)] w1 (by kernel_rfl) ?_
        refine J.ret Tryz.f24 [.bool false] Tryz.func24 ⟨by kernel_rfl, trivial⟩ ?_
        refine hR _ _ ?_
        exact ⟨congrArg Value.bool (decide_eq_false (show ¬ (formP i.gOp i.gA i.gB i.gC i.gK) by omega)).symm, S1.nil⟩
       ·skip
        refine J.head (.bool false) (congrArg Value.bool (decide_eq_false fk7)) ?_
        refine J.run 1 K24_22 [(41, .pointer (some ⟨b1, 3, none⟩)), (40, .bool false), (1, pv b1)] w1 (by kernel_rfl) ?_
        refine J.ok (OK.ldBox S1 0 42 3 3 (iv i.gC) (by kernel_rfl) rfl (by kernel_rfl)) ?_
        refine J.run 3 K24_23 [(44, .bool (decide (i.gC > 15))), (1, pv b1)] w1 (by kernel_rfl) ?_
        by_cases fk8 : i.gC > 15
        ·skip
         refine J.head (.bool true) (congrArg Value.bool (decide_eq_true fk8)) ?_
         refine J.run 5 K24_24 [(2, .bool false)] w1 (by kernel_rfl) ?_
         refine J.ret Tryz.f24 [.bool false] Tryz.func24 ⟨by kernel_rfl, trivial⟩ ?_
         refine hR _ _ ?_
         exact ⟨congrArg Value.bool (decide_eq_false (show ¬ (formP i.gOp i.gA i.gB i.gC i.gK) by omega)).symm, S1.nil⟩
        ·skip
         refine J.head (.bool false) (congrArg Value.bool (decide_eq_false fk8)) ?_
         refine J.run 5 K24_25 [(45, pv b1), (1, pv b1)] w1 (by kernel_rfl) ?_
         refine J.ok (OK.ldBox S1 0 46 3 0 (iv i.gOp) (by kernel_rfl) rfl (by kernel_rfl)) ?_
         refine J.callF 47 59 #[iv i.gOp] hb59 (by kernel_rfl) (rfields_any i.gOp _ (by omega)) ?_
         rintro _ w2 ⟨rfl, T1⟩
         have S2 : Sep w [box b1 (insC i) 44] w2 := S1.trans T1
         clear T1 S1
         have := fields_size (op := i.gOp)
         refine J.run 4 K24_26 [(3, .string (fieldsF i.gOp)), (1, pv b1)] w2 (by kernel_rfl) ?_
         have X1 : ∀ (tb : Bool) (w3 : World), ((tb = true → ¬ ((4 ≤ i.gOp ∨ i.gB = 0) ∧ (useC i.gOp ∨ i.gC = 0) ∧ (useK i.gOp ∨ i.gK = 0))) ∧ (tb = false → (4 ≤ i.gOp ∨ i.gB = 0) ∧ (useC i.gOp ∨ i.gC = 0) ∧ (useK i.gOp ∨ i.gK = 0))) → Sep w [box b1 (insC i) 44] w3 → J Tryz.prog 24 170 R K24_27 [(1, pv b1), (75, .bool tb)] w3 := by
          intro tb w3 htb S3
          refine J.run 0 K24_27 [(75, .bool tb), (1, pv b1)] w3 (by kernel_rfl) ?_
          rcases Bool.eq_false_or_eq_true tb with fk9 | fk9
          ·skip
           refine J.head (.bool true) (congrArg Value.bool fk9) ?_
           have fb1 := htb.1 fk9
           refine J.run 5 K24_28 [(2, .bool false)] w3 (by kernel_rfl) ?_
           refine J.ret Tryz.f24 [.bool false] Tryz.func24 ⟨by kernel_rfl, trivial⟩ ?_
           refine hR _ _ ?_
           exact ⟨congrArg Value.bool (decide_eq_false (show ¬ (formP i.gOp i.gA i.gB i.gC i.gK) by omega)).symm, S3.nil⟩
          ·skip
           refine J.head (.bool false) (congrArg Value.bool fk9) ?_
           have fb2 := htb.2 fk9
           refine J.run 5 K24_29 [(77, .pointer (some ⟨b1, 4, none⟩)), (1, pv b1)] w3 (by kernel_rfl) ?_
           refine J.ok (OK.ldBox S3 0 78 3 4 (iv i.gK) (by kernel_rfl) rfl (by kernel_rfl)) ?_
           refine J.run 1 K24_30 [(79, iv (if 0 > i.gK then 0 else i.gK)), (1, pv b1)] w3 (by kernel_rfl) ?_
           refine J.head (iv (max i.gK 0)) (congrArg (Value.int .i64) (by omega)) ?_
           refine J.callF 80 61 #[iv (max i.gK 0)] hb61 (by kernel_rfl) (rtypes_any (max i.gK 0) _ (by omega)) ?_
           rintro _ w4 ⟨rfl, T2⟩
           have S4 : Sep w [box b1 (insC i) 44] w4 := S3.trans T2
           clear T2 S3
           refine J.run 12 K24_31 [(84, pv b1), (6, iv ((max i.gK 0) % 128)), (5, iv ((max i.gK 0) / 128 % 128)), (4, iv ((max i.gK 0) / 16384)), (1, pv b1)] w4 (by kernel_rfl) ?_
           refine J.ok (OK.ldBox S4 0 85 3 0 (iv i.gOp) (by kernel_rfl) rfl (by kernel_rfl)) ?_
           refine J.run 7 K24_32 [(86, .bool (i.gOp == 1)), (85, iv i.gOp), (6, iv ((max i.gK 0) % 128)), (5, iv ((max i.gK 0) / 128 % 128)), (4, iv ((max i.gK 0) / 16384)), (1, pv b1)] w4 (by kernel_rfl) ?_
           by_cases fk10 : i.gOp = 1
           ·skip
            refine J.head (.bool true) (congrArg Value.bool (beq_iff_eq.2 fk10)) ?_
            refine J.run 4 K24_33 [(88, .pointer (some ⟨b1, 4, none⟩)), (1, pv b1)] w4 (by kernel_rfl) ?_
            refine J.ok (OK.ldBox S4 0 89 3 4 (iv i.gK) (by kernel_rfl) rfl (by kernel_rfl)) ?_
            refine J.run 2 K24_34 [(91, .bool (decide (i.gK ≥ (-1099511627776)))), (1, pv b1)] w4 (by kernel_rfl) ?_
            by_cases fk11 : i.gK ≥ (-1099511627776)
            ·skip
             refine J.head (.bool true) (congrArg Value.bool (decide_eq_true fk11)) ?_
             refine J.run 1 K24_35 [(92, .pointer (some ⟨b1, 4, none⟩)), (91, .bool true)] w4 (by kernel_rfl) ?_
             refine J.ok (OK.ldBox S4 0 93 3 4 (iv i.gK) (by kernel_rfl) rfl (by kernel_rfl)) ?_
             refine J.run 4 K24_36 [(2, .bool (decide (i.gK ≤ 1099511627776)))] w4 (by kernel_rfl) ?_
             refine J.ret Tryz.f24 [.bool (decide (i.gK ≤ 1099511627776))] Tryz.func24 ⟨by kernel_rfl, trivial⟩ ?_
             refine hR _ _ ?_
             exact ⟨congrArg Value.bool (by show (decide (i.gK ≤ 1099511627776)) = decide (formP i.gOp i.gA i.gB i.gC i.gK); by_cases hz_ : i.gK ≤ 1099511627776; (rw [(decide_eq_true hz_)]; first | exact (decide_eq_true (by omega)).symm | exact (decide_eq_false (by omega)).symm); (rw [(decide_eq_false hz_)]; first | exact (decide_eq_false (by omega)).symm | exact (decide_eq_true (by omega)).symm)), S4.nil⟩
            ·skip
             refine J.head (.bool false) (congrArg Value.bool (decide_eq_false fk11)) ?_
             refine J.run 6 K24_37 [(2, .bool false)] w4 (by kernel_rfl) ?_
             refine J.ret Tryz.f24 [.bool false] Tryz.func24 ⟨by kernel_rfl, trivial⟩ ?_
             refine hR _ _ ?_
             exact ⟨congrArg Value.bool (decide_eq_false (show ¬ (formP i.gOp i.gA i.gB i.gC i.gK) by omega)).symm, S4.nil⟩
           ·skip
            refine J.head (.bool false) (congrArg Value.bool (beq_eq_false_iff_ne.2 fk10)) ?_
            refine J.run 7 K24_38 [(96, .bool (i.gOp == 5)), (85, iv i.gOp), (6, iv ((max i.gK 0) % 128)), (5, iv ((max i.gK 0) / 128 % 128)), (4, iv ((max i.gK 0) / 16384)), (1, pv b1)] w4 (by kernel_rfl) ?_
            have X2 : ∀ (tj96 : Bool) (w5 : World), ((tj96 = true → (i.gOp = 5 ∨ i.gOp = 6 ∨ i.gOp = 7 ∨ i.gOp = 8)) ∧ (tj96 = false → ¬ (i.gOp = 5 ∨ i.gOp = 6 ∨ i.gOp = 7 ∨ i.gOp = 8))) → Sep w [box b1 (insC i) 44] w5 → J Tryz.prog 24 170 R K24_39 [(85, iv i.gOp), (6, iv ((max i.gK 0) % 128)), (5, iv ((max i.gK 0) / 128 % 128)), (4, iv ((max i.gK 0) / 16384)), (1, pv b1), (96, .bool tj96)] w5 := by
             intro tj96 w5 htj96 S5
             refine J.run 0 K24_39 [(96, .bool tj96), (85, iv i.gOp), (6, iv ((max i.gK 0) % 128)), (5, iv ((max i.gK 0) / 128 % 128)), (4, iv ((max i.gK 0) / 16384)), (1, pv b1)] w5 (by kernel_rfl) ?_
             rcases Bool.eq_false_or_eq_true tj96 with fk12 | fk12
             ·skip
              refine J.head (.bool true) (congrArg Value.bool fk12) ?_
              have fb3 := htj96.1 fk12
              refine J.run 4 K24_40 [(101, .pointer (some ⟨b1, 4, none⟩)), (4, iv ((max i.gK 0) / 16384))] w5 (by kernel_rfl) ?_
              refine J.ok (OK.ldBox S5 0 102 3 4 (iv i.gK) (by kernel_rfl) rfl (by kernel_rfl)) ?_
              refine J.run 2 K24_41 [(104, .bool (decide (i.gK ≥ 0))), (4, iv ((max i.gK 0) / 16384))] w5 (by kernel_rfl) ?_
              by_cases fk13 : i.gK ≥ 0
              ·skip
               refine J.head (.bool true) (congrArg Value.bool (decide_eq_true fk13)) ?_
               refine J.run 5 K24_42 [(2, .bool (decide (((max i.gK 0) / 16384) < 128)))] w5 (by kernel_rfl) ?_
               refine J.ret Tryz.f24 [.bool (decide (((max i.gK 0) / 16384) < 128))] Tryz.func24 ⟨by kernel_rfl, trivial⟩ ?_
               refine hR _ _ ?_
               exact ⟨congrArg Value.bool (by show (decide (((max i.gK 0) / 16384) < 128)) = decide (formP i.gOp i.gA i.gB i.gC i.gK); by_cases hz_ : ((max i.gK 0) / 16384) < 128; (rw [(decide_eq_true hz_)]; first | exact (decide_eq_true (by omega)).symm | exact (decide_eq_false (by omega)).symm); (rw [(decide_eq_false hz_)]; first | exact (decide_eq_false (by omega)).symm | exact (decide_eq_true (by omega)).symm)), S5.nil⟩
              ·skip
               refine J.head (.bool false) (congrArg Value.bool (decide_eq_false fk13)) ?_
               refine J.run 5 K24_43 [(2, .bool false)] w5 (by kernel_rfl) ?_
               refine J.ret Tryz.f24 [.bool false] Tryz.func24 ⟨by kernel_rfl, trivial⟩ ?_
               refine hR _ _ ?_
               exact ⟨congrArg Value.bool (decide_eq_false (show ¬ (formP i.gOp i.gA i.gB i.gC i.gK) by omega)).symm, S5.nil⟩
             ·skip
              refine J.head (.bool false) (congrArg Value.bool fk12) ?_
              have fb4 := htj96.2 fk12
              refine J.run 7 K24_44 [(108, .bool (i.gOp == 9)), (85, iv i.gOp), (6, iv ((max i.gK 0) % 128)), (5, iv ((max i.gK 0) / 128 % 128)), (4, iv ((max i.gK 0) / 16384)), (1, pv b1)] w5 (by kernel_rfl) ?_
              have X3 : ∀ (tj108 : Bool) (w6 : World), ((tj108 = true → (i.gOp = 9 ∨ i.gOp = 10)) ∧ (tj108 = false → ¬ (i.gOp = 9 ∨ i.gOp = 10))) → Sep w [box b1 (insC i) 44] w6 → J Tryz.prog 24 170 R K24_45 [(85, iv i.gOp), (6, iv ((max i.gK 0) % 128)), (5, iv ((max i.gK 0) / 128 % 128)), (4, iv ((max i.gK 0) / 16384)), (1, pv b1), (108, .bool tj108)] w6 := by
               intro tj108 w6 htj108 S6
               refine J.run 0 K24_45 [(108, .bool tj108), (85, iv i.gOp), (6, iv ((max i.gK 0) % 128)), (5, iv ((max i.gK 0) / 128 % 128)), (4, iv ((max i.gK 0) / 16384)), (1, pv b1)] w6 (by kernel_rfl) ?_
               rcases Bool.eq_false_or_eq_true tj108 with fk14 | fk14
               ·skip
                refine J.head (.bool true) (congrArg Value.bool fk14) ?_
                have fb5 := htj108.1 fk14
                refine J.run 4 K24_46 [(111, .pointer (some ⟨b1, 4, none⟩)), (5, iv ((max i.gK 0) / 128 % 128)), (4, iv ((max i.gK 0) / 16384))] w6 (by kernel_rfl) ?_
                refine J.ok (OK.ldBox S6 0 112 3 4 (iv i.gK) (by kernel_rfl) rfl (by kernel_rfl)) ?_
                refine J.run 2 K24_47 [(114, .bool (decide (i.gK ≥ 0))), (5, iv ((max i.gK 0) / 128 % 128)), (4, iv ((max i.gK 0) / 16384))] w6 (by kernel_rfl) ?_
                by_cases fk15 : i.gK ≥ 0
                ·skip
                 refine J.head (.bool true) (congrArg Value.bool (decide_eq_true fk15)) ?_
                 refine J.run 4 K24_48 [(118, .bool (decide (((max i.gK 0) / 16384) < 128))), (5, iv ((max i.gK 0) / 128 % 128))] w6 (by kernel_rfl) ?_
                 by_cases fk16 : ((max i.gK 0) / 16384) < 128
                 ·skip
                  refine J.head (.bool true) (congrArg Value.bool (decide_eq_true fk16)) ?_
                  refine J.run 5 K24_49 [(2, .bool (((max i.gK 0) / 128 % 128) == 0))] w6 (by kernel_rfl) ?_
                  refine J.ret Tryz.f24 [.bool (((max i.gK 0) / 128 % 128) == 0)] Tryz.func24 ⟨by kernel_rfl, trivial⟩ ?_
                  refine hR _ _ ?_
                  exact ⟨congrArg Value.bool (by show (((max i.gK 0) / 128 % 128) == 0) = decide (formP i.gOp i.gA i.gB i.gC i.gK); by_cases hz_ : ((max i.gK 0) / 128 % 128) = 0; (rw [(beq_iff_eq.2 hz_)]; first | exact (decide_eq_true (by omega)).symm | exact (decide_eq_false (by omega)).symm); (rw [(beq_eq_false_iff_ne.2 hz_)]; first | exact (decide_eq_false (by omega)).symm | exact (decide_eq_true (by omega)).symm)), S6.nil⟩
                 ·skip
                  refine J.head (.bool false) (congrArg Value.bool (decide_eq_false fk16)) ?_
                  refine J.run 5 K24_50 [(2, .bool false)] w6 (by kernel_rfl) ?_
                  refine J.ret Tryz.f24 [.bool false] Tryz.func24 ⟨by kernel_rfl, trivial⟩ ?_
                  refine hR _ _ ?_
                  exact ⟨congrArg Value.bool (decide_eq_false (show ¬ (formP i.gOp i.gA i.gB i.gC i.gK) by omega)).symm, S6.nil⟩
                ·skip
                 refine J.head (.bool false) (congrArg Value.bool (decide_eq_false fk15)) ?_
                 refine J.run 9 K24_51 [(2, .bool false)] w6 (by kernel_rfl) ?_
                 refine J.ret Tryz.f24 [.bool false] Tryz.func24 ⟨by kernel_rfl, trivial⟩ ?_
                 refine hR _ _ ?_
                 exact ⟨congrArg Value.bool (decide_eq_false (show ¬ (formP i.gOp i.gA i.gB i.gC i.gK) by omega)).symm, S6.nil⟩
               ·skip
                refine J.head (.bool false) (congrArg Value.bool fk14) ?_
                have fb6 := htj108.2 fk14
                refine J.run 7 K24_52 [(122, .bool (i.gOp == 13)), (85, iv i.gOp), (6, iv ((max i.gK 0) % 128)), (4, iv ((max i.gK 0) / 16384)), (1, pv b1)] w6 (by kernel_rfl) ?_
                have X4 : ∀ (tj122 : Bool) (w7 : World), ((tj122 = true → (i.gOp = 13 ∨ i.gOp = 14)) ∧ (tj122 = false → ¬ (i.gOp = 13 ∨ i.gOp = 14))) → Sep w [box b1 (insC i) 44] w7 → J Tryz.prog 24 170 R K24_53 [(85, iv i.gOp), (6, iv ((max i.gK 0) % 128)), (4, iv ((max i.gK 0) / 16384)), (1, pv b1), (122, .bool tj122)] w7 := by
                 intro tj122 w7 htj122 S7
                 refine J.run 0 K24_53 [(122, .bool tj122), (85, iv i.gOp), (6, iv ((max i.gK 0) % 128)), (4, iv ((max i.gK 0) / 16384)), (1, pv b1)] w7 (by kernel_rfl) ?_
                 rcases Bool.eq_false_or_eq_true tj122 with fk17 | fk17
                 ·skip
                  refine J.head (.bool true) (congrArg Value.bool fk17) ?_
                  have fb7 := htj122.1 fk17
                  refine J.run 4 K24_54 [(125, .pointer (some ⟨b1, 4, none⟩)), (6, iv ((max i.gK 0) % 128)), (4, iv ((max i.gK 0) / 16384))] w7 (by kernel_rfl) ?_
                  refine J.ok (OK.ldBox S7 0 126 3 4 (iv i.gK) (by kernel_rfl) rfl (by kernel_rfl)) ?_
                  refine J.run 2 K24_55 [(128, .bool (decide (i.gK ≥ 0))), (6, iv ((max i.gK 0) % 128)), (4, iv ((max i.gK 0) / 16384))] w7 (by kernel_rfl) ?_
                  by_cases fk18 : i.gK ≥ 0
                  ·skip
                   refine J.head (.bool true) (congrArg Value.bool (decide_eq_true fk18)) ?_
                   refine J.run 4 K24_56 [(132, .bool (decide (((max i.gK 0) / 16384) < 128))), (6, iv ((max i.gK 0) % 128))] w7 (by kernel_rfl) ?_
                   by_cases fk19 : ((max i.gK 0) / 16384) < 128
                   ·skip
                    refine J.head (.bool true) (congrArg Value.bool (decide_eq_true fk19)) ?_
                    refine J.run 5 K24_57 [(2, .bool (((max i.gK 0) % 128) == 0))] w7 (by kernel_rfl) ?_
                    refine J.ret Tryz.f24 [.bool (((max i.gK 0) % 128) == 0)] Tryz.func24 ⟨by kernel_rfl, trivial⟩ ?_
                    refine hR _ _ ?_
                    exact ⟨congrArg Value.bool (by show (((max i.gK 0) % 128) == 0) = decide (formP i.gOp i.gA i.gB i.gC i.gK); by_cases hz_ : ((max i.gK 0) % 128) = 0; (rw [(beq_iff_eq.2 hz_)]; first | exact (decide_eq_true (by omega)).symm | exact (decide_eq_false (by omega)).symm); (rw [(beq_eq_false_iff_ne.2 hz_)]; first | exact (decide_eq_false (by omega)).symm | exact (decide_eq_true (by omega)).symm)), S7.nil⟩
                   ·skip
                    refine J.head (.bool false) (congrArg Value.bool (decide_eq_false fk19)) ?_
                    refine J.run 5 K24_58 [(2, .bool false)] w7 (by kernel_rfl) ?_
                    refine J.ret Tryz.f24 [.bool false] Tryz.func24 ⟨by kernel_rfl, trivial⟩ ?_
                    refine hR _ _ ?_
                    exact ⟨congrArg Value.bool (decide_eq_false (show ¬ (formP i.gOp i.gA i.gB i.gC i.gK) by omega)).symm, S7.nil⟩
                  ·skip
                   refine J.head (.bool false) (congrArg Value.bool (decide_eq_false fk18)) ?_
                   refine J.run 9 K24_59 [(2, .bool false)] w7 (by kernel_rfl) ?_
                   refine J.ret Tryz.f24 [.bool false] Tryz.func24 ⟨by kernel_rfl, trivial⟩ ?_
                   refine hR _ _ ?_
                   exact ⟨congrArg Value.bool (decide_eq_false (show ¬ (formP i.gOp i.gA i.gB i.gC i.gK) by omega)).symm, S7.nil⟩
                 ·skip
                  refine J.head (.bool false) (congrArg Value.bool fk17) ?_
                  have fb8 := htj122.2 fk17
                  refine J.run 6 K24_60 [(136, .bool (i.gOp == 19)), (85, iv i.gOp), (1, pv b1)] w7 (by kernel_rfl) ?_
                  by_cases fk20 : i.gOp = 19
                  ·skip
                   refine J.head (.bool true) (congrArg Value.bool (beq_iff_eq.2 fk20)) ?_
                   refine J.run 4 K24_61 [(138, .pointer (some ⟨b1, 4, none⟩)), (1, pv b1)] w7 (by kernel_rfl) ?_
                   refine J.ok (OK.ldBox S7 0 139 3 4 (iv i.gK) (by kernel_rfl) rfl (by kernel_rfl)) ?_
                   refine J.run 2 K24_62 [(141, .bool (decide (i.gK ≥ 0))), (1, pv b1)] w7 (by kernel_rfl) ?_
                   by_cases fk21 : i.gK ≥ 0
                   ·skip
                    refine J.head (.bool true) (congrArg Value.bool (decide_eq_true fk21)) ?_
                    refine J.run 1 K24_63 [(142, .pointer (some ⟨b1, 4, none⟩)), (141, .bool true)] w7 (by kernel_rfl) ?_
                    refine J.ok (OK.ldBox S7 0 143 3 4 (iv i.gK) (by kernel_rfl) rfl (by kernel_rfl)) ?_
                    refine J.run 4 K24_64 [(2, .bool (decide (i.gK ≤ 15)))] w7 (by kernel_rfl) ?_
                    refine J.ret Tryz.f24 [.bool (decide (i.gK ≤ 15))] Tryz.func24 ⟨by kernel_rfl, trivial⟩ ?_
                    refine hR _ _ ?_
                    exact ⟨congrArg Value.bool (by show (decide (i.gK ≤ 15)) = decide (formP i.gOp i.gA i.gB i.gC i.gK); by_cases hz_ : i.gK ≤ 15; (rw [(decide_eq_true hz_)]; first | exact (decide_eq_true (by omega)).symm | exact (decide_eq_false (by omega)).symm); (rw [(decide_eq_false hz_)]; first | exact (decide_eq_false (by omega)).symm | exact (decide_eq_true (by omega)).symm)), S7.nil⟩
                   ·skip
                    refine J.head (.bool false) (congrArg Value.bool (decide_eq_false fk21)) ?_
                    refine J.run 6 K24_65 [(2, .bool false)] w7 (by kernel_rfl) ?_
                    refine J.ret Tryz.f24 [.bool false] Tryz.func24 ⟨by kernel_rfl, trivial⟩ ?_
                    refine hR _ _ ?_
                    exact ⟨congrArg Value.bool (decide_eq_false (show ¬ (formP i.gOp i.gA i.gB i.gC i.gK) by omega)).symm, S7.nil⟩
                  ·skip
                   refine J.head (.bool false) (congrArg Value.bool (beq_eq_false_iff_ne.2 fk20)) ?_
                   refine J.run 6 K24_66 [(146, .bool (i.gOp == 22)), (1, pv b1)] w7 (by kernel_rfl) ?_
                   by_cases fk22 : i.gOp = 22
                   ·skip
                    refine J.head (.bool true) (congrArg Value.bool (beq_iff_eq.2 fk22)) ?_
                    refine J.run 4 K24_67 [(148, .pointer (some ⟨b1, 4, none⟩)), (1, pv b1)] w7 (by kernel_rfl) ?_
                    refine J.ok (OK.ldBox S7 0 149 3 4 (iv i.gK) (by kernel_rfl) rfl (by kernel_rfl)) ?_
                    refine J.run 2 K24_68 [(151, .bool (decide (i.gK ≥ 0))), (1, pv b1)] w7 (by kernel_rfl) ?_
                    by_cases fk23 : i.gK ≥ 0
                    ·skip
                     refine J.head (.bool true) (congrArg Value.bool (decide_eq_true fk23)) ?_
                     refine J.run 1 K24_69 [(152, .pointer (some ⟨b1, 4, none⟩)), (151, .bool true), (1, pv b1)] w7 (by kernel_rfl) ?_
                     refine J.ok (OK.ldBox S7 0 153 3 4 (iv i.gK) (by kernel_rfl) rfl (by kernel_rfl)) ?_
                     refine J.run 3 K24_70 [(156, .bool (decide (i.gK ≤ 32767))), (1, pv b1)] w7 (by kernel_rfl) ?_
                     by_cases fk24 : i.gK ≤ 32767
                     ·skip
                      refine J.head (.bool true) (congrArg Value.bool (decide_eq_true fk24)) ?_
                      refine J.run 1 K24_71 [(157, .pointer (some ⟨b1, 4, none⟩)), (156, .bool true)] w7 (by kernel_rfl) ?_
                      refine J.ok (OK.ldBox S7 0 158 3 4 (iv i.gK) (by kernel_rfl) rfl (by kernel_rfl)) ?_
                      refine J.run 1 K24_72 [(159, iv (Int.tmod i.gK 32)), (156, .bool true)] w7 (by kernel_rfl) ?_
                      refine J.head (iv (i.gK % 32)) (congrArg (Value.int .i64) (IntWalk.rem_in _ _ (by omega))) ?_
                      refine J.run 4 K24_73 [(2, .bool (decide ((i.gK % 32) ≤ 20)))] w7 (by kernel_rfl) ?_
                      refine J.ret Tryz.f24 [.bool (decide ((i.gK % 32) ≤ 20))] Tryz.func24 ⟨by kernel_rfl, trivial⟩ ?_
                      refine hR _ _ ?_
                      exact ⟨congrArg Value.bool (by show (decide ((i.gK % 32) ≤ 20)) = decide (formP i.gOp i.gA i.gB i.gC i.gK); by_cases hz_ : (i.gK % 32) ≤ 20; (rw [(decide_eq_true hz_)]; first | exact (decide_eq_true (by omega)).symm | exact (decide_eq_false (by omega)).symm); (rw [(decide_eq_false hz_)]; first | exact (decide_eq_false (by omega)).symm | exact (decide_eq_true (by omega)).symm)), S7.nil⟩
                     ·skip
                      refine J.head (.bool false) (congrArg Value.bool (decide_eq_false fk24)) ?_
                      refine J.run 7 K24_74 [(2, .bool false)] w7 (by kernel_rfl) ?_
                      refine J.ret Tryz.f24 [.bool false] Tryz.func24 ⟨by kernel_rfl, trivial⟩ ?_
                      refine hR _ _ ?_
                      exact ⟨congrArg Value.bool (decide_eq_false (show ¬ (formP i.gOp i.gA i.gB i.gC i.gK) by omega)).symm, S7.nil⟩
                    ·skip
                     refine J.head (.bool false) (congrArg Value.bool (decide_eq_false fk23)) ?_
                     refine J.run 12 K24_75 [(2, .bool false)] w7 (by kernel_rfl) ?_
                     refine J.ret Tryz.f24 [.bool false] Tryz.func24 ⟨by kernel_rfl, trivial⟩ ?_
                     refine hR _ _ ?_
                     exact ⟨congrArg Value.bool (decide_eq_false (show ¬ (formP i.gOp i.gA i.gB i.gC i.gK) by omega)).symm, S7.nil⟩
                   ·skip
                    refine J.head (.bool false) (congrArg Value.bool (beq_eq_false_iff_ne.2 fk22)) ?_
                    refine J.run 6 K24_76 [(162, .pointer (some ⟨b1, 4, none⟩)), (1, pv b1)] w7 (by kernel_rfl) ?_
                    refine J.ok (OK.ldBox S7 0 163 3 4 (iv i.gK) (by kernel_rfl) rfl (by kernel_rfl)) ?_
                    refine J.run 2 K24_77 [(165, .bool (decide (i.gK ≥ 0))), (1, pv b1)] w7 (by kernel_rfl) ?_
                    by_cases fk25 : i.gK ≥ 0
                    ·skip
                     refine J.head (.bool true) (congrArg Value.bool (decide_eq_true fk25)) ?_
                     refine J.run 1 K24_78 [(166, .pointer (some ⟨b1, 4, none⟩)), (165, .bool true)] w7 (by kernel_rfl) ?_
                     refine J.ok (OK.ldBox S7 0 167 3 4 (iv i.gK) (by kernel_rfl) rfl (by kernel_rfl)) ?_
                     refine J.run 4 K24_79 [(2, .bool (decide (i.gK ≤ 32767)))] w7 (by kernel_rfl) ?_
                     refine J.ret Tryz.f24 [.bool (decide (i.gK ≤ 32767))] Tryz.func24 ⟨by kernel_rfl, trivial⟩ ?_
                     refine hR _ _ ?_
                     exact ⟨congrArg Value.bool (by show (decide (i.gK ≤ 32767)) = decide (formP i.gOp i.gA i.gB i.gC i.gK); by_cases hz_ : i.gK ≤ 32767; (rw [(decide_eq_true hz_)]; first | exact (decide_eq_true (by omega)).symm | exact (decide_eq_false (by omega)).symm); (rw [(decide_eq_false hz_)]; first | exact (decide_eq_false (by omega)).symm | exact (decide_eq_true (by omega)).symm)), S7.nil⟩
                    ·skip
                     refine J.head (.bool false) (congrArg Value.bool (decide_eq_false fk25)) ?_
                     refine J.run 6 K24_80 [(2, .bool false)] w7 (by kernel_rfl) ?_
                     refine J.ret Tryz.f24 [.bool false] Tryz.func24 ⟨by kernel_rfl, trivial⟩ ?_
                     refine hR _ _ ?_
                     exact ⟨congrArg Value.bool (decide_eq_false (show ¬ (formP i.gOp i.gA i.gB i.gC i.gK) by omega)).symm, S7.nil⟩
                by_cases fk26 : i.gOp = 13
                ·skip
                 refine J.head (.bool true) (congrArg Value.bool (beq_iff_eq.2 fk26)) ?_
                 refine J.run 2 K24_53 [(85, iv i.gOp), (6, iv ((max i.gK 0) % 128)), (4, iv ((max i.gK 0) / 16384)), (1, pv b1), (122, .bool true)] w6 (by kernel_rfl) ?_
                 exact X4 true w6 (⟨fun h_ => by first | (cases h_; done) | (have h2_ := of_decide_eq_true h_; omega) | (have h2_ := beq_iff_eq.1 h_; omega) | omega, fun h_ => by first | (cases h_; done) | (have h2_ := of_decide_eq_false h_; omega) | (have h2_ := beq_eq_false_iff_ne.1 h_; omega) | omega⟩) S6
                ·skip
                 refine J.head (.bool false) (congrArg Value.bool (beq_eq_false_iff_ne.2 fk26)) ?_
                 refine J.run 5 K24_53 [(85, iv i.gOp), (6, iv ((max i.gK 0) % 128)), (4, iv ((max i.gK 0) / 16384)), (1, pv b1), (122, .bool (i.gOp == 14))] w6 (by kernel_rfl) ?_
                 exact X4 (i.gOp == 14) w6 (⟨fun h_ => by first | (cases h_; done) | (have h2_ := of_decide_eq_true h_; omega) | (have h2_ := beq_iff_eq.1 h_; omega) | omega, fun h_ => by first | (cases h_; done) | (have h2_ := of_decide_eq_false h_; omega) | (have h2_ := beq_eq_false_iff_ne.1 h_; omega) | omega⟩) S6
              by_cases fk27 : i.gOp = 9
              ·skip
               refine J.head (.bool true) (congrArg Value.bool (beq_iff_eq.2 fk27)) ?_
               refine J.run 2 K24_45 [(85, iv i.gOp), (6, iv ((max i.gK 0) % 128)), (5, iv ((max i.gK 0) / 128 % 128)), (4, iv ((max i.gK 0) / 16384)), (1, pv b1), (108, .bool true)] w5 (by kernel_rfl) ?_
               exact X3 true w5 (⟨fun h_ => by first | (cases h_; done) | (have h2_ := of_decide_eq_true h_; omega) | (have h2_ := beq_iff_eq.1 h_; omega) | omega, fun h_ => by first | (cases h_; done) | (have h2_ := of_decide_eq_false h_; omega) | (have h2_ := beq_eq_false_iff_ne.1 h_; omega) | omega⟩) S5
              ·skip
               refine J.head (.bool false) (congrArg Value.bool (beq_eq_false_iff_ne.2 fk27)) ?_
               refine J.run 5 K24_45 [(85, iv i.gOp), (6, iv ((max i.gK 0) % 128)), (5, iv ((max i.gK 0) / 128 % 128)), (4, iv ((max i.gK 0) / 16384)), (1, pv b1), (108, .bool (i.gOp == 10))] w5 (by kernel_rfl) ?_
               exact X3 (i.gOp == 10) w5 (⟨fun h_ => by first | (cases h_; done) | (have h2_ := of_decide_eq_true h_; omega) | (have h2_ := beq_iff_eq.1 h_; omega) | omega, fun h_ => by first | (cases h_; done) | (have h2_ := of_decide_eq_false h_; omega) | (have h2_ := beq_eq_false_iff_ne.1 h_; omega) | omega⟩) S5
            by_cases fk28 : i.gOp = 5
            ·skip
             refine J.head (.bool true) (congrArg Value.bool (beq_iff_eq.2 fk28)) ?_
             refine J.run 2 K24_39 [(85, iv i.gOp), (6, iv ((max i.gK 0) % 128)), (5, iv ((max i.gK 0) / 128 % 128)), (4, iv ((max i.gK 0) / 16384)), (1, pv b1), (96, .bool true)] w4 (by kernel_rfl) ?_
             exact X2 true w4 (⟨fun h_ => by first | (cases h_; done) | (have h2_ := of_decide_eq_true h_; omega) | (have h2_ := beq_iff_eq.1 h_; omega) | omega, fun h_ => by first | (cases h_; done) | (have h2_ := of_decide_eq_false h_; omega) | (have h2_ := beq_eq_false_iff_ne.1 h_; omega) | omega⟩) S4
            ·skip
             refine J.head (.bool false) (congrArg Value.bool (beq_eq_false_iff_ne.2 fk28)) ?_
             refine J.run 6 K24_81 [(96, .bool (i.gOp == 6)), (85, iv i.gOp), (6, iv ((max i.gK 0) % 128)), (5, iv ((max i.gK 0) / 128 % 128)), (4, iv ((max i.gK 0) / 16384)), (1, pv b1)] w4 (by kernel_rfl) ?_
             by_cases fk29 : i.gOp = 6
             ·skip
              refine J.head (.bool true) (congrArg Value.bool (beq_iff_eq.2 fk29)) ?_
              refine J.run 2 K24_39 [(85, iv i.gOp), (6, iv ((max i.gK 0) % 128)), (5, iv ((max i.gK 0) / 128 % 128)), (4, iv ((max i.gK 0) / 16384)), (1, pv b1), (96, .bool true)] w4 (by kernel_rfl) ?_
              exact X2 true w4 (⟨fun h_ => by first | (cases h_; done) | (have h2_ := of_decide_eq_true h_; omega) | (have h2_ := beq_iff_eq.1 h_; omega) | omega, fun h_ => by first | (cases h_; done) | (have h2_ := of_decide_eq_false h_; omega) | (have h2_ := beq_eq_false_iff_ne.1 h_; omega) | omega⟩) S4
             ·skip
              refine J.head (.bool false) (congrArg Value.bool (beq_eq_false_iff_ne.2 fk29)) ?_
              refine J.run 6 K24_82 [(96, .bool (i.gOp == 7)), (85, iv i.gOp), (6, iv ((max i.gK 0) % 128)), (5, iv ((max i.gK 0) / 128 % 128)), (4, iv ((max i.gK 0) / 16384)), (1, pv b1)] w4 (by kernel_rfl) ?_
              by_cases fk30 : i.gOp = 7
              ·skip
               refine J.head (.bool true) (congrArg Value.bool (beq_iff_eq.2 fk30)) ?_
               refine J.run 2 K24_39 [(85, iv i.gOp), (6, iv ((max i.gK 0) % 128)), (5, iv ((max i.gK 0) / 128 % 128)), (4, iv ((max i.gK 0) / 16384)), (1, pv b1), (96, .bool true)] w4 (by kernel_rfl) ?_
               exact X2 true w4 (⟨fun h_ => by first | (cases h_; done) | (have h2_ := of_decide_eq_true h_; omega) | (have h2_ := beq_iff_eq.1 h_; omega) | omega, fun h_ => by first | (cases h_; done) | (have h2_ := of_decide_eq_false h_; omega) | (have h2_ := beq_eq_false_iff_ne.1 h_; omega) | omega⟩) S4
              ·skip
               refine J.head (.bool false) (congrArg Value.bool (beq_eq_false_iff_ne.2 fk30)) ?_
               refine J.run 5 K24_39 [(85, iv i.gOp), (6, iv ((max i.gK 0) % 128)), (5, iv ((max i.gK 0) / 128 % 128)), (4, iv ((max i.gK 0) / 16384)), (1, pv b1), (96, .bool (i.gOp == 8))] w4 (by kernel_rfl) ?_
               exact X2 (i.gOp == 8) w4 (⟨fun h_ => by first | (cases h_; done) | (have h2_ := of_decide_eq_true h_; omega) | (have h2_ := beq_iff_eq.1 h_; omega) | omega, fun h_ => by first | (cases h_; done) | (have h2_ := of_decide_eq_false h_; omega) | (have h2_ := beq_eq_false_iff_ne.1 h_; omega) | omega⟩) S4
         refine J.run 2 K24_83 [(48, .string (fieldsF i.gOp)), (3, .string (fieldsF i.gOp)), (1, pv b1)] w2 (by kernel_rfl) ?_
         refine J.callF 49 60 #[.string (fieldsF i.gOp), .int .u8 66] hb60 (by kernel_rfl) (uses_any (fieldsF i.gOp) 66 _ (by omega)) ?_
         rintro _ w8 ⟨rfl, T3⟩
         have S8 : Sep w [box b1 (insC i) 44] w8 := S2.trans T3
         clear T3 S2
         refine J.run 2 K24_84 [(51, .bool (!(hasF (fieldsF i.gOp) 66))), (3, .string (fieldsF i.gOp)), (1, pv b1)] w8 (by kernel_rfl) ?_
         rcases Bool.eq_false_or_eq_true (hasF (fieldsF i.gOp) 66) with fk31 | fk31
         ·skip
          refine J.head (.bool false) (congrArg Value.bool (by rw [fk31]; rfl)) ?_
          have fb9 := (has_B (op := i.gOp) (by omega)).1 fk31
          refine J.run 6 K24_85 [(57, .string (fieldsF i.gOp)), (56, .bool false), (3, .string (fieldsF i.gOp)), (1, pv b1)] w8 (by kernel_rfl) ?_
          refine J.callF 58 60 #[.string (fieldsF i.gOp), .int .u8 67] hb60 (by kernel_rfl) (uses_any (fieldsF i.gOp) 67 _ (by omega)) ?_
          rintro _ w9 ⟨rfl, T4⟩
          have S9 : Sep w [box b1 (insC i) 44] w9 := S8.trans T4
          clear T4 S8
          refine J.run 2 K24_86 [(60, .bool (!(hasF (fieldsF i.gOp) 67))), (56, .bool false), (3, .string (fieldsF i.gOp)), (1, pv b1)] w9 (by kernel_rfl) ?_
          rcases Bool.eq_false_or_eq_true (hasF (fieldsF i.gOp) 67) with fk32 | fk32
          ·skip
           refine J.head (.bool false) (congrArg Value.bool (by rw [fk32]; rfl)) ?_
           have fb10 := (has_C (op := i.gOp) (by omega)).1 fk32
           refine J.run 7 K24_87 [(67, .string (fieldsF i.gOp)), (66, .bool false), (1, pv b1)] w9 (by kernel_rfl) ?_
           refine J.callF 68 60 #[.string (fieldsF i.gOp), .int .u8 75] hb60 (by kernel_rfl) (uses_any (fieldsF i.gOp) 75 _ (by omega)) ?_
           rintro _ w10 ⟨rfl, T5⟩
           have S10 : Sep w [box b1 (insC i) 44] w10 := S9.trans T5
           clear T5 S9
           refine J.run 2 K24_88 [(70, .bool (!(hasF (fieldsF i.gOp) 75))), (66, .bool false), (1, pv b1)] w10 (by kernel_rfl) ?_
           rcases Bool.eq_false_or_eq_true (hasF (fieldsF i.gOp) 75) with fk33 | fk33
           ·skip
            refine J.head (.bool false) (congrArg Value.bool (by rw [fk33]; rfl)) ?_
            have fb11 := (has_K (op := i.gOp) (by omega)).1 fk33
            refine J.run 6 K24_27 [(1, pv b1), (75, .bool false)] w10 (by kernel_rfl) ?_
            exact X1 false w10 (⟨fun h_ => by first | (cases h_; done) | (have h2_ := of_decide_eq_true h_; omega) | (have h2_ := bne_iff_ne.1 h_; omega) | omega, fun h_ => by first | (cases h_; done) | (have h2_ := of_decide_eq_false h_; omega) | (have h2_ := bne_eq_false_iff_eq.1 h_; omega) | omega⟩) S10
           ·skip
            refine J.head (.bool true) (congrArg Value.bool (by rw [fk33]; rfl)) ?_
            have fb12 := mt (has_K (op := i.gOp) (by omega)).2 (by rw [fk33]; decide)
            refine J.run 1 K24_89 [(71, .pointer (some ⟨b1, 4, none⟩)), (70, .bool true), (66, .bool false), (1, pv b1)] w10 (by kernel_rfl) ?_
            refine J.ok (OK.ldBox S10 0 72 3 4 (iv i.gK) (by kernel_rfl) rfl (by kernel_rfl)) ?_
            refine J.run 4 K24_27 [(1, pv b1), (75, .bool (i.gK != 0))] w10 (by kernel_rfl) ?_
            exact X1 (i.gK != 0) w10 (⟨fun h_ => by first | (cases h_; done) | (have h2_ := of_decide_eq_true h_; omega) | (have h2_ := bne_iff_ne.1 h_; omega) | omega, fun h_ => by first | (cases h_; done) | (have h2_ := of_decide_eq_false h_; omega) | (have h2_ := bne_eq_false_iff_eq.1 h_; omega) | omega⟩) S10
          ·skip
           refine J.head (.bool true) (congrArg Value.bool (by rw [fk32]; rfl)) ?_
           have fb13 := mt (has_C (op := i.gOp) (by omega)).2 (by rw [fk32]; decide)
           refine J.run 1 K24_90 [(61, .pointer (some ⟨b1, 3, none⟩)), (60, .bool true), (56, .bool false), (3, .string (fieldsF i.gOp)), (1, pv b1)] w9 (by kernel_rfl) ?_
           refine J.ok (OK.ldBox S9 0 62 3 3 (iv i.gC) (by kernel_rfl) rfl (by kernel_rfl)) ?_
           refine J.run 4 K24_91 [(66, .bool (i.gC != 0)), (3, .string (fieldsF i.gOp)), (1, pv b1)] w9 (by kernel_rfl) ?_
           by_cases fk34 : i.gC = 0
           ·skip
            refine J.head (.bool false) (congrArg Value.bool (bne_eq_false_iff_eq.2 fk34)) ?_
            refine J.run 1 K24_92 [(67, .string (fieldsF i.gOp)), (66, .bool false), (1, pv b1)] w9 (by kernel_rfl) ?_
            refine J.callF 68 60 #[.string (fieldsF i.gOp), .int .u8 75] hb60 (by kernel_rfl) (uses_any (fieldsF i.gOp) 75 _ (by omega)) ?_
            rintro _ w11 ⟨rfl, T6⟩
            have S11 : Sep w [box b1 (insC i) 44] w11 := S9.trans T6
            clear T6 S9
            refine J.run 2 K24_93 [(70, .bool (!(hasF (fieldsF i.gOp) 75))), (66, .bool false), (1, pv b1)] w11 (by kernel_rfl) ?_
            rcases Bool.eq_false_or_eq_true (hasF (fieldsF i.gOp) 75) with fk35 | fk35
            ·skip
             refine J.head (.bool false) (congrArg Value.bool (by rw [fk35]; rfl)) ?_
             have fb14 := (has_K (op := i.gOp) (by omega)).1 fk35
             refine J.run 6 K24_27 [(1, pv b1), (75, .bool false)] w11 (by kernel_rfl) ?_
             exact X1 false w11 (⟨fun h_ => by first | (cases h_; done) | (have h2_ := of_decide_eq_true h_; omega) | (have h2_ := bne_iff_ne.1 h_; omega) | omega, fun h_ => by first | (cases h_; done) | (have h2_ := of_decide_eq_false h_; omega) | (have h2_ := bne_eq_false_iff_eq.1 h_; omega) | omega⟩) S11
            ·skip
             refine J.head (.bool true) (congrArg Value.bool (by rw [fk35]; rfl)) ?_
             have fb15 := mt (has_K (op := i.gOp) (by omega)).2 (by rw [fk35]; decide)
             refine J.run 1 K24_94 [(71, .pointer (some ⟨b1, 4, none⟩)), (70, .bool true), (66, .bool false), (1, pv b1)] w11 (by kernel_rfl) ?_
             refine J.ok (OK.ldBox S11 0 72 3 4 (iv i.gK) (by kernel_rfl) rfl (by kernel_rfl)) ?_
             refine J.run 4 K24_27 [(1, pv b1), (75, .bool (i.gK != 0))] w11 (by kernel_rfl) ?_
             exact X1 (i.gK != 0) w11 (⟨fun h_ => by first | (cases h_; done) | (have h2_ := of_decide_eq_true h_; omega) | (have h2_ := bne_iff_ne.1 h_; omega) | omega, fun h_ => by first | (cases h_; done) | (have h2_ := of_decide_eq_false h_; omega) | (have h2_ := bne_eq_false_iff_eq.1 h_; omega) | omega⟩) S11
           ·skip
            refine J.head (.bool true) (congrArg Value.bool (bne_iff_ne.2 fk34)) ?_
            refine J.run 10 K24_27 [(1, pv b1), (75, .bool true)] w9 (by kernel_rfl) ?_
            exact X1 true w9 (⟨fun h_ => by first | (cases h_; done) | (have h2_ := of_decide_eq_true h_; omega) | (have h2_ := bne_iff_ne.1 h_; omega) | omega, fun h_ => by first | (cases h_; done) | (have h2_ := of_decide_eq_false h_; omega) | (have h2_ := bne_eq_false_iff_eq.1 h_; omega) | omega⟩) S9
         ·skip
          refine J.head (.bool true) (congrArg Value.bool (by rw [fk31]; rfl)) ?_
          have fb16 := mt (has_B (op := i.gOp) (by omega)).2 (by rw [fk31]; decide)
          refine J.run 1 K24_95 [(52, .pointer (some ⟨b1, 2, none⟩)), (51, .bool true), (3, .string (fieldsF i.gOp)), (1, pv b1)] w8 (by kernel_rfl) ?_
          refine J.ok (OK.ldBox S8 0 53 3 2 (iv i.gB) (by kernel_rfl) rfl (by kernel_rfl)) ?_
          refine J.run 3 K24_96 [(56, .bool (i.gB != 0)), (3, .string (fieldsF i.gOp)), (1, pv b1)] w8 (by kernel_rfl) ?_
          by_cases fk36 : i.gB = 0
          ·skip
           refine J.head (.bool false) (congrArg Value.bool (bne_eq_false_iff_eq.2 fk36)) ?_
           refine J.run 1 K24_97 [(57, .string (fieldsF i.gOp)), (56, .bool false), (3, .string (fieldsF i.gOp)), (1, pv b1)] w8 (by kernel_rfl) ?_
           refine J.callF 58 60 #[.string (fieldsF i.gOp), .int .u8 67] hb60 (by kernel_rfl) (uses_any (fieldsF i.gOp) 67 _ (by omega)) ?_
           rintro _ w12 ⟨rfl, T7⟩
           have S12 : Sep w [box b1 (insC i) 44] w12 := S8.trans T7
           clear T7 S8
           refine J.run 2 K24_98 [(60, .bool (!(hasF (fieldsF i.gOp) 67))), (56, .bool false), (3, .string (fieldsF i.gOp)), (1, pv b1)] w12 (by kernel_rfl) ?_
           rcases Bool.eq_false_or_eq_true (hasF (fieldsF i.gOp) 67) with fk37 | fk37
           ·skip
            refine J.head (.bool false) (congrArg Value.bool (by rw [fk37]; rfl)) ?_
            have fb17 := (has_C (op := i.gOp) (by omega)).1 fk37
            refine J.run 7 K24_99 [(67, .string (fieldsF i.gOp)), (66, .bool false), (1, pv b1)] w12 (by kernel_rfl) ?_
            refine J.callF 68 60 #[.string (fieldsF i.gOp), .int .u8 75] hb60 (by kernel_rfl) (uses_any (fieldsF i.gOp) 75 _ (by omega)) ?_
            rintro _ w13 ⟨rfl, T8⟩
            have S13 : Sep w [box b1 (insC i) 44] w13 := S12.trans T8
            clear T8 S12
            refine J.run 2 K24_100 [(70, .bool (!(hasF (fieldsF i.gOp) 75))), (66, .bool false), (1, pv b1)] w13 (by kernel_rfl) ?_
            rcases Bool.eq_false_or_eq_true (hasF (fieldsF i.gOp) 75) with fk38 | fk38
            ·skip
             refine J.head (.bool false) (congrArg Value.bool (by rw [fk38]; rfl)) ?_
             have fb18 := (has_K (op := i.gOp) (by omega)).1 fk38
             refine J.run 6 K24_27 [(1, pv b1), (75, .bool false)] w13 (by kernel_rfl) ?_
             exact X1 false w13 (⟨fun h_ => by first | (cases h_; done) | (have h2_ := of_decide_eq_true h_; omega) | (have h2_ := bne_iff_ne.1 h_; omega) | omega, fun h_ => by first | (cases h_; done) | (have h2_ := of_decide_eq_false h_; omega) | (have h2_ := bne_eq_false_iff_eq.1 h_; omega) | omega⟩) S13
            ·skip
             refine J.head (.bool true) (congrArg Value.bool (by rw [fk38]; rfl)) ?_
             have fb19 := mt (has_K (op := i.gOp) (by omega)).2 (by rw [fk38]; decide)
             refine J.run 1 K24_101 [(71, .pointer (some ⟨b1, 4, none⟩)), (70, .bool true), (66, .bool false), (1, pv b1)] w13 (by kernel_rfl) ?_
             refine J.ok (OK.ldBox S13 0 72 3 4 (iv i.gK) (by kernel_rfl) rfl (by kernel_rfl)) ?_
             refine J.run 4 K24_27 [(1, pv b1), (75, .bool (i.gK != 0))] w13 (by kernel_rfl) ?_
             exact X1 (i.gK != 0) w13 (⟨fun h_ => by first | (cases h_; done) | (have h2_ := of_decide_eq_true h_; omega) | (have h2_ := bne_iff_ne.1 h_; omega) | omega, fun h_ => by first | (cases h_; done) | (have h2_ := of_decide_eq_false h_; omega) | (have h2_ := bne_eq_false_iff_eq.1 h_; omega) | omega⟩) S13
           ·skip
            refine J.head (.bool true) (congrArg Value.bool (by rw [fk37]; rfl)) ?_
            have fb20 := mt (has_C (op := i.gOp) (by omega)).2 (by rw [fk37]; decide)
            refine J.run 1 K24_102 [(61, .pointer (some ⟨b1, 3, none⟩)), (60, .bool true), (56, .bool false), (3, .string (fieldsF i.gOp)), (1, pv b1)] w12 (by kernel_rfl) ?_
            refine J.ok (OK.ldBox S12 0 62 3 3 (iv i.gC) (by kernel_rfl) rfl (by kernel_rfl)) ?_
            refine J.run 4 K24_103 [(66, .bool (i.gC != 0)), (3, .string (fieldsF i.gOp)), (1, pv b1)] w12 (by kernel_rfl) ?_
            by_cases fk39 : i.gC = 0
            ·skip
             refine J.head (.bool false) (congrArg Value.bool (bne_eq_false_iff_eq.2 fk39)) ?_
             refine J.run 1 K24_104 [(67, .string (fieldsF i.gOp)), (66, .bool false), (1, pv b1)] w12 (by kernel_rfl) ?_
             refine J.callF 68 60 #[.string (fieldsF i.gOp), .int .u8 75] hb60 (by kernel_rfl) (uses_any (fieldsF i.gOp) 75 _ (by omega)) ?_
             rintro _ w14 ⟨rfl, T9⟩
             have S14 : Sep w [box b1 (insC i) 44] w14 := S12.trans T9
             clear T9 S12
             refine J.run 2 K24_105 [(70, .bool (!(hasF (fieldsF i.gOp) 75))), (66, .bool false), (1, pv b1)] w14 (by kernel_rfl) ?_
             rcases Bool.eq_false_or_eq_true (hasF (fieldsF i.gOp) 75) with fk40 | fk40
             ·skip
              refine J.head (.bool false) (congrArg Value.bool (by rw [fk40]; rfl)) ?_
              have fb21 := (has_K (op := i.gOp) (by omega)).1 fk40
              refine J.run 6 K24_27 [(1, pv b1), (75, .bool false)] w14 (by kernel_rfl) ?_
              exact X1 false w14 (⟨fun h_ => by first | (cases h_; done) | (have h2_ := of_decide_eq_true h_; omega) | (have h2_ := bne_iff_ne.1 h_; omega) | omega, fun h_ => by first | (cases h_; done) | (have h2_ := of_decide_eq_false h_; omega) | (have h2_ := bne_eq_false_iff_eq.1 h_; omega) | omega⟩) S14
             ·skip
              refine J.head (.bool true) (congrArg Value.bool (by rw [fk40]; rfl)) ?_
              have fb22 := mt (has_K (op := i.gOp) (by omega)).2 (by rw [fk40]; decide)
              refine J.run 1 K24_106 [(71, .pointer (some ⟨b1, 4, none⟩)), (70, .bool true), (66, .bool false), (1, pv b1)] w14 (by kernel_rfl) ?_
              refine J.ok (OK.ldBox S14 0 72 3 4 (iv i.gK) (by kernel_rfl) rfl (by kernel_rfl)) ?_
              refine J.run 4 K24_27 [(1, pv b1), (75, .bool (i.gK != 0))] w14 (by kernel_rfl) ?_
              exact X1 (i.gK != 0) w14 (⟨fun h_ => by first | (cases h_; done) | (have h2_ := of_decide_eq_true h_; omega) | (have h2_ := bne_iff_ne.1 h_; omega) | omega, fun h_ => by first | (cases h_; done) | (have h2_ := of_decide_eq_false h_; omega) | (have h2_ := bne_eq_false_iff_eq.1 h_; omega) | omega⟩) S14
            ·skip
             refine J.head (.bool true) (congrArg Value.bool (bne_iff_ne.2 fk39)) ?_
             refine J.run 10 K24_27 [(1, pv b1), (75, .bool true)] w12 (by kernel_rfl) ?_
             exact X1 true w12 (⟨fun h_ => by first | (cases h_; done) | (have h2_ := of_decide_eq_true h_; omega) | (have h2_ := bne_iff_ne.1 h_; omega) | omega, fun h_ => by first | (cases h_; done) | (have h2_ := of_decide_eq_false h_; omega) | (have h2_ := bne_eq_false_iff_eq.1 h_; omega) | omega⟩) S12
          ·skip
           refine J.head (.bool true) (congrArg Value.bool (bne_iff_ne.2 fk36)) ?_
           refine J.run 20 K24_27 [(1, pv b1), (75, .bool true)] w8 (by kernel_rfl) ?_
           exact X1 true w8 (⟨fun h_ => by first | (cases h_; done) | (have h2_ := of_decide_eq_true h_; omega) | (have h2_ := bne_iff_ne.1 h_; omega) | omega, fun h_ => by first | (cases h_; done) | (have h2_ := of_decide_eq_false h_; omega) | (have h2_ := bne_eq_false_iff_eq.1 h_; omega) | omega⟩) S8

end Go.Proofs.YthfpejhonhaggaaGreatDoor

